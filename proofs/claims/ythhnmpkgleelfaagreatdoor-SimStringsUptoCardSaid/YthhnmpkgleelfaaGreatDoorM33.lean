import Derived.Test.YthhnmpkgleelfaaGreatDoorM32
import Derived.Test.YthhnmpkgleelfaaGreatDoorM7
import Derived.Deep.RegionHeld
import Derived.Test.YthhnmpkgleelfaaGreatDoorM13
import Derived.Test.YthhnmpkgleelfaaGreatDoorM15
import Derived.Test.YthhnmpkgleelfaaGreatDoorM14
import Derived.Laws.EntriesVeiled
set_option linter.unusedVariables false
set_option linter.unusedSimpArgs false
namespace Go.Proofs.YthhnmpkgleelfaaGreatDoor
open Go.RowKit Go.Shelf
def AtF (f : Nat → List St → Nat × List St) : Prop := ∀ t L, AtM L → AtM (f t L).2
theorem AtM.snoc {L : List St} {z : St} (h : AtM L) (hz : ∀ r t, z = .eat r t → AtR r) : AtM (L ++ [z]) := by
 intro r t hm
 rcases List.mem_append.1 hm with hm | hm
 ·exact h r t hm
 ·exact hz r t (List.mem_singleton.1 hm).symm
theorem AtF.it {f : Nat → List St → Nat × List St} (h : AtF f) : ∀ n, AtF (itF f n)
 | 0 => fun _ _ hL => hL
 | n + 1 => fun t L hL => by rw [itF]; exact AtF.it h n _ _ (h t L hL)
theorem AtF.opt {f : Nat → List St → Nat × List St} (h : AtF f) (t : Nat) : AtF (optF f t) := fun a L hL => (h a L hL).snoc (fun _ _ e => by cases e)
theorem lay_at : ∀ r : Rx, r.ok → AtF (layF r)
 | .emp, _ => fun _ _ hL => hL
 | .chr c, h => fun _ _ hL => hL.snoc (fun _ _ e => by cases e; exact h)
 | .any, _ => fun _ _ hL => hL.snoc (fun _ _ e => by cases e; trivial)
 | .set cs, h => fun _ _ hL => hL.snoc (fun _ _ e => by cases e; exact h)
 | .beg, _ => fun _ _ hL => hL.snoc (fun _ _ e => by cases e)
 | .fin, _ => fun _ _ hL => hL.snoc (fun _ _ e => by cases e)
 | .cat a b, h => fun t L hL => by rw [layF]; exact lay_at a h.1 _ _ (lay_at b h.2 _ _ hL)
 | .alt a b, h => fun t L hL => by rw [layF]; exact (lay_at a h.1 _ _ (lay_at b h.2 _ _ hL)).snoc (fun _ _ e => by cases e)
 | .rep x mn mx, h => fun t L hL => by
  have ix := lay_at x h.1
  rw [layF_rep]
  refine ix.it _ _ _ ?_
  unfold repA
  split
  ·intro r q hm
   rcases List.mem_or_eq_of_mem_set hm with hm | e
   ·exact ix _ _ (hL.snoc (fun _ _ e => by cases e)) r q hm
   ·cases e
  ·exact (ix.opt t).it _ _ _ hL
structure MOk (M : List St) (st : Nat) : Prop where
 wf : Wf M
 at_ : AtM M
 zero : M[0]? = some .done
 st : st < M.length
 len : M.length ≤ 3000
theorem mc_ok {r : Rx} (ho : r.ok) (h : statesF r ≤ 3000) : MOk (mcS r) (mcT r) :=
 ⟨(mc_wf r).1, lay_at r ho 0 [.done] (fun _ _ h => by cases List.mem_singleton.1 h), mc_zero r, (mc_wf r).2, by have := mc_len ho h; omega⟩
structure Chg (F : Nat → Prop) (w w' : World) : Prop where
 os : w'.os = w.os
 tape : w'.tape = w.tape
 output : w'.output = w.output
 size : w.heap.size ≤ w'.heap.size
 block : ∀ k, k < w.heap.size → ¬ F k → w'.heap[k]? = w.heap[k]?
theorem Chg.of_below {F : Nat → Prop} {w w' : World} (h : Below w.heap.size w w') : Chg F w w' := ⟨h.os, h.tape, h.output, h.size, fun k hk _ => h.block k hk⟩
theorem Chg.refl (F : Nat → Prop) (w : World) : Chg F w w := Chg.of_below (Below.refl _ _)
theorem Chg.trans {F G : Nat → Prop} {a b c : World} (h : Chg F a b) (k : Chg G b c) (hg : ∀ i, G i → F i ∨ a.heap.size ≤ i) : Chg F a c :=
 ⟨k.os.trans h.os, k.tape.trans h.tape, k.output.trans h.output, Nat.le_trans h.size k.size, fun i hi hf => (k.block i (Nat.lt_of_lt_of_le hi h.size) (fun hG => by rcases hg i hG with h1 | h1; exact hf h1; omega)).trans (h.block i hi hf)⟩
theorem Chg.mono {F G : Nat → Prop} {a b : World} (h : Chg F a b) (hg : ∀ i, F i → G i) : Chg G a b := ⟨h.os, h.tape, h.output, h.size, fun i hi hn => h.block i hi (fun hf => hn (hg i hf))⟩
theorem Chg.below {F : Nat → Prop} {B : Nat} {w w' : World} (h : Chg F w w') (hB : B ≤ w.heap.size) (hf : ∀ i, F i → B ≤ i) : Below B w w' := ⟨h.os, h.tape, h.output, h.size, fun k hk => h.block k (Nat.lt_of_lt_of_le hk hB) (fun hF => by have := hf k hF; omega)⟩
theorem Chg.set {w : World} (g j : Nat) (u : Value) : Chg (fun k => k = g) w (w.setCell ⟨g, j, none⟩ u) := ⟨rfl, rfl, rfl, by simp, fun k _ hk => Below.heap_setCell w _ u k hk⟩
theorem Chg.grown {w w' : World} {o : Option Nat} (h : w.grownBy w' o) : Chg (fun k => o = some k) w w' := ⟨h.os, h.tape, h.output, h.size, fun k hk hn => h.block k hk (fun e => hn e.symm)⟩
theorem own_stay {w w' : World} {base k n : Nat} {e : TypeId} {v : Value} {us : List Value} (h : w.ownsRow base e k v n us) (hs : ∀ b, v.ownBlock = some b → w'.heap[b]? = w.heap[b]?) : w'.ownsRow base e k v n us := by
 obtain ⟨h1, ⟨rfl, h0⟩ | ⟨g, cap, cur, rfl, hbg, hg, r⟩⟩ := h
 ·exact ⟨h1, .inl ⟨rfl, h0⟩⟩
 ·exact ⟨h1, .inr ⟨g, cap, cur, rfl, hbg, (hs g rfl).trans hg, r⟩⟩
theorem Ints.stay {F : Nat → Prop} {w w' : World} {base : Nat} {v : Value} {l : List Int} (h : Ints w base v l) (hc : Chg F w w') (hf : ∀ b, v.ownBlock = some b → ¬ F b) : Ints w' base v l :=
 own_stay h (fun b hb => by obtain ⟨_, cur, hg⟩ := ownsRow_block h hb; exact hc.block b (lt_of_heap hg) (hf b hb))
def MchB (M : List St) (st mg B : Nat) (w : World) : Prop := ∃ w0 : World, w0.heap.size = B ∧ Mch w0 mg M st ∧ Below B w0 w
theorem MchB.start {M : List St} {st mg : Nat} {w : World} (h : Mch w mg M st) : MchB M st mg w.heap.size w := ⟨w, rfl, h, Below.refl _ _⟩
theorem MchB.mch {M : List St} {st mg B : Nat} {w : World} (h : MchB M st mg B w) : Mch w mg M st := by
 obtain ⟨w0, rfl, h1, h2⟩ := h
 exact h1.below h2
theorem MchB.then {M : List St} {st mg B : Nat} {w w' : World} (h : MchB M st mg B w) (hb : Below B w w') : MchB M st mg B w' := by
 obtain ⟨w0, h0, h1, h2⟩ := h
 exact ⟨w0, h0, h1, h2.trans hb⟩
theorem MchB.size {M : List St} {st mg B : Nat} {w : World} (h : MchB M st mg B w) : B ≤ w.heap.size := by
 obtain ⟨w0, rfl, h1, h2⟩ := h
 exact h2.size
def runC (mg pg n : Nat) (vs ve : Value) (E : Bool) : Array Value := #[.pointer (some ⟨mg, 0, none⟩), .int .i64 n, vs, ve, .bool E, .func (.func 42) #[] #[.pointer (some ⟨pg, 0, none⟩)]]
def Foot (g pg : Nat) (vs ve : Value) (k : Nat) : Prop := k = g ∨ k = pg ∨ vs.ownBlock = some k ∨ ve.ownBlock = some k
structure RunR (M : List St) (st mg B g pg : Nat) (s : List Int) (E : Bool) (vs ve : Value) (w : World) : Prop where
 mch : MchB M st mg B w
 gB : B ≤ g
 pB : B ≤ pg
 row : w.heap[g]? = some (.cells (runC mg pg s.length vs ve E) 82 (0, 0))
 cap : w.heap[pg]? = some (.cells #[.pointer (some ⟨mg, 0, none⟩)] 24 (0, 0))
 set : ∃ y, Ints w B vs (idx 0 y) ∧ SetAt M st s y
 ends : ∃ z, Ints w B ve (idx 0 z) ∧ EndsAt M st s E z
 sep : ∀ k, vs.ownBlock = some k → ve.ownBlock ≠ some k
theorem RunR.foot {M : List St} {st mg B g pg : Nat} {s : List Int} {E : Bool} {vs ve : Value} {w : World} (h : RunR M st mg B g pg s E vs ve w) {k : Nat} (hk : Foot g pg vs ve k) : B ≤ k ∧ k < w.heap.size := by
 obtain ⟨y, hy, -⟩ := h.set
 obtain ⟨z, hz, -⟩ := h.ends
 rcases hk with rfl | rfl | hk | hk
 ·exact ⟨h.gB, lt_of_heap h.row⟩
 ·exact ⟨h.pB, lt_of_heap h.cap⟩
 ·obtain ⟨h1, _, h2⟩ := ownsRow_block hy hk; exact ⟨h1, lt_of_heap h2⟩
 ·obtain ⟨h1, _, h2⟩ := ownsRow_block hz hk; exact ⟨h1, lt_of_heap h2⟩
theorem RunR.stay {M : List St} {st mg B g pg : Nat} {s : List Int} {E : Bool} {vs ve : Value} {w w' : World} {F : Nat → Prop} (h : RunR M st mg B g pg s E vs ve w) (hc : Chg F w w') (hB : ∀ k, F k → B ≤ k) (hf : ∀ k, Foot g pg vs ve k → ¬ F k) : RunR M st mg B g pg s E vs ve w' := by
 obtain ⟨y, hy, hs⟩ := h.set
 obtain ⟨z, hz, he⟩ := h.ends
 exact ⟨h.mch.then (hc.below h.mch.size hB), h.gB, h.pB, (hc.block _ (lt_of_heap h.row) (hf _ (.inl rfl))).trans h.row, (hc.block _ (lt_of_heap h.cap) (hf _ (.inr (.inl rfl)))).trans h.cap,
  ⟨y, hy.stay hc (fun b hb => hf b (.inr (.inr (.inl hb)))), hs⟩, ⟨z, hz.stay hc (fun b hb => hf b (.inr (.inr (.inr hb)))), he⟩, h.sep⟩
def EnP (M : List St) (st mg B g pg n : Nat) (z : List Bool) (fb : Bool) (l : List Int) (ve0 : Value) (w : World) (e : Ending) (w' : World) : Prop :=
 ∃ (y : List Bool) (vs ve : Value) (b : Bool), e = .returned (.tuple #[]) ∧ StillY M fb false (l ++ [(st : Int)]) y ∧ y[0]? = some b ∧ w'.heap[g]? = some (.cells (runC mg pg n vs ve false) 82 (0, 0)) ∧ Ints w' B vs (idx 0 y) ∧ Ints w' B ve (idx 0 (z ++ [b])) ∧ (∀ k, vs.ownBlock = some k → w.heap.size ≤ k) ∧ (∀ k, ve.ownBlock = some k → ve0.ownBlock = some k ∨ w.heap.size ≤ k) ∧ (∀ k, vs.ownBlock = some k → ve.ownBlock ≠ some k) ∧ Chg (fun k => k = g ∨ ve0.ownBlock = some k) w w'
theorem int_snoc {w : World} {base : Nat} {v : Value} {l : List Int} {c : Int} (h : w.ownsRow base 3 1 v (l.length + 1) (l.map intV ++ [.int .i64 c])) : Ints w base v (l ++ [c]) := by
 unfold Ints
 rw [List.length_append, List.map_append]
 exact h
theorem run_cells {w : World} {g mg pg n : Nat} {vs ve : Value} {E : Bool} (h : w.heap[g]? = some (.cells (runC mg pg n vs ve E) 82 (0, 0))) : w.cell? ⟨g, 0, none⟩ = some (.pointer (some ⟨mg, 0, none⟩)) ∧ w.cell? ⟨g, 1, none⟩ = some (.int .i64 n) := ⟨row_cell h (j := 0) rfl, row_cell h (j := 1) rfl⟩
set_option maxHeartbeats 16000000 in
set_option maxRecDepth 100000 in
theorem enter_any {M : List St} {st mg B g pg n n0 q0 : Nat} {z : List Bool} {l : List Int} {vs0 ve0 : Value} {A0 : Option Addr} {w : World} {fb : Bool} (hmo : MOk M st) (hm : MchB M st mg B w) (gB : B ≤ g) (hrow : w.heap[g]? = some (.cells (runC mg pg n vs0 ve0 false) 82 (0, 0))) (he : Ints w B ve0 (idx 0 z)) (hz : z.length = n) (hn : n ≤ 100000)
  (hl : Sl w (.slice A0 n0 q0) (l.map intV)) (hll : l.length ≤ 50000) (hin : ∀ i ∈ l, ∃ q : Nat, i = q ∧ q < M.length) (hfb : ((n : Int) == 0) = fb) : Calls Tryz.prog 44 #[.pointer (some ⟨g, 0, none⟩), .slice A0 n0 q0] w fun e w' => EnP M st mg B g pg n z fb l ve0 w e w' := by
 obtain rfl := sl_len hl
 have hMl := hmo.len
 have hBw := hm.size
 have Hst := Lib.hid hmo.st
 have Hwf := Lib.hid hmo.wf
 have H0 := Lib.hid hmo.zero
 have Hin := Lib.hid hin
 have Hz := Lib.hid hz
 clear hin hz hmo
 obtain ⟨wq, hwq⟩ : ∃ wq, w.drew = wq := ⟨_, rfl⟩
 have hzq : wq.heap.size = w.heap.size := by rw [← hwq]; rfl
 have HM := Lib.hid (show MchB M st mg B wq by rw [← hwq]; exact hm.then ((Below.refl _ _).drew))
 obtain ⟨Ae, qe, rfl, -, -, -⟩ := ownsRow_slice he
 have HH := Lib.hid (show wq.heap[g]? = some (.cells (runC mg pg n vs0 (.slice Ae (idx 0 z).length qe) false) 82 (0, 0)) by rw [← hwq]; exact hrow)
 have HE := Lib.hid (show Ints wq B (.slice Ae (idx 0 z).length qe) (idx 0 z) by rw [← hwq]; exact he)
 have HL := Lib.hid (show Sl wq (.slice A0 l.length q0) (l.map intV) by rw [← hwq]; exact hl)
 have HC := Lib.hid (show Chg (fun k => k = g ∨ (Value.slice Ae (idx 0 z).length qe).ownBlock = some k) w wq by rw [← hwq]; exact Chg.of_below ((Below.refl _ _).drew))
 clear hm hrow he hl
 go_enter Tryz.func44, Tryz.ntmps44
 go_wp2_with fail
 refine wp_region_noPanic ?_
 refine wp_region_held_drew (S := fun w' => w'.cell? ⟨g, 0, none⟩ = some (.pointer (some ⟨mg, 0, none⟩)) ∧ w'.cell? ⟨g, 1, none⟩ = some (.int .i64 n)) (by kernel_rfl) ((by rw [hwq]; exact run_cells HH.out)) (fun hHeld => ?_)
 refine tkH 0 (v := ?v0) (nth rfl) (by kernel_rfl) (by kernel_rfl) (by kernel_rfl) (fun _ _ _ h => h) (by rfl) hHeld ?y0 ?r0
 case y0 => (intro w hSw; (try dsimp only at hSw); go_simp; (try with_reducible rfl))
 try simp only [Act.put, pA, pB, pC]
 refine tkH 1 (v := ?v1) (nth rfl) (by kernel_rfl) (by kernel_rfl) (by kernel_rfl) (fun _ _ _ h => h) (by rfl) hHeld ?y1 ?r1
 case y1 => (intro w hSw; (try dsimp only at hSw); go_simp; (try with_reducible rfl))
 try simp only [Act.put, pA, pB, pC]
 refine tkH 2 (v := ?v2) (nth rfl) (by kernel_rfl) (by kernel_rfl) (by kernel_rfl) (fun _ _ _ h => h) (by rfl) hHeld ?y2 ?r2
 case y2 => (intro w hSw; (try dsimp only at hSw); go_simp; (try with_reducible rfl))
 try simp only [Act.put, pA, pB, pC]
 refine tkH 3 (v := ?v3) (nth rfl) (by kernel_rfl) (by kernel_rfl) (by kernel_rfl) (fun _ _ _ h => h) (by rfl) hHeld ?y3 ?r3
 case y3 => (intro w hSw; (try dsimp only at hSw); go_simp; (try with_reducible rfl))
 try simp only [Act.put, pA, pB, pC]
 refine tkH 4 (v := ?v4) (nth rfl) (by kernel_rfl) (by kernel_rfl) (by kernel_rfl) (fun _ _ _ h => h) (by rfl) hHeld ?y4 ?r4
 case y4 => (intro w hSw; (try dsimp only at hSw); go_simp; (try with_reducible rfl))
 try simp only [Act.put, pA, pB, pC]
 refine tkH 5 (v := ?v5) (nth rfl) (by kernel_rfl) (by kernel_rfl) (by kernel_rfl) (fun _ _ _ h => h) (by rfl) hHeld ?y5 ?r5
 case y5 => (intro w hSw; (try dsimp only at hSw); go_simp; (try with_reducible rfl))
 try simp only [Act.put, pA, pB, pC]
 refine tkH 7 (v := ?v6) (nth rfl) (by kernel_rfl) (by kernel_rfl) (by kernel_rfl) (fun _ _ _ h => h) (by rfl) hHeld ?y6 ?r6
 case y6 => (intro w hSw; (try dsimp only at hSw); go_simp; (try with_reducible rfl))
 try simp only [Act.put, pA, pB, pC]
 refine tkH 8 (v := ?v7) (nth rfl) (by kernel_rfl) (by kernel_rfl) (by kernel_rfl) (fun _ _ _ h => h) (by rfl) hHeld ?y7 ?r7
 case y7 => (intro w hSw; (try dsimp only at hSw); go_simp; (try with_reducible rfl))
 try simp only [Act.put, pA, pB, pC]
 refine tkH 9 (v := ?v8) (nth rfl) (by kernel_rfl) (by kernel_rfl) (by kernel_rfl) (fun _ _ _ h => h) (by rfl) hHeld ?y8 ?r8
 case y8 => (intro w hSw; (try dsimp only at hSw); go_simp; (try with_reducible rfl))
 try simp only [Act.put, pA, pB, pC]
 refine tkH 10 (v := ?v9) (nth rfl) (by kernel_rfl) (by kernel_rfl) (by kernel_rfl) (fun _ _ _ h => h) (by rfl) hHeld ?y9 ?r9
 case y9 => (intro w hSw; (try dsimp only at hSw); go_simp; (try with_reducible rfl))
 try simp only [Act.put, pA, pB, pC]
 refine tkH 14 (v := ?va) (nth rfl) (by kernel_rfl) (by kernel_rfl) (by kernel_rfl) (fun _ _ _ h => h) (by rfl) hHeld ?ya ?ra
 case ya => (intro w hSw; (try dsimp only at hSw); go_simp; (try with_reducible rfl))
 try simp only [Act.put, pA, pB, pC]
 refine tkH 15 (v := ?vb) (nth rfl) (by kernel_rfl) (by kernel_rfl) (by kernel_rfl) (fun _ _ _ h => h) (by rfl) hHeld ?yb ?rb
 case yb => (intro w hSw; (try dsimp only at hSw); go_simp; (try with_reducible rfl))
 try simp only [Act.put, pA, pB, pC]
 refine tkH 16 (v := ?vc) (nth rfl) (by kernel_rfl) (by kernel_rfl) (by kernel_rfl) (fun _ _ _ h => h) (by rfl) hHeld ?yc ?rc
 case yc => (intro w hSw; (try dsimp only at hSw); go_simp; (try with_reducible rfl))
 try simp only [Act.put, pA, pB, pC]
 refine tkH 17 (v := ?vd) (nth rfl) (by kernel_rfl) (by kernel_rfl) (by kernel_rfl) (fun _ _ _ h => h) (by rfl) hHeld ?yd ?rd
 case yd => (intro w hSw; (try dsimp only at hSw); go_simp; (try with_reducible rfl))
 try simp only [Act.put, pA, pB, pC]
 refine tkH 18 (v := ?ve) (nth rfl) (by kernel_rfl) (by kernel_rfl) (by kernel_rfl) (fun _ _ _ h => h) (by rfl) hHeld ?ye ?re
 case ye => (intro w hSw; (try dsimp only at hSw); go_simp; (try with_reducible rfl))
 try simp only [Act.put, pA, pB, pC]
 refine wpAnyH_ready (rs := [6]) (by kernel_rfl) (by simp) ?_
 refine AllReadyH.cons (nth rfl) (fun K hK => ?_) AllReadyH.nil
 go_simp
 clear hwq; (with_reducible refine (clone_any HL.out (by omega)).mono ?_); rintro e w1 ⟨A1, q1, rfl, hb1, ho1⟩; have Hb1 := Lib.hid hb1; have Ho1 := Lib.hid ho1; have HH1 := Lib.hid (quiet_heap HH.out hb1); clear hb1 ho1; go_simp
 refine hK.out _ _ (run_cells HH1.out) (fun hHeld => ?_)
 clear hK K
 try simp only [Act.put, pA, pB, pC]
 refine wpAnyH_ready (rs := [11]) (by kernel_rfl) (by simp) ?_
 refine AllReadyH.cons (nth rfl) (fun K hK => ?_) AllReadyH.nil
 go_simp
 (with_reducible refine (start_any (HM.out.then (Hb1.out.mono HM.out.size)).mch).mono ?_); rintro e w2 ⟨rfl, rfl⟩; obtain ⟨w2, rfl⟩ : ∃ w2 : World, w2 = w1 := ⟨_, rfl⟩; have Hoa := Lib.hid (Ho1.out.below (alloc_below _ (.cells #[.int .i64 st] 3))); have Hcn := Lib.hid (cells_new w2 [.int .i64 (st : Int)] 3); have HHa := Lib.hid (quiet_heap HH1.out (alloc_below _ (.cells #[.int .i64 st] 3))); have Hba := Lib.hid (Hb1.out.alloc Hb1.out.size (.cells #[.int .i64 st] 3)); go_simp
 refine hK.out _ _ (run_cells HH1.out) (fun hHeld => ?_)
 clear hK K
 try simp only [Act.put, pA, pB, pC]
 refine wpAnyH_ready (rs := [12]) (by kernel_rfl) (by simp) ?_
 refine AllReadyH.cons (nth rfl) (fun K hK => ?_) AllReadyH.nil
 go_simp
 refine hK.out _ _ (run_cells HHa.out) (fun hHeld => ?_)
 clear hK K
 try simp only [Act.put, pA, pB, pC]
 refine wpAnyH_ready (rs := [13]) (by kernel_rfl) (by simp) ?_
 refine AllReadyH.cons (nth rfl) (fun K hK => ?_) AllReadyH.nil
 refine step_append_k elInt rfl (.tmp 10) (.tmp 16) rfl wq.heap.size (.slice A1 l.length q1) l.length w2.heap.size 1 1 (l.map intV) [.int .i64 (st : Int)] (by simp [Act.eval]) Hoa.out (by simp [Act.eval]) rfl Hcn.out (by simp [Value.oneCell']) (by unfold maxLen; omega) (by omega) Hba.out.size ?_; intro v' w3 h1 h2 h3; obtain ⟨A3, q3, rfl, -, -, -⟩ := ownsRow_slice h1; have Hb3 := Lib.hid (own_below Hba.out Hoa.out Hba.out.size h2); have Hp3 := Lib.hid (int_snoc h1); have HH3 := Lib.hid (quiet_heap HH.out Hb3.out); clear h1 h2 h3
 refine hK.out _ _ (run_cells HH3.out) (fun hHeld => ?_)
 clear hK K
 try simp only [Act.put, pA, pB, pC]
 refine wpAnyH_ready (rs := [19]) (by kernel_rfl) (by simp) ?_
 refine AllReadyH.cons (nth rfl) (fun K hK => ?_) AllReadyH.nil
 go_simp
 (with_reducible refine (still_any fb false (HM.out.then (Hb3.out.mono HM.out.size)).mch (n0 := l.length + 1) (l := l ++ [(st : Int)]) (Ints.sl Hp3.out) Hwf.out (by omega) (by simp; omega) (fun i hi => by rcases List.mem_append.1 hi with hi | hi; exact Hin.out i hi; exact ⟨st, List.mem_singleton.1 hi, Hst.out⟩)).mono ?_); rintro e w4 ⟨y, hy, A4, q4, rfl, hb4, ho4⟩; have Hy := Lib.hid hy; have Hb4 := Lib.hid (Hb3.out.trans (hb4.mono Hb3.out.size)); have Ho4 := Lib.hid ho4; have hs34 := Hb3.out.size; have HS34 := Lib.hid hb4.size; have HH4 := Lib.hid (quiet_heap HH.out Hb4.out); have d2 := row_cell HH4.out (j := 2) rfl; have f2 := row_frozen HH4.out 2; clear hb4 ho4 hy; go_simp
 refine hK.out _ _ (run_cells HH4.out) (fun hHeld => ?_)
 clear hK K
 try simp only [Act.put, pA, pB, pC]
 refine tkH 20 (v := ?vf) (nth rfl) (by kernel_rfl) (by kernel_rfl) (by kernel_rfl) (fun _ _ _ h => h) (by rfl) hHeld ?yf ?rf
 case yf => (intro w hSw; (try dsimp only at hSw); go_simp; (try with_reducible rfl))
 try simp only [Act.put, pA, pB, pC]
 refine tkH 21 (v := ?vg) (nth rfl) (by kernel_rfl) (by kernel_rfl) (by kernel_rfl) (fun _ _ _ h => h) (by rfl) hHeld ?yg ?rg
 case yg => (intro w hSw; (try dsimp only at hSw); go_simp; (try with_reducible rfl))
 try simp only [Act.put, pA, pB, pC]
 refine wpAnyH_ready (rs := [22]) (by kernel_rfl) (by simp) ?_
 refine AllReadyH.cons (nth rfl) (fun K hK => ?_) AllReadyH.nil
 go_simp
 refine hK.out _ _ (run_cells (row_set HH4.out 2 _)) (fun hHeld => ?_)
 clear hK K
 try simp only [Act.put, pA, pB, pC]
 refine wpAnyH_done (by kernel_rfl) (NoPanic.normal ?_) _
 clear hHeld d2 f2
 have hne4 := own_ne Ho4.out HH4.out (by decide)
 have HEa := Lib.hid (HE.out.below Hb4.out)
 have hneE := own_ne HEa.out HH4.out (by decide)
 have hset := Chg.set (w := w4) g 2 (.slice A4 (idx 0 y).length q4)
 have H5 := Lib.hid (show (w4.setCell ⟨g, 2, none⟩ (.slice A4 (idx 0 y).length q4)).heap[g]? = some (.cells (runC mg pg n (.slice A4 (idx 0 y).length q4) (.slice Ae (idx 0 z).length qe) false) 82 (0, 0)) from row_set HH4.out 2 _)
 have Ho5 := Lib.hid (Ho4.out.stay hset (fun b hb e => hne4 (by rw [hb, e])))
 have HE5 := Lib.hid (HEa.out.stay hset (fun b hb e => hneE (by rw [hb, e])))
 have HC5 := Lib.hid ((HC.out.trans (Chg.of_below (F := fun _ => False) Hb4.out) (fun _ h => h.elim)).trans hset (fun i hi => .inl (.inl hi)))
 have HsE := Lib.hid (show ∀ k, (Value.slice Ae (idx 0 z).length qe).ownBlock = some k → k < w3.heap.size from fun k hk => Nat.lt_of_lt_of_le (lt_of_heap (ownsRow_block HE.out hk).2.choose_spec) hs34)
 have hs5 : w.heap.size ≤ w3.heap.size := by have := hs34; omega
 have hsz5 : w3.heap.size ≤ (w4.setCell ⟨g, 2, none⟩ (.slice A4 (idx 0 y).length q4)).heap.size := by rw [World.size_setCell]; have := Hb4.out.size; have hx := lt_of_heap HH4.out; exact HS34.out
 clear hset hne4 hneE HEa Ho4 HH4 HE HH HC HL HM Hb3 Hb1 Ho1 HH1 Hoa Hcn HHa Hba Hp3 HH3 hs34 Hb4
 generalize w4.setCell ⟨g, 2, none⟩ (.slice A4 (idx 0 y).length q4) = w5 at *
 have hyl : y.length ≤ 3000 := by have := Hy.out.1; omega
 have hil := idx_len y 0
 have hzl := idx_len z 0
 have hzl2 := Hz.out
 obtain ⟨b, hb⟩ : ∃ b, y[0]? = some b := ⟨_, List.getElem?_eq_getElem (by have := Hy.out.1; have := Hst.out; omega)⟩
 have Hb := Lib.hid hb
 have hbm := mem0 y 0
 rw [hb] at hbm
 have d2 : w5.cell? ⟨g, 2, none⟩ = some (.slice A4 (idx 0 y).length q4) := row_cell H5.out (j := 2) rfl
 go_wp2_with fail
 clear d2
 (with_reducible refine (contains_any (Ints.sl Ho5.out) (by omega) 0).mono ?_)
 rintro e wz ⟨rfl, rfl⟩
 cases b with
 | false =>
  rw [show decide ((0 : Int) ∈ idx 0 y) = false by rw [decide_eq_false_iff_not]; intro h; have := hbm.1 h; simp at this]
  clear hb hbm
  go_wp2_with fail
  go_end0
  exact ⟨y, _, _, false, rfl, Hy.out, Hb.out, H5.out, Ints.low Ho5.out (by omega), by rw [idx_snoc]; simpa using HE5.out, fun k hk => by have := (ownsRow_block Ho5.out hk).1; omega, fun k hk => .inl hk, fun k hk hk2 => by have := (ownsRow_block Ho5.out hk).1; have := HsE.out k hk2; omega, HC5.out⟩
 | true =>
  rw [show decide ((0 : Int) ∈ idx 0 y) = true by rw [decide_eq_true_iff]; exact hbm.2 rfl]
  clear hb hbm
  obtain ⟨wr, hwr⟩ : ∃ wr, wz.drew = wr := ⟨_, rfl⟩
  have hdr := (Below.refl wz.heap.size wz).drew
  rw [hwr] at hdr
  have R5 := Lib.hid (quiet_heap H5.out hdr)
  have RE := Lib.hid (HE5.out.below hdr)
  have RS := Lib.hid (Ho5.out.below hdr)
  have RC := Lib.hid (HC5.out.trans (Chg.of_below (F := fun _ => False) hdr) (fun _ h => h.elim))
  have hrs : wr.heap.size = wz.heap.size := by rw [← hwr]; rfl
  clear hdr H5 HE5 HC5
  go_wp2_with fail
  obtain ⟨wa, hwa⟩ : ∃ wa, wr.alloc (.cells #[.int .i64 (n : Int)] 3) = wa := ⟨_, rfl⟩
  have hal := alloc_below wr (.cells #[.int .i64 (n : Int)] 3)
  rw [hwa] at hal
  have Hcn := Lib.hid (show ∀ j u, [Value.int .i64 (n : Int)][j]? = some u → wa.cell? ⟨wz.heap.size, j, none⟩ = some u by rw [← hwa, ← hrs]; exact cells_new wr [.int .i64 (n : Int)] 3)
  have A5 := Lib.hid (quiet_heap R5.out hal)
  have AE := Lib.hid (RE.out.below hal)
  have AS := Lib.hid (RS.out.below hal)
  have AC := Lib.hid (RC.out.trans (Chg.of_below (F := fun _ => False) hal) (fun _ h => h.elim))
  have hneA := own_ne AE.out A5.out (by decide)
  have HneA := Lib.hid hneA
  have hsa := hal.size
  clear hal hneA
  refine wp_region_noPanic ?_
  refine wp_region_Z (S := fun w' => w'.cell? ⟨g, 1, none⟩ = some (.int .i64 n) ∧ w'.cell? ⟨g, 3, none⟩ = some (.slice Ae (idx 0 z).length qe)) (by kernel_rfl) 13 ((by rw [hwr]; exact ⟨row_cell R5.out (j := 1) rfl, row_cell R5.out (j := 3) rfl⟩)) (fun hHeld => ?_)
  rw [hwr] at hHeld ⊢
  clear hwr
  refine tkZ 0 (v := ?vh) (nth rfl) (by kernel_rfl) (by kernel_rfl) (by kernel_rfl) (by kernel_rfl) (fun _ _ _ h => h) (by rfl) hHeld ?yh ?rh
  case yh => (intro w hSw; (try dsimp only at hSw); go_simp; (try with_reducible rfl))
  try simp only [Act.put, pA, pB, pC]
  refine tkZ 1 (v := ?vi) (nth rfl) (by kernel_rfl) (by kernel_rfl) (by kernel_rfl) (by kernel_rfl) (fun _ _ _ h => h) (by rfl) hHeld ?yi ?ri
  case yi => (intro w hSw; (try dsimp only at hSw); go_simp; (try with_reducible rfl))
  try simp only [Act.put, pA, pB, pC]
  refine tkZ 2 (v := ?vj) (nth rfl) (by kernel_rfl) (by kernel_rfl) (by kernel_rfl) (by kernel_rfl) (fun _ _ _ h => h) (by rfl) hHeld ?yj ?rj
  case yj => (intro w hSw; (try dsimp only at hSw); go_simp; (try with_reducible rfl))
  try simp only [Act.put, pA, pB, pC]
  refine tkZ 3 (v := ?vk) (nth rfl) (by kernel_rfl) (by kernel_rfl) (by kernel_rfl) (by kernel_rfl) (fun _ _ _ h => h) (by rfl) hHeld ?yk ?rk
  case yk => (intro w hSw; (try dsimp only at hSw); go_simp; (try with_reducible rfl))
  try simp only [Act.put, pA, pB, pC]
  refine tkZ 4 (v := ?vl) (nth rfl) (by kernel_rfl) (by kernel_rfl) (by kernel_rfl) (by kernel_rfl) (fun _ _ _ h => h) (by rfl) hHeld ?yl ?rl
  case yl => (intro w hSw; (try dsimp only at hSw); go_simp; (try with_reducible rfl))
  try simp only [Act.put, pA, pB, pC]
  refine tkZ 5 (v := ?vm) (nth rfl) (by kernel_rfl) (by kernel_rfl) (by kernel_rfl) (by kernel_rfl) (fun _ _ _ h => h) (by rfl) hHeld ?ym ?rm
  case ym => (intro w hSw; (try dsimp only at hSw); go_simp; (try with_reducible rfl))
  try simp only [Act.put, pA, pB, pC]
  refine tkZ 6 (v := ?vn) (nth rfl) (by kernel_rfl) (by kernel_rfl) (by kernel_rfl) (by kernel_rfl) (fun _ _ _ h => h) (by rfl) hHeld ?yn ?rn
  case yn => (intro w hSw; (try dsimp only at hSw); go_simp; (try with_reducible rfl))
  try simp only [Act.put, pA, pB, pC]
  refine tkZ 7 (v := ?vo) (nth rfl) (by kernel_rfl) (by kernel_rfl) (by kernel_rfl) (by kernel_rfl) (fun _ _ _ h => h) (by rfl) hHeld ?yo ?ro
  case yo => (intro w hSw; (try dsimp only at hSw); go_simp; (try with_reducible rfl))
  try simp only [Act.put, pA, pB, pC]
  refine tkZ 8 (v := ?vp) (nth rfl) (by kernel_rfl) (by kernel_rfl) (by kernel_rfl) (by kernel_rfl) (fun _ _ _ h => h) (by rfl) hHeld ?yp ?rp
  case yp => (intro w hSw; (try dsimp only at hSw); go_simp; (try with_reducible rfl))
  try simp only [Act.put, pA, pB, pC]
  refine wpAnyZ_one (i := 9) (by kernel_rfl) (nth rfl) (fun K hK => ?_)
  go_simp
  refine hK.out _ _ (fun _ => ⟨row_cell A5.out (j := 1) rfl, row_cell A5.out (j := 3) rfl⟩) (fun hHeld => ?_)
  clear hK K
  have hHeld := hHeld (by decide)
  try simp only [Act.put, pA, pB, pC]
  refine wpAnyZ_one (i := 10) (by kernel_rfl) (nth rfl) (fun K hK => ?_)
  refine step_append_k elInt rfl (.tmp 35) (.tmp 40) rfl B (.slice Ae (idx 0 z).length qe) (idx 0 z).length wz.heap.size 1 1 ((idx 0 z).map intV) [.int .i64 (n : Int)] (by simp [Act.eval]) AE.out (by simp [Act.eval]) rfl Hcn.out (by simp [Value.oneCell']) (by unfold maxLen; omega) (by omega) (by omega) ?_; intro v' w7 h1 h2 h3; obtain ⟨A7, q7, rfl, -, -, -⟩ := ownsRow_slice h1; have G5 := Lib.hid ((h2.block g (lt_of_heap A5.out) (fun e => HneA.out e.symm)).trans A5.out); have GC := Lib.hid (Chg.grown h2); have GE := Lib.hid (int_snoc h1); have Gb := Lib.hid h3; have d3 := row_cell G5.out (j := 3) rfl; have f3 := row_frozen G5.out 3; clear h1 h2 h3
  refine hK.out _ _ (fun _ => ⟨row_cell G5.out (j := 1) rfl, row_cell G5.out (j := 3) rfl⟩) (fun hHeld => ?_)
  clear hK K
  have hHeld := hHeld (by decide)
  try simp only [Act.put, pA, pB, pC]
  refine wpAnyZ_one (i := 11) (by kernel_rfl) (nth rfl) (fun K hK => ?_)
  go_simp
  refine hK.out _ _ (fun _ => hHeld) (fun hHeld => ?_)
  clear hK K
  have hHeld := hHeld (by decide)
  try simp only [Act.put, pA, pB, pC]
  refine tkZ 12 (v := ?vq) (nth rfl) (by kernel_rfl) (by kernel_rfl) (by kernel_rfl) (by kernel_rfl) (fun _ _ _ h => h) (by rfl) hHeld ?yq ?rq
  case yq => (intro w hSw; (try dsimp only at hSw); go_simp; (try with_reducible rfl))
  try simp only [Act.put, pA, pB, pC]
  refine wpAnyZ_one (i := 13) (by kernel_rfl) (nth rfl) (fun K hK => ?_)
  go_simp
  refine hK.out _ _ (fun h => absurd rfl h) (fun _ => ?_)
  clear hK K
  try simp only [Act.put, pA, pB, pC]
  refine wpAnyZ_done (by kernel_rfl) (NoPanic.normal ?_) _
  clear hHeld d3 f3
  have hneS := own_ne AS.out A5.out (by decide)
  have hsV : ∀ k, (Value.slice A4 (idx 0 y).length q4).ownBlock = some k → w3.heap.size ≤ k ∧ k < wa.heap.size := fun k hk => ⟨(ownsRow_block AS.out hk).1, lt_of_heap (ownsRow_block AS.out hk).2.choose_spec⟩
  have hS7 := AS.out.stay GC.out (fun b hb e => by have := (hsV b hb).1; have := HsE.out b e; omega)
  have hset := Chg.set (w := w7) g 3 (.slice A7 ((idx 0 z).length + 1) q7)
  have hS8 := hS7.stay hset (fun b hb e => hneS (by rw [hb, e]))
  have hneE := own_ne GE.out G5.out (by decide)
  have hE8 := GE.out.stay hset (fun b hb e => hneE (by rw [hb, e]))
  have hC8 := (AC.out.trans GC.out (fun i hi => .inl (.inr hi))).trans hset (fun i hi => .inl (.inl hi))
  have hwa : w3.heap.size ≤ wa.heap.size := by omega
  go_end0
  refine ⟨y, _, _, true, rfl, Hy.out, Hb.out, row_set G5.out 3 _, Ints.low hS8 (by omega), ?_, fun k hk => by have := (hsV k hk).1; omega, fun k hk => ?_, fun k hk hk2 => ?_, hC8⟩
  ·rw [idx_snoc, if_pos rfl, Hz.out]; exact hE8
  ·rcases Gb.out with h1 | h1
   ·exact .inl (by rw [← h1]; exact hk)
   ·rw [h1] at hk; have := Option.some.inj hk; right; omega
  ·have h0 := hsV k hk
   rcases Gb.out with h1 | h1
   ·have := HsE.out k (by rw [← h1]; exact hk2); omega
   ·rw [h1] at hk2; have := Option.some.inj hk2; omega
set_option maxHeartbeats 4000000 in
theorem move_any {M : List St} {st mg B pg : Nat} {l : List Int} {v : Value} {w : World} {b : Nat} (c : Int) (hmo : MOk M st) (hm : MchB M st mg B w) (hc : w.heap[pg]? = some (.cells #[.pointer (some ⟨mg, 0, none⟩)] 24 (0, 0))) (hl : Ints w b v l) (hll : l.length ≤ 50000) (hin : ∀ i ∈ l, ∃ q : Nat, i = q ∧ q < M.length) : Calls Tryz.prog 42 #[v, .int .i32 c, .pointer (some ⟨pg, 0, none⟩)] w fun e w' => AfterP w M l (kn c) e w' := by
 obtain ⟨A, q, rfl, -, -, -⟩ := ownsRow_slice hl
 have Ha := Lib.hid (after_any c hm.mch hl.sl hmo.wf hmo.at_ (by have := hmo.len; omega) (by omega) hin)
 have d0 : w.cell? ⟨pg, 0, none⟩ = some (.pointer (some ⟨mg, 0, none⟩)) := row_cell hc (j := 0) rfl
 clear hmo hm hc hl hin
 go_enter Tryz.func42, Tryz.ntmps42
 go_wp2_with fail
 (with_reducible refine Ha.out.mono ?_)
 rintro e w1 ⟨y, hy, A1, q1, rfl, hb1, ho1⟩
 have Hy := Lib.hid hy
 have Hb1 := Lib.hid hb1
 have Ho1 := Lib.hid ho1
 clear hy hb1 ho1 d0
 go_wp2_with fail
 go_ret
 exact ⟨y, Hy.out, A1, q1, rfl, Hb1.out, Ho1.out⟩
theorem idx_in {y : List Bool} {n : Nat} (h : y.length = n) : ∀ i ∈ idx 0 y, ∃ q : Nat, i = q ∧ q < n := by
 intro i hi
 obtain ⟨j, rfl, hj⟩ := (idx_mem y 0 i).1 hi
 exact ⟨j, by simp, by have := (List.getElem?_eq_some_iff.1 hj).1; omega⟩
def FdP (M : List St) (st mg B g pg : Nat) (s : List Int) (E : Bool) (vs ve : Value) (w : World) (e : Ending) (w' : World) : Prop :=
 e = .returned (.tuple #[]) ∧ ∃ vs' ve', RunR M st mg B g pg s E vs' ve' w' ∧ Chg (Foot g pg vs ve) w w' ∧ ∀ k, Foot g pg vs' ve' k → Foot g pg vs ve k ∨ w.heap.size ≤ k
theorem FdP.stay {M : List St} {st mg B g pg : Nat} {s : List Int} {E : Bool} {vs ve : Value} {w : World} (h : RunR M st mg B g pg s E vs ve w) : FdP M st mg B g pg s E vs ve w (.returned (.tuple #[])) w := ⟨rfl, vs, ve, h, Chg.refl _ _, fun _ h => .inl h⟩
set_option maxHeartbeats 16000000 in
set_option maxRecDepth 100000 in
theorem feed_any {M : List St} {st mg B g pg : Nat} {s : List Int} {vs ve : Value} {w : World} (hmo : MOk M st) (h : RunR M st mg B g pg s false vs ve w) (hs : s.length ≤ 5000) (c : Int) : Calls Tryz.prog 24 #[.pointer (some ⟨g, 0, none⟩), .int .i32 c] w fun e w' => FdP M st mg B g pg (s ++ [kn c]) false vs ve w e w' := by
 have Hmo := Lib.hid hmo
 have H := Lib.hid h
 obtain ⟨y, hy, hsy⟩ := h.set
 obtain ⟨z, hz, hez⟩ := h.ends
 have hMl := hmo.len
 have hyl := hsy.1
 have hzl := hez.1
 have d1 := row_cell h.row (j := 1) (u := .int .i64 s.length) rfl
 have d4 := row_cell h.row (j := 4) (u := .bool false) rfl
 have f1 := row_frozen h.row 1
 have hneP : pg ≠ g := by intro e; have h1 := h.row; have h2 := h.cap; rw [e] at h2; rw [h1] at h2; injection h2 with h2; injection h2 with _ h2 _; cases h2
 have hset := Chg.set (w := w) g 1 (.int .i64 ((s.length : Int) + 1))
 have hr1 : (w.setCell ⟨g, 1, none⟩ (.int .i64 ((s.length : Int) + 1))).heap[g]? = some (.cells (runC mg pg (s.length + 1) vs ve false) 82 (0, 0)) := row_set h.row 1 _
 have Hr1 := Lib.hid hr1
 have Hy := Lib.hid (hy.stay hset (fun b hb e => own_ne hy h.row (by decide) (by rw [hb, e])))
 have Hz := Lib.hid (hz.stay hset (fun b hb e => own_ne hz h.row (by decide) (by rw [hb, e])))
 have Hp := Lib.hid ((hset.block pg (lt_of_heap h.cap) hneP).trans h.cap)
 have Hm := Lib.hid (h.mch.then (hset.below h.mch.size (fun i hi => by rw [hi]; exact h.gB)))
 have Hsy := Lib.hid hsy
 have Hez := Lib.hid hez
 have Hst := Lib.hid hset
 obtain ⟨As, qs, rfl, -, -, -⟩ := ownsRow_slice hy
 clear h hmo hy hz hsy hez hset hneP hr1
 go_enter Tryz.func24, Tryz.ntmps24
 go_wp2_with fail
 clear d1 d4 f1
 obtain ⟨w1, hw1⟩ : ∃ w1, w.setCell ⟨g, 1, none⟩ (.int .i64 ((s.length : Int) + 1)) = w1 := ⟨_, rfl⟩
 rw [hw1] at Hr1 Hy Hz Hp Hm Hst ⊢
 obtain ⟨wq, hwq⟩ : ∃ wq, w1.drew = wq := ⟨_, rfl⟩
 have hdr := (Below.refl w1.heap.size w1).drew
 rw [hwq] at hdr
 have Hr1 := Lib.hid (quiet_heap Hr1.out hdr)
 have Hy := Lib.hid (Hy.out.below hdr)
 have Hz := Lib.hid (Hz.out.below hdr)
 have Hp := Lib.hid (quiet_heap Hp.out hdr)
 have Hm := Lib.hid (Hm.out.then (hdr.mono Hm.out.size))
 have Hst := Lib.hid (Hst.out.trans (Chg.of_below (F := fun _ => False) hdr) (fun _ h => h.elim))
 have Hmv := Lib.hid (move_any c Hmo.out Hm.out Hp.out Hy.out (by have := idx_len y 0; omega) (idx_in hyl))
 have hyi := idx_len y 0
 have hfb : (((s.length + 1 : Nat) : Int) == 0) = false := by simp only [beq_eq_false_iff_ne]; omega
 have Hfb := Lib.hid hfb
 clear hdr hw1 hfb
 refine wp_region_noPanic ?_
 refine wp_region_Z (S := fun w' => w'.cell? ⟨g, 5, none⟩ = some (.func (.func 42) #[] #[.pointer (some ⟨pg, 0, none⟩)]) ∧ w'.cell? ⟨g, 2, none⟩ = some (.slice As (idx 0 y).length qs)) (by kernel_rfl) 11 ((by rw [hwq]; exact ⟨row_cell Hr1.out (j := 5) rfl, row_cell Hr1.out (j := 2) rfl⟩)) (fun hHeld => ?_)
 rw [hwq] at hHeld ⊢
 clear hwq
 refine tkR 0 6 (v := ?v0) (nth rfl) (by kernel_rfl) (by kernel_rfl) (by kernel_rfl) (by kernel_rfl) (by kernel_rfl) (fun _ _ _ h => h) (by rfl) hHeld ?y0 ?r0
 case y0 => (intro w hSw; (try dsimp only at hSw); go_simp; (try with_reducible rfl))
 try simp only [Act.put, pA, pB, pC]
 refine tkR 1 6 (v := ?v1) (nth rfl) (by kernel_rfl) (by kernel_rfl) (by kernel_rfl) (by kernel_rfl) (by kernel_rfl) (fun _ _ _ h => h) (by rfl) hHeld ?y1 ?r1
 case y1 => (intro w hSw; (try dsimp only at hSw); go_simp; (try with_reducible rfl))
 try simp only [Act.put, pA, pB, pC]
 refine tkR 2 6 (v := ?v2) (nth rfl) (by kernel_rfl) (by kernel_rfl) (by kernel_rfl) (by kernel_rfl) (by kernel_rfl) (fun _ _ _ h => h) (by rfl) hHeld ?y2 ?r2
 case y2 => (intro w hSw; (try dsimp only at hSw); go_simp; (try with_reducible rfl))
 try simp only [Act.put, pA, pB, pC]
 refine tkR 3 6 (v := ?v3) (nth rfl) (by kernel_rfl) (by kernel_rfl) (by kernel_rfl) (by kernel_rfl) (by kernel_rfl) (fun _ _ _ h => h) (by rfl) hHeld ?y3 ?r3
 case y3 => (intro w hSw; (try dsimp only at hSw); go_simp; (try with_reducible rfl))
 try simp only [Act.put, pA, pB, pC]
 refine tkR 4 6 (v := ?v4) (nth rfl) (by kernel_rfl) (by kernel_rfl) (by kernel_rfl) (by kernel_rfl) (by kernel_rfl) (fun _ _ _ h => h) (by rfl) hHeld ?y4 ?r4
 case y4 => (intro w hSw; (try dsimp only at hSw); go_simp; (try with_reducible rfl))
 try simp only [Act.put, pA, pB, pC]
 refine tkR 5 6 (v := ?v5) (nth rfl) (by kernel_rfl) (by kernel_rfl) (by kernel_rfl) (by kernel_rfl) (by kernel_rfl) (fun _ _ _ h => h) (by rfl) hHeld ?y5 ?r5
 case y5 => (intro w hSw; (try dsimp only at hSw); go_simp; (try with_reducible rfl))
 try simp only [Act.put, pA, pB, pC]
 refine tkR 6 6 (v := ?v6) (nth rfl) (by kernel_rfl) (by kernel_rfl) (by kernel_rfl) (by kernel_rfl) (by kernel_rfl) (fun _ _ _ h => h) (by rfl) hHeld ?y6 ?r6
 case y6 => (intro w hSw; (try dsimp only at hSw); go_simp; (try with_reducible rfl))
 try simp only [Act.put, pA, pB, pC]
 refine tkR 7 6 (v := ?v7) (nth rfl) (by kernel_rfl) (by kernel_rfl) (by kernel_rfl) (by kernel_rfl) (by kernel_rfl) (fun _ _ _ h => h) (by rfl) hHeld ?y7 ?r7
 case y7 => (intro w hSw; (try dsimp only at hSw); go_simp; (try with_reducible rfl))
 try simp only [Act.put, pA, pB, pC]
 refine tkR 8 6 (v := ?v8) (nth rfl) (by kernel_rfl) (by kernel_rfl) (by kernel_rfl) (by kernel_rfl) (by kernel_rfl) (fun _ _ _ h => h) (by rfl) hHeld ?y8 ?r8
 case y8 => (intro w hSw; (try dsimp only at hSw); go_simp; (try with_reducible rfl))
 try simp only [Act.put, pA, pB, pC]
 refine tkR 9 6 (v := ?v9) (nth rfl) (by kernel_rfl) (by kernel_rfl) (by kernel_rfl) (by kernel_rfl) (by kernel_rfl) (fun _ _ _ h => h) (by rfl) hHeld ?y9 ?r9
 case y9 => (intro w hSw; (try dsimp only at hSw); go_simp; (try with_reducible rfl))
 try simp only [Act.put, pA, pB, pC]
 refine wpAnyZ_one (i := 10) (by kernel_rfl) (nth rfl) (fun K hK => ?_)
 go_simp
 (with_reducible refine Hmv.out.mono ?_); rintro e w2 ⟨y2, hy2, A2, q2, rfl, hb2, ho2⟩; have Hy2 := Lib.hid hy2; have Hb2 := Lib.hid hb2; have Ho2 := Lib.hid ho2; have Hr2 := Lib.hid (quiet_heap Hr1.out hb2); clear hy2 hb2 ho2; go_simp
 refine hK.out _ _ (fun _ => ⟨row_cell Hr2.out (j := 5) rfl, row_cell Hr2.out (j := 2) rfl⟩) (fun hHeld => ?_)
 clear hK K
 have hHeld := hHeld (by decide)
 try simp only [Act.put, pA, pB, pC]
 refine wpAnyZ_one (i := 11) (by kernel_rfl) (nth rfl) (fun K hK => ?_)
 go_simp
 have hil := idx_len y2 0; have hi2 := Hy2.out.1; (with_reducible refine (enter_any Hmo.out (Hm.out.then (Hb2.out.mono Hm.out.size)) H.out.gB Hr2.out (Hz.out.below Hb2.out) hzl (by omega) Ho2.out.sl (by omega) (idx_in hi2) Hfb.out).mono ?_); rintro e w3 ⟨y3, vs3, ve3, b3, rfl, a1, a2, a3, a4, a5, a6, a7, a8, a9⟩; have Ha1 := Lib.hid a1; have Ha2 := Lib.hid a2; have Ha3 := Lib.hid a3; have Ha4 := Lib.hid a4; have Ha5 := Lib.hid a5; have Ha6 := Lib.hid a6; have Ha7 := Lib.hid a7; have Ha8 := Lib.hid a8; have Ha9 := Lib.hid a9; clear a1 a2 a3 a4 a5 a6 a7 a8 a9; go_simp
 refine hK.out _ _ (fun h => absurd rfl h) (fun _ => ?_)
 clear hK K
 try simp only [Act.put, pA, pB, pC]
 refine wpAnyZ_done (by kernel_rfl) (NoPanic.normal ?_) _
 clear hHeld
 go_end0
 have h := H.out
 have hsn := set_next Hsy.out Hy2.out Ha1.out
 have hch := ((Hst.out.trans (Chg.of_below (F := fun _ => False) Hb2.out) (fun _ h => h.elim)).mono (G := fun k => k = g ∨ ve.ownBlock = some k) (fun i hi => .inl hi)).trans Ha9.out (fun i hi => .inl hi)
 have hft : ∀ i, (i = g ∨ ve.ownBlock = some i) → Foot g pg (.slice As (idx 0 y).length qs) ve i := fun i hi => by
  rcases hi with hi | hi
  ·exact .inl hi
  ·exact .inr (.inr (.inr hi))
 have hsz : w.heap.size ≤ w2.heap.size := Nat.le_trans Hst.out.size Hb2.out.size
 refine ⟨rfl, vs3, ve3, ⟨h.mch.then (hch.below h.mch.size (fun i hi => (h.foot (hft i hi)).1)), h.gB, h.pB, ?_, ?_, ⟨y3, Ha4.out, hsn⟩, ⟨z ++ [b3], Ha5.out, ends_next Hez.out hsn Ha2.out⟩, Ha8.out⟩, hch.mono hft, fun k hk => ?_⟩
 ·rw [List.length_append]; exact Ha3.out
 ·refine (hch.block pg (lt_of_heap h.cap) (fun hi => ?_)).trans h.cap
  obtain ⟨z', hz', -⟩ := h.ends
  rcases hi with hi | hi
  ·have h1 := h.row; have h2 := h.cap; rw [hi] at h2; rw [h1] at h2; injection h2 with h2; injection h2 with _ h2 _; cases h2
  ·exact own_ne hz' h.cap (by decide) hi
 ·rcases hk with hk | hk | hk | hk
  ·exact .inl (.inl hk)
  ·exact .inl (.inr (.inl hk))
  ·right; have := Ha6.out k hk; omega
  ·rcases Ha7.out k hk with h1 | h1
   ·exact .inl (.inr (.inr (.inr h1)))
   ·right; omega
def NewP (M : List St) (st mg : Nat) (w : World) (e : Ending) (w' : World) : Prop :=
 ∃ (g pg : Nat) (vs ve : Value), e = .returned (.pointer (some ⟨g, 0, none⟩)) ∧ RunR M st mg w.heap.size g pg [] false vs ve w' ∧ Below w.heap.size w w'
set_option maxHeartbeats 16000000 in
set_option maxRecDepth 100000 in
theorem new_any {M : List St} {st mg : Nat} {w : World} (hmo : MOk M st) (h : Mch w mg M st) : Calls Tryz.prog 18 #[.pointer (some ⟨mg, 0, none⟩)] w fun e w' => NewP M st mg w e w' := by
 have Hmo := Lib.hid hmo
 have H := Lib.hid h
 clear h hmo
 have hmf : ∀ (fn : Fn) (first cap : Array Value) (w : World), (Instr.makeFunc fn first cap).run Tryz.prog w = .ok (.func fn first cap) w := fun _ _ _ _ => rfl
 have h1 := heap_alloc_new w (.cells #[.pointer (some ⟨mg, 0, none⟩)] 24)
 have h2 := heap_alloc_new (w.alloc (.cells #[.pointer (some ⟨mg, 0, none⟩)] 24)) (.cells #[.pointer (some ⟨mg, 0, none⟩), .int .i64 0, .slice none 0 0, .slice none 0 0, .bool false, .nilFunc] 82)
 rw [World.size_alloc] at h2
 have hb2 := ((Below.refl w.heap.size w).alloc (Nat.le_refl _) (.cells #[.pointer (some ⟨mg, 0, none⟩)] 24)).alloc (by simp) (.cells #[.pointer (some ⟨mg, 0, none⟩), .int .i64 0, .slice none 0 0, .slice none 0 0, .bool false, .nilFunc] 82)
 have h1' := (Below.heap_alloc (w.alloc (.cells #[.pointer (some ⟨mg, 0, none⟩)] 24)) (.cells #[.pointer (some ⟨mg, 0, none⟩), .int .i64 0, .slice none 0 0, .slice none 0 0, .bool false, .nilFunc] 82) _ (by simp)).trans h1
 have H1 := Lib.hid h1'
 have H2 := Lib.hid h2
 have Hb := Lib.hid hb2
 clear h1 h1' h2 hb2
 go_enter Tryz.func18, Tryz.ntmps18
 go_upto_region 2 with fail
 generalize (w.alloc (.cells #[.pointer (some ⟨mg, 0, none⟩)] 24)).alloc (.cells #[.pointer (some ⟨mg, 0, none⟩), .int .i64 0, .slice none 0 0, .slice none 0 0, .bool false, .nilFunc] 82) = w2 at *
 have d5 : w2.cell? ⟨w.heap.size + 1, 5, none⟩ = some .nilFunc := row_cell H2.out (j := 5) rfl
 have f5 := row_frozen H2.out 5
 go_wp2_with fail
 clear d5 f5
 have hset := Chg.set (w := w2) (w.heap.size + 1) 5 (.func (.func 42) #[] #[.pointer (some ⟨w.heap.size, 0, none⟩)])
 have hr3 : (w2.setCell ⟨w.heap.size + 1, 5, none⟩ (.func (.func 42) #[] #[.pointer (some ⟨w.heap.size, 0, none⟩)])).heap[w.heap.size + 1]? = some (.cells (runC mg w.heap.size 0 (.slice none 0 0) (.slice none 0 0) false) 82 (0, 0)) := row_set H2.out 5 _
 have Hr3 := Lib.hid hr3
 have Hp3 := Lib.hid ((hset.block w.heap.size (lt_of_heap H1.out) (by omega)).trans H1.out)
 have hb3 := Hb.out.setCell (p := ⟨w.heap.size + 1, 5, none⟩) (Nat.le_succ _) (.func (.func 42) #[] #[.pointer (some ⟨w.heap.size, 0, none⟩)])
 have Hb3 := Lib.hid hb3
 clear hset hr3 hb3
 generalize w2.setCell ⟨w.heap.size + 1, 5, none⟩ (.func (.func 42) #[] #[.pointer (some ⟨w.heap.size, 0, none⟩)]) = w3 at *
 have hI0 : Ints w3 w.heap.size (.slice none 0 0) (idx 0 []) := ⟨rfl, .inl ⟨rfl, rfl⟩⟩
 have hS0 : Sl w3 (.slice none 0 0) (([] : List Int).map intV) := ⟨Nat.zero_le _, none, 0, rfl, Nat.le_refl _, fun h => absurd h (Nat.lt_irrefl _)⟩
 have hin0 : ∀ i ∈ ([] : List Int), ∃ q : Nat, i = q ∧ q < M.length := fun i hi => by simp at hi
 have hf0 : (((0 : Nat) : Int) == 0) = true := rfl
 (with_reducible refine (enter_any (z := []) (l := []) (fb := true) Hmo.out ((MchB.start H.out).then Hb3.out) (Nat.le_succ _) Hr3.out hI0 rfl (Nat.zero_le _) hS0 (Nat.zero_le _) hin0 hf0).mono ?_)
 rintro e w4 ⟨y, vs, ve, b, rfl, a1, a2, a3, a4, a5, a6, a7, a8, a9⟩
 have hch : Chg (fun k => k = w.heap.size + 1) w3 w4 := a9.mono (fun i hi => by
  rcases hi with hi | hi
  ·exact hi
  ·simp [Value.ownBlock] at hi)
 have hset := set_start a1
 have hR : RunR M st mg w.heap.size (w.heap.size + 1) w.heap.size [] false vs ve w4 := ⟨((MchB.start H.out).then Hb3.out).then (hch.below Hb3.out.size (fun i hi => by omega)), Nat.le_succ _, Nat.le_refl _, a3, (hch.block _ (lt_of_heap Hp3.out) (by omega)).trans Hp3.out, ⟨y, a4, hset⟩, ⟨[b], a5, ends_start hset a2⟩, a8⟩
 have HR := Lib.hid hR
 have HB := Lib.hid (Hb3.out.trans (hch.below Hb3.out.size (fun i hi => by omega)))
 clear a1 a2 a3 a4 a5 a6 a7 a8 a9 hch hset hR
 go_wp2_with fail
 go_ret
 exact ⟨_, _, vs, ve, rfl, HR.out, HB.out⟩
set_option maxHeartbeats 4000000 in
theorem hit_any {M : List St} {st mg B g pg : Nat} {s : List Int} {E : Bool} {vs ve : Value} {w : World} (h : RunR M st mg B g pg s E vs ve w) {z : List Bool} (hz : EndsAt M st s E z) : Calls Tryz.prog 22 #[.pointer (some ⟨g, 0, none⟩)] w fun e w' => e = .returned (.bool (decide (0 < (idx 0 z).length))) ∧ w' = w := by
 obtain ⟨z', hi, he⟩ := h.ends
 obtain rfl : z' = z := by
  refine List.ext_getElem? (fun j => ?_)
  by_cases hj : j < s.length + 1
  ·obtain ⟨a, ha⟩ : ∃ a, z'[j]? = some a := ⟨_, List.getElem?_eq_getElem (by have := he.1; omega)⟩
   obtain ⟨b, hb⟩ : ∃ b, z[j]? = some b := ⟨_, List.getElem?_eq_getElem (by have := hz.1; omega)⟩
   have h1 := (he.2 j).trans (hz.2 j).symm
   rw [ha, hb] at h1 ⊢
   cases a <;> cases b <;> simp_all
  ·rw [List.getElem?_eq_none (by have := he.1; omega), List.getElem?_eq_none (by have := hz.1; omega)]
 obtain ⟨A, q, rfl, -, -, -⟩ := ownsRow_slice hi
 have d3 : w.cell? ⟨g, 3, none⟩ = some (.slice A (idx 0 z').length q) := row_cell h.row (j := 3) rfl
 clear h hi he hz
 go_enter Tryz.func22, Tryz.ntmps22
 go_wp2_with fail
 go_ret
 refine ⟨?_, rfl⟩
 simp
set_option maxHeartbeats 4000000 in
theorem clip_any {w : World} {A : Option Addr} {n q : Nat} (hn : n ≤ q) : Calls Tryz.prog 49 #[.slice A n q] w fun e w' => e = .returned (.slice A n n) ∧ w' = w := by
 go_enter Tryz.func49, Tryz.ntmps49
 go_wp2_with fail
 go_ret
 exact ⟨rfl, rfl⟩
end Go.Proofs.YthhnmpkgleelfaaGreatDoor
