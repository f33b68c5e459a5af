import Derived.Test.YthhnmpkgleelfaaGreatDoorK40
import Derived.Test.YthhnmpkgleelfaaGreatDoorK9
import Derived.Deep.RegionHeld
import Derived.Test.YthhnmpkgleelfaaGreatDoorK17
import Derived.Test.YthhnmpkgleelfaaGreatDoorK18
set_option linter.unusedVariables false
set_option linter.unusedSimpArgs false
namespace Go.Proofs.YthhnmpkgleelfaaGreatDoor
open Go.RowKit Go.Shelf
def AtF (f : Nat → List St → Nat × List St) : Prop := ∀ t L, AtM L → AtM (f t L).2
theorem AtM.snoc {L : List St} {z : St} (h : AtM L) (hz : ∀ r t, z = .eat r t → AtR r) : AtM (L ++ [z]) := by
 intro r t hm
 rcases List.mem_append.1 hm with hm | hm
 ·exact h r t hm
 ·exact hz r t (List.mem_singleton.1 hm).symm
theorem AtF.it {f : Nat → List St → Nat × List St} (h : AtF f) : ∀ n, AtF (itF f n)
 | 0 => fun _ _ hL => hL
 | n + 1 => fun t L hL => by rw [itF]; exact AtF.it h n _ _ (h t L hL)
theorem AtF.opt {f : Nat → List St → Nat × List St} (h : AtF f) (t : Nat) : AtF (optF f t) := fun a L hL => (h a L hL).snoc (fun _ _ e => by cases e)
theorem lay_at : ∀ r : Rx, r.ok → AtF (layF r)
 | .emp, _ => fun _ _ hL => hL
 | .chr c, h => fun _ _ hL => hL.snoc (fun _ _ e => by cases e; exact h)
 | .any, _ => fun _ _ hL => hL.snoc (fun _ _ e => by cases e; trivial)
 | .set cs, h => fun _ _ hL => hL.snoc (fun _ _ e => by cases e; exact h)
 | .beg, _ => fun _ _ hL => hL.snoc (fun _ _ e => by cases e)
 | .fin, _ => fun _ _ hL => hL.snoc (fun _ _ e => by cases e)
 | .cat a b, h => fun t L hL => by rw [layF]; exact lay_at a h.1 _ _ (lay_at b h.2 _ _ hL)
 | .alt a b, h => fun t L hL => by rw [layF]; exact (lay_at a h.1 _ _ (lay_at b h.2 _ _ hL)).snoc (fun _ _ e => by cases e)
 | .rep x mn mx, h => fun t L hL => by
  have ix := lay_at x h.1
  rw [layF_rep]
  refine ix.it _ _ _ ?_
  unfold repA
  split
  ·intro r q hm
   rcases List.mem_or_eq_of_mem_set hm with hm | e
   ·exact ix _ _ (hL.snoc (fun _ _ e => by cases e)) r q hm
   ·cases e
  ·exact (ix.opt t).it _ _ _ hL
structure MOk (M : List St) (st : Nat) : Prop where
 wf : Wf M
 at_ : AtM M
 zero : M[0]? = some .done
 st : st < M.length
 len : M.length ≤ 3000
theorem mc_ok {r : Rx} (ho : r.ok) (h : statesF r ≤ 3000) : MOk (mcS r) (mcT r) :=
 ⟨(mc_wf r).1, lay_at r ho 0 [.done] (fun _ _ h => by cases List.mem_singleton.1 h), mc_zero r, (mc_wf r).2, by have := mc_len ho h; omega⟩
structure Chg (F : Nat → Prop) (w w' : World) : Prop where
 os : w'.os = w.os
 tape : w'.tape = w.tape
 output : w'.output = w.output
 size : w.heap.size ≤ w'.heap.size
 block : ∀ k, k < w.heap.size → ¬ F k → w'.heap[k]? = w.heap[k]?
theorem Chg.of_below {F : Nat → Prop} {w w' : World} (h : Below w.heap.size w w') : Chg F w w' := ⟨h.os, h.tape, h.output, h.size, fun k hk _ => h.block k hk⟩
theorem Chg.refl (F : Nat → Prop) (w : World) : Chg F w w := Chg.of_below (Below.refl _ _)
theorem Chg.trans {F G : Nat → Prop} {a b c : World} (h : Chg F a b) (k : Chg G b c) (hg : ∀ i, G i → F i ∨ a.heap.size ≤ i) : Chg F a c :=
 ⟨k.os.trans h.os, k.tape.trans h.tape, k.output.trans h.output, Nat.le_trans h.size k.size, fun i hi hf => (k.block i (Nat.lt_of_lt_of_le hi h.size) (fun hG => by rcases hg i hG with h1 | h1; exact hf h1; omega)).trans (h.block i hi hf)⟩
theorem Chg.mono {F G : Nat → Prop} {a b : World} (h : Chg F a b) (hg : ∀ i, F i → G i) : Chg G a b := ⟨h.os, h.tape, h.output, h.size, fun i hi hn => h.block i hi (fun hf => hn (hg i hf))⟩
theorem Chg.below {F : Nat → Prop} {B : Nat} {w w' : World} (h : Chg F w w') (hB : B ≤ w.heap.size) (hf : ∀ i, F i → B ≤ i) : Below B w w' := ⟨h.os, h.tape, h.output, h.size, fun k hk => h.block k (Nat.lt_of_lt_of_le hk hB) (fun hF => by have := hf k hF; omega)⟩
theorem Chg.set {w : World} (g j : Nat) (u : Value) : Chg (fun k => k = g) w (w.setCell ⟨g, j, none⟩ u) := ⟨rfl, rfl, rfl, by simp, fun k _ hk => Below.heap_setCell w _ u k hk⟩
theorem Chg.grown {w w' : World} {o : Option Nat} (h : w.grownBy w' o) : Chg (fun k => o = some k) w w' := ⟨h.os, h.tape, h.output, h.size, fun k hk hn => h.block k hk (fun e => hn e.symm)⟩
theorem own_stay {w w' : World} {base k n : Nat} {e : TypeId} {v : Value} {us : List Value} (h : w.ownsRow base e k v n us) (hs : ∀ b, v.ownBlock = some b → w'.heap[b]? = w.heap[b]?) : w'.ownsRow base e k v n us := by
 obtain ⟨h1, ⟨rfl, h0⟩ | ⟨g, cap, cur, rfl, hbg, hg, r⟩⟩ := h
 ·exact ⟨h1, .inl ⟨rfl, h0⟩⟩
 ·exact ⟨h1, .inr ⟨g, cap, cur, rfl, hbg, (hs g rfl).trans hg, r⟩⟩
theorem Ints.stay {F : Nat → Prop} {w w' : World} {base : Nat} {v : Value} {l : List Int} (h : Ints w base v l) (hc : Chg F w w') (hf : ∀ b, v.ownBlock = some b → ¬ F b) : Ints w' base v l :=
 own_stay h (fun b hb => by obtain ⟨_, cur, hg⟩ := ownsRow_block h hb; exact hc.block b (lt_of_heap hg) (hf b hb))
def MchB (M : List St) (st mg B : Nat) (w : World) : Prop := ∃ w0 : World, w0.heap.size = B ∧ Mch w0 mg M st ∧ Below B w0 w
theorem MchB.start {M : List St} {st mg : Nat} {w : World} (h : Mch w mg M st) : MchB M st mg w.heap.size w := ⟨w, rfl, h, Below.refl _ _⟩
theorem MchB.mch {M : List St} {st mg B : Nat} {w : World} (h : MchB M st mg B w) : Mch w mg M st := by
 obtain ⟨w0, rfl, h1, h2⟩ := h
 exact h1.below h2
theorem MchB.then {M : List St} {st mg B : Nat} {w w' : World} (h : MchB M st mg B w) (hb : Below B w w') : MchB M st mg B w' := by
 obtain ⟨w0, h0, h1, h2⟩ := h
 exact ⟨w0, h0, h1, h2.trans hb⟩
theorem MchB.size {M : List St} {st mg B : Nat} {w : World} (h : MchB M st mg B w) : B ≤ w.heap.size := by
 obtain ⟨w0, rfl, h1, h2⟩ := h
 exact h2.size
def runC (mg pg n : Nat) (vs ve : Value) (E : Bool) : Array Value := #[.pointer (some ⟨mg, 0, none⟩), .int .i64 n, vs, ve, .bool E, .func (.func 42) #[] #[.pointer (some ⟨pg, 0, none⟩)]]
def Foot (g pg : Nat) (vs ve : Value) (k : Nat) : Prop := k = g ∨ k = pg ∨ vs.ownBlock = some k ∨ ve.ownBlock = some k
structure RunR (M : List St) (st mg B g pg : Nat) (s : List Int) (E : Bool) (vs ve : Value) (w : World) : Prop where
 mch : MchB M st mg B w
 gB : B ≤ g
 pB : B ≤ pg
 row : w.heap[g]? = some (.cells (runC mg pg s.length vs ve E) 82 (0, 0))
 cap : w.heap[pg]? = some (.cells #[.pointer (some ⟨mg, 0, none⟩)] 24 (0, 0))
 set : ∃ y, Ints w B vs (idx 0 y) ∧ SetAt M st s y
 ends : ∃ z, Ints w B ve (idx 0 z) ∧ EndsAt M st s E z
 sep : ∀ k, vs.ownBlock = some k → ve.ownBlock ≠ some k
theorem RunR.foot {M : List St} {st mg B g pg : Nat} {s : List Int} {E : Bool} {vs ve : Value} {w : World} (h : RunR M st mg B g pg s E vs ve w) {k : Nat} (hk : Foot g pg vs ve k) : B ≤ k ∧ k < w.heap.size := by
 obtain ⟨y, hy, -⟩ := h.set
 obtain ⟨z, hz, -⟩ := h.ends
 rcases hk with rfl | rfl | hk | hk
 ·exact ⟨h.gB, lt_of_heap h.row⟩
 ·exact ⟨h.pB, lt_of_heap h.cap⟩
 ·obtain ⟨h1, _, h2⟩ := ownsRow_block hy hk; exact ⟨h1, lt_of_heap h2⟩
 ·obtain ⟨h1, _, h2⟩ := ownsRow_block hz hk; exact ⟨h1, lt_of_heap h2⟩
theorem RunR.stay {M : List St} {st mg B g pg : Nat} {s : List Int} {E : Bool} {vs ve : Value} {w w' : World} {F : Nat → Prop} (h : RunR M st mg B g pg s E vs ve w) (hc : Chg F w w') (hB : ∀ k, F k → B ≤ k) (hf : ∀ k, Foot g pg vs ve k → ¬ F k) : RunR M st mg B g pg s E vs ve w' := by
 obtain ⟨y, hy, hs⟩ := h.set
 obtain ⟨z, hz, he⟩ := h.ends
 exact ⟨h.mch.then (hc.below h.mch.size hB), h.gB, h.pB, (hc.block _ (lt_of_heap h.row) (hf _ (.inl rfl))).trans h.row, (hc.block _ (lt_of_heap h.cap) (hf _ (.inr (.inl rfl)))).trans h.cap,
  ⟨y, hy.stay hc (fun b hb => hf b (.inr (.inr (.inl hb)))), hs⟩, ⟨z, hz.stay hc (fun b hb => hf b (.inr (.inr (.inr hb)))), he⟩, h.sep⟩
def EnP (M : List St) (st mg B g pg n : Nat) (z : List Bool) (fb : Bool) (l : List Int) (ve0 : Value) (w : World) (e : Ending) (w' : World) : Prop :=
 ∃ (y : List Bool) (vs ve : Value) (b : Bool), e = .returned (.tuple #[]) ∧ StillY M fb false (l ++ [(st : Int)]) y ∧ y[0]? = some b ∧ w'.heap[g]? = some (.cells (runC mg pg n vs ve false) 82 (0, 0)) ∧ Ints w' B vs (idx 0 y) ∧ Ints w' B ve (idx 0 (z ++ [b])) ∧ (∀ k, vs.ownBlock = some k → w.heap.size ≤ k) ∧ (∀ k, ve.ownBlock = some k → ve0.ownBlock = some k ∨ w.heap.size ≤ k) ∧ (∀ k, vs.ownBlock = some k → ve.ownBlock ≠ some k) ∧ Chg (fun k => k = g ∨ ve0.ownBlock = some k) w w'
theorem int_snoc {w : World} {base : Nat} {v : Value} {l : List Int} {c : Int} (h : w.ownsRow base 3 1 v (l.length + 1) (l.map intV ++ [.int .i64 c])) : Ints w base v (l ++ [c]) := by
 unfold Ints
 rw [List.length_append, List.map_append]
 exact h
theorem run_cells {w : World} {g mg pg n : Nat} {vs ve : Value} {E : Bool} (h : w.heap[g]? = some (.cells (runC mg pg n vs ve E) 82 (0, 0))) : w.cell? ⟨g, 0, none⟩ = some (.pointer (some ⟨mg, 0, none⟩)) ∧ w.cell? ⟨g, 1, none⟩ = some (.int .i64 n) := ⟨row_cell h (j := 0) rfl, row_cell h (j := 1) rfl⟩
set_option maxHeartbeats 16000000 in
set_option maxRecDepth 100000 in
theorem enter_any {M : List St} {st mg B g pg n n0 q0 : Nat} {z : List Bool} {l : List Int} {vs0 ve0 : Value} {A0 : Option Addr} {w : World} {fb : Bool} (hmo : MOk M st) (hm : MchB M st mg B w) (gB : B ≤ g) (hrow : w.heap[g]? = some (.cells (runC mg pg n vs0 ve0 false) 82 (0, 0))) (he : Ints w B ve0 (idx 0 z)) (hz : z.length = n) (hn : n ≤ 100000)
  (hl : Sl w (.slice A0 n0 q0) (l.map intV)) (hll : l.length ≤ 50000) (hin : ∀ i ∈ l, ∃ q : Nat, i = q ∧ q < M.length) (hfb : ((n : Int) == 0) = fb) : Calls Tryz.prog 44 #[.pointer (some ⟨g, 0, none⟩), .slice A0 n0 q0] w fun e w' => EnP M st mg B g pg n z fb l ve0 w e w' := by
 obtain rfl := sl_len hl
 have hMl := hmo.len
 have hBw := hm.size
 have Hst := Lib.hid hmo.st
 have Hwf := Lib.hid hmo.wf
 have H0 := Lib.hid hmo.zero
 have Hin := Lib.hid hin
 have Hz := Lib.hid hz
 clear hin hz hmo
 obtain ⟨wq, hwq⟩ : ∃ wq, w.drew = wq := ⟨_, rfl⟩
 have hzq : wq.heap.size = w.heap.size := by rw [← hwq]; rfl
 have HM := Lib.hid (show MchB M st mg B wq by rw [← hwq]; exact hm.then ((Below.refl _ _).drew))
 obtain ⟨Ae, qe, rfl, -, -, -⟩ := ownsRow_slice he
 have HH := Lib.hid (show wq.heap[g]? = some (.cells (runC mg pg n vs0 (.slice Ae (idx 0 z).length qe) false) 82 (0, 0)) by rw [← hwq]; exact hrow)
 have HE := Lib.hid (show Ints wq B (.slice Ae (idx 0 z).length qe) (idx 0 z) by rw [← hwq]; exact he)
 have HL := Lib.hid (show Sl wq (.slice A0 l.length q0) (l.map intV) by rw [← hwq]; exact hl)
 have HC := Lib.hid (show Chg (fun k => k = g ∨ (Value.slice Ae (idx 0 z).length qe).ownBlock = some k) w wq by rw [← hwq]; exact Chg.of_below ((Below.refl _ _).drew))
 clear hm hrow he hl
 go_enter Tryz.func44, Tryz.ntmps44
 go_wp2_with fail
 refine wp_region_noPanic ?_
 refine wp_region_held_drew (S := fun w' => w'.cell? ⟨g, 0, none⟩ = some (.pointer (some ⟨mg, 0, none⟩)) ∧ w'.cell? ⟨g, 1, none⟩ = some (.int .i64 n)) (by kernel_rfl) ((by rw [hwq]; exact run_cells HH.out)) (fun hHeld => ?_)
 refine tkH 0 (v := ?v0) (nth rfl) (by kernel_rfl) (by kernel_rfl) (by kernel_rfl) (fun _ _ _ h => h) (by rfl) hHeld ?y0 ?r0
 case y0 => (intro w hSw; (try dsimp only at hSw); go_simp; (try with_reducible rfl))
 try simp only [Act.put, pA, pB, pC]
 refine tkH 1 (v := ?v1) (nth rfl) (by kernel_rfl) (by kernel_rfl) (by kernel_rfl) (fun _ _ _ h => h) (by rfl) hHeld ?y1 ?r1
 case y1 => (intro w hSw; (try dsimp only at hSw); go_simp; (try with_reducible rfl))
 try simp only [Act.put, pA, pB, pC]
 refine tkH 2 (v := ?v2) (nth rfl) (by kernel_rfl) (by kernel_rfl) (by kernel_rfl) (fun _ _ _ h => h) (by rfl) hHeld ?y2 ?r2
 case y2 => (intro w hSw; (try dsimp only at hSw); go_simp; (try with_reducible rfl))
 try simp only [Act.put, pA, pB, pC]
 refine tkH 3 (v := ?v3) (nth rfl) (by kernel_rfl) (by kernel_rfl) (by kernel_rfl) (fun _ _ _ h => h) (by rfl) hHeld ?y3 ?r3
 case y3 => (intro w hSw; (try dsimp only at hSw); go_simp; (try with_reducible rfl))
 try simp only [Act.put, pA, pB, pC]
 refine tkH 4 (v := ?v4) (nth rfl) (by kernel_rfl) (by kernel_rfl) (by kernel_rfl) (fun _ _ _ h => h) (by rfl) hHeld ?y4 ?r4
 case y4 => (intro w hSw; (try dsimp only at hSw); go_simp; (try with_reducible rfl))
 try simp only [Act.put, pA, pB, pC]
 refine tkH 5 (v := ?v5) (nth rfl) (by kernel_rfl) (by kernel_rfl) (by kernel_rfl) (fun _ _ _ h => h) (by rfl) hHeld ?y5 ?r5
 case y5 => (intro w hSw; (try dsimp only at hSw); go_simp; (try with_reducible rfl))
 try simp only [Act.put, pA, pB, pC]
 refine tkH 7 (v := ?v6) (nth rfl) (by kernel_rfl) (by kernel_rfl) (by kernel_rfl) (fun _ _ _ h => h) (by rfl) hHeld ?y6 ?r6
 case y6 => (intro w hSw; (try dsimp only at hSw); go_simp; (try with_reducible rfl))
 try simp only [Act.put, pA, pB, pC]
 refine tkH 8 (v := ?v7) (nth rfl) (by kernel_rfl) (by kernel_rfl) (by kernel_rfl) (fun _ _ _ h => h) (by rfl) hHeld ?y7 ?r7
 case y7 => (intro w hSw; (try dsimp only at hSw); go_simp; (try with_reducible rfl))
 try simp only [Act.put, pA, pB, pC]
 refine tkH 9 (v := ?v8) (nth rfl) (by kernel_rfl) (by kernel_rfl) (by kernel_rfl) (fun _ _ _ h => h) (by rfl) hHeld ?y8 ?r8
 case y8 => (intro w hSw; (try dsimp only at hSw); go_simp; (try with_reducible rfl))
 try simp only [Act.put, pA, pB, pC]
 refine tkH 10 (v := ?v9) (nth rfl) (by kernel_rfl) (by kernel_rfl) (by kernel_rfl) (fun _ _ _ h => h) (by rfl) hHeld ?y9 ?r9
 case y9 => (intro w hSw; (try dsimp only at hSw); go_simp; (try with_reducible rfl))
 try simp only [Act.put, pA, pB, pC]
 refine tkH 14 (v := ?va) (nth rfl) (by kernel_rfl) (by kernel_rfl) (by kernel_rfl) (fun _ _ _ h => h) (by rfl) hHeld ?ya ?ra
 case ya => (intro w hSw; (try dsimp only at hSw); go_simp; (try with_reducible rfl))
 try simp only [Act.put, pA, pB, pC]
 refine tkH 15 (v := ?vb) (nth rfl) (by kernel_rfl) (by kernel_rfl) (by kernel_rfl) (fun _ _ _ h => h) (by rfl) hHeld ?yb ?rb
 case yb => (intro w hSw; (try dsimp only at hSw); go_simp; (try with_reducible rfl))
 try simp only [Act.put, pA, pB, pC]
 refine tkH 16 (v := ?vc) (nth rfl) (by kernel_rfl) (by kernel_rfl) (by kernel_rfl) (fun _ _ _ h => h) (by rfl) hHeld ?yc ?rc
 case yc => (intro w hSw; (try dsimp only at hSw); go_simp; (try with_reducible rfl))
 try simp only [Act.put, pA, pB, pC]
 refine tkH 17 (v := ?vd) (nth rfl) (by kernel_rfl) (by kernel_rfl) (by kernel_rfl) (fun _ _ _ h => h) (by rfl) hHeld ?yd ?rd
 case yd => (intro w hSw; (try dsimp only at hSw); go_simp; (try with_reducible rfl))
 try simp only [Act.put, pA, pB, pC]
 refine tkH 18 (v := ?ve) (nth rfl) (by kernel_rfl) (by kernel_rfl) (by kernel_rfl) (fun _ _ _ h => h) (by rfl) hHeld ?ye ?re
 case ye => (intro w hSw; (try dsimp only at hSw); go_simp; (try with_reducible rfl))
 try simp only [Act.put, pA, pB, pC]
 refine wpAnyH_ready (rs := [6]) (by kernel_rfl) (by simp) ?_
 refine AllReadyH.cons (nth rfl) (fun K hK => ?_) AllReadyH.nil
 go_simp
 clear hwq; (with_reducible refine (clone_any HL.out (by omega)).mono ?_); rintro e w1 ⟨A1, q1, rfl, hb1, ho1⟩; have Hb1 := Lib.hid hb1; have Ho1 := Lib.hid ho1; have HH1 := Lib.hid (quiet_heap HH.out hb1); clear hb1 ho1; go_simp
 refine hK.out _ _ (run_cells HH1.out) (fun hHeld => ?_)
 clear hK K
 try simp only [Act.put, pA, pB, pC]
 refine wpAnyH_ready (rs := [11]) (by kernel_rfl) (by simp) ?_
 refine AllReadyH.cons (nth rfl) (fun K hK => ?_) AllReadyH.nil
 go_simp
 (with_reducible refine (start_any (HM.out.then (Hb1.out.mono HM.out.size)).mch).mono ?_); rintro e w2 ⟨rfl, rfl⟩; obtain ⟨w2, rfl⟩ : ∃ w2 : World, w2 = w1 := ⟨_, rfl⟩; have Hoa := Lib.hid (Ho1.out.below (alloc_below _ (.cells #[.int .i64 st] 3))); have Hcn := Lib.hid (cells_new w2 [.int .i64 (st : Int)] 3); have HHa := Lib.hid (quiet_heap HH1.out (alloc_below _ (.cells #[.int .i64 st] 3))); have Hba := Lib.hid (Hb1.out.alloc Hb1.out.size (.cells #[.int .i64 st] 3)); go_simp
 refine hK.out _ _ (run_cells HH1.out) (fun hHeld => ?_)
 clear hK K
 try simp only [Act.put, pA, pB, pC]
 refine wpAnyH_ready (rs := [12]) (by kernel_rfl) (by simp) ?_
 refine AllReadyH.cons (nth rfl) (fun K hK => ?_) AllReadyH.nil
 go_simp
 refine hK.out _ _ (run_cells HHa.out) (fun hHeld => ?_)
 clear hK K
 try simp only [Act.put, pA, pB, pC]
 refine wpAnyH_ready (rs := [13]) (by kernel_rfl) (by simp) ?_
 refine AllReadyH.cons (nth rfl) (fun K hK => ?_) AllReadyH.nil
 refine step_append_k elInt rfl (.tmp 10) (.tmp 16) rfl wq.heap.size (.slice A1 l.length q1) l.length w2.heap.size 1 1 (l.map intV) [.int .i64 (st : Int)] (by simp [Act.eval]) Hoa.out (by simp [Act.eval]) rfl Hcn.out (by simp [Value.oneCell']) (by unfold maxLen; omega) (by omega) Hba.out.size ?_; intro v' w3 h1 h2 h3; obtain ⟨A3, q3, rfl, -, -, -⟩ := ownsRow_slice h1; have Hb3 := Lib.hid (own_below Hba.out Hoa.out Hba.out.size h2); have Hp3 := Lib.hid (int_snoc h1); have HH3 := Lib.hid (quiet_heap HH.out Hb3.out); clear h1 h2 h3
 refine hK.out _ _ (run_cells HH3.out) (fun hHeld => ?_)
 clear hK K
 try simp only [Act.put, pA, pB, pC]
 refine wpAnyH_ready (rs := [19]) (by kernel_rfl) (by simp) ?_
 refine AllReadyH.cons (nth rfl) (fun K hK => ?_) AllReadyH.nil
 go_simp
 (with_reducible refine (still_any fb false (HM.out.then (Hb3.out.mono HM.out.size)).mch (n0 := l.length + 1) (l := l ++ [(st : Int)]) (Ints.sl Hp3.out) Hwf.out (by omega) (by simp; omega) (fun i hi => by rcases List.mem_append.1 hi with hi | hi; exact Hin.out i hi; exact ⟨st, List.mem_singleton.1 hi, Hst.out⟩)).mono ?_); rintro e w4 ⟨y, hy, A4, q4, rfl, hb4, ho4⟩; have Hy := Lib.hid hy; have Hb4 := Lib.hid (Hb3.out.trans (hb4.mono Hb3.out.size)); have Ho4 := Lib.hid ho4; have hs34 := Hb3.out.size; have HS34 := Lib.hid hb4.size; have HH4 := Lib.hid (quiet_heap HH.out Hb4.out); have d2 := row_cell HH4.out (j := 2) rfl; have f2 := row_frozen HH4.out 2; clear hb4 ho4 hy; go_simp
 refine hK.out _ _ (run_cells HH4.out) (fun hHeld => ?_)
 clear hK K
 try simp only [Act.put, pA, pB, pC]
 refine tkH 20 (v := ?vf) (nth rfl) (by kernel_rfl) (by kernel_rfl) (by kernel_rfl) (fun _ _ _ h => h) (by rfl) hHeld ?yf ?rf
 case yf => (intro w hSw; (try dsimp only at hSw); go_simp; (try with_reducible rfl))
 try simp only [Act.put, pA, pB, pC]
 refine tkH 21 (v := ?vg) (nth rfl) (by kernel_rfl) (by kernel_rfl) (by kernel_rfl) (fun _ _ _ h => h) (by rfl) hHeld ?yg ?rg
 case yg => (intro w hSw; (try dsimp only at hSw); go_simp; (try with_reducible rfl))
 try simp only [Act.put, pA, pB, pC]
 refine wpAnyH_ready (rs := [22]) (by kernel_rfl) (by simp) ?_
 refine AllReadyH.cons (nth rfl) (fun K hK => ?_) AllReadyH.nil
 go_simp
 refine hK.out _ _ (run_cells (row_set HH4.out 2 _)) (fun hHeld => ?_)
 clear hK K
 try simp only [Act.put, pA, pB, pC]
 refine wpAnyH_done (by kernel_rfl) (NoPanic.normal ?_) _
 clear hHeld d2 f2
 have hne4 := own_ne Ho4.out HH4.out (by decide)
 have HEa := Lib.hid (HE.out.below Hb4.out)
 have hneE := own_ne HEa.out HH4.out (by decide)
 have hset := Chg.set (w := w4) g 2 (.slice A4 (idx 0 y).length q4)
 have H5 := Lib.hid (show (w4.setCell ⟨g, 2, none⟩ (.slice A4 (idx 0 y).length q4)).heap[g]? = some (.cells (runC mg pg n (.slice A4 (idx 0 y).length q4) (.slice Ae (idx 0 z).length qe) false) 82 (0, 0)) from row_set HH4.out 2 _)
 have Ho5 := Lib.hid (Ho4.out.stay hset (fun b hb e => hne4 (by rw [hb, e])))
 have HE5 := Lib.hid (HEa.out.stay hset (fun b hb e => hneE (by rw [hb, e])))
 have HC5 := Lib.hid ((HC.out.trans (Chg.of_below (F := fun _ => False) Hb4.out) (fun _ h => h.elim)).trans hset (fun i hi => .inl (.inl hi)))
 have HsE := Lib.hid (show ∀ k, (Value.slice Ae (idx 0 z).length qe).ownBlock = some k → k < w3.heap.size from fun k hk => Nat.lt_of_lt_of_le (lt_of_heap (ownsRow_block HE.out hk).2.choose_spec) hs34)
 have hs5 : w.heap.size ≤ w3.heap.size := by have := hs34; omega
 have hsz5 : w3.heap.size ≤ (w4.setCell ⟨g, 2, none⟩ (.slice A4 (idx 0 y).length q4)).heap.size := by rw [World.size_setCell]; have := Hb4.out.size; have hx := lt_of_heap HH4.out; exact HS34.out
 clear hset hne4 hneE HEa Ho4 HH4 HE HH HC HL HM Hb3 Hb1 Ho1 HH1 Hoa Hcn HHa Hba Hp3 HH3 hs34 Hb4
 generalize w4.setCell ⟨g, 2, none⟩ (.slice A4 (idx 0 y).length q4) = w5 at *
 have hyl : y.length ≤ 3000 := by have := Hy.out.1; omega
 have hil := idx_len y 0
 have hzl := idx_len z 0
 have hzl2 := Hz.out
 obtain ⟨b, hb⟩ : ∃ b, y[0]? = some b := ⟨_, List.getElem?_eq_getElem (by have := Hy.out.1; have := Hst.out; omega)⟩
 have Hb := Lib.hid hb
 have hbm := mem0 y 0
 rw [hb] at hbm
 have d2 : w5.cell? ⟨g, 2, none⟩ = some (.slice A4 (idx 0 y).length q4) := row_cell H5.out (j := 2) rfl
 go_wp2_with fail
 clear d2
 (with_reducible refine (contains_any (Ints.sl Ho5.out) (by omega) 0).mono ?_)
 rintro e wz ⟨rfl, rfl⟩
 cases b with
 | false =>
  rw [show decide ((0 : Int) ∈ idx 0 y) = false by rw [decide_eq_false_iff_not]; intro h; have := hbm.1 h; simp at this]
  clear hb hbm
  go_wp2_with fail
  go_end0
  exact ⟨y, _, _, false, rfl, Hy.out, Hb.out, H5.out, Ints.low Ho5.out (by omega), by rw [idx_snoc]; simpa using HE5.out, fun k hk => by have := (ownsRow_block Ho5.out hk).1; omega, fun k hk => .inl hk, fun k hk hk2 => by have := (ownsRow_block Ho5.out hk).1; have := HsE.out k hk2; omega, HC5.out⟩
 | true =>
  rw [show decide ((0 : Int) ∈ idx 0 y) = true by rw [decide_eq_true_iff]; exact hbm.2 rfl]
  clear hb hbm
  obtain ⟨wr, hwr⟩ : ∃ wr, wz.drew = wr := ⟨_, rfl⟩
  have hdr := (Below.refl wz.heap.size wz).drew
  rw [hwr] at hdr
  have R5 := Lib.hid (quiet_heap H5.out hdr)
  have RE := Lib.hid (HE5.out.below hdr)
  have RS := Lib.hid (Ho5.out.below hdr)
  have RC := Lib.hid (HC5.out.trans (Chg.of_below (F := fun _ => False) hdr) (fun _ h => h.elim))
  have hrs : wr.heap.size = wz.heap.size := by rw [← hwr]; rfl
  clear hdr H5 HE5 HC5
  go_wp2_with fail
  obtain ⟨wa, hwa⟩ : ∃ wa, wr.alloc (.cells #[.int .i64 (n : Int)] 3) = wa := ⟨_, rfl⟩
  have hal := alloc_below wr (.cells #[.int .i64 (n : Int)] 3)
  rw [hwa] at hal
  have Hcn := Lib.hid (show ∀ j u, [Value.int .i64 (n : Int)][j]? = some u → wa.cell? ⟨wz.heap.size, j, none⟩ = some u by rw [← hwa, ← hrs]; exact cells_new wr [.int .i64 (n : Int)] 3)
  have A5 := Lib.hid (quiet_heap R5.out hal)
  have AE := Lib.hid (RE.out.below hal)
  have AS := Lib.hid (RS.out.below hal)
  have AC := Lib.hid (RC.out.trans (Chg.of_below (F := fun _ => False) hal) (fun _ h => h.elim))
  have hneA := own_ne AE.out A5.out (by decide)
  have HneA := Lib.hid hneA
  have hsa := hal.size
  clear hal hneA
  refine wp_region_noPanic ?_
  refine wp_region_Z (S := fun w' => w'.cell? ⟨g, 1, none⟩ = some (.int .i64 n) ∧ w'.cell? ⟨g, 3, none⟩ = some (.slice Ae (idx 0 z).length qe)) (by kernel_rfl) 13 ((by rw [hwr]; exact ⟨row_cell R5.out (j := 1) rfl, row_cell R5.out (j := 3) rfl⟩)) (fun hHeld => ?_)
  rw [hwr] at hHeld ⊢
  clear hwr
  refine tkZ 0 (v := ?vh) (nth rfl) (by kernel_rfl) (by kernel_rfl) (by kernel_rfl) (by kernel_rfl) (fun _ _ _ h => h) (by rfl) hHeld ?yh ?rh
  case yh => (intro w hSw; (try dsimp only at hSw); go_simp; (try with_reducible rfl))
  try simp only [Act.put, pA, pB, pC]
  refine tkZ 1 (v := ?vi) (nth rfl) (by kernel_rfl) (by kernel_rfl) (by kernel_rfl) (by kernel_rfl) (fun _ _ _ h => h) (by rfl) hHeld ?yi ?ri
  case yi => (intro w hSw; (try dsimp only at hSw); go_simp; (try with_reducible rfl))
  try simp only [Act.put, pA, pB, pC]
  refine tkZ 2 (v := ?vj) (nth rfl) (by kernel_rfl) (by kernel_rfl) (by kernel_rfl) (by kernel_rfl) (fun _ _ _ h => h) (by rfl) hHeld ?yj ?rj
  case yj => (intro w hSw; (try dsimp only at hSw); go_simp; (try with_reducible rfl))
  try simp only [Act.put, pA, pB, pC]
  refine tkZ 3 (v := ?vk) (nth rfl) (by kernel_rfl) (by kernel_rfl) (by kernel_rfl) (by kernel_rfl) (fun _ _ _ h => h) (by rfl) hHeld ?yk ?rk
  case yk => (intro w hSw; (try dsimp only at hSw); go_simp; (try with_reducible rfl))
  try simp only [Act.put, pA, pB, pC]
  refine tkZ 4 (v := ?vl) (nth rfl) (by kernel_rfl) (by kernel_rfl) (by kernel_rfl) (by kernel_rfl) (fun _ _ _ h => h) (by rfl) hHeld ?yl ?rl
  case yl => (intro w hSw; (try dsimp only at hSw); go_simp; (try with_reducible rfl))
  try simp only [Act.put, pA, pB, pC]
  refine tkZ 5 (v := ?vm) (nth rfl) (by kernel_rfl) (by kernel_rfl) (by kernel_rfl) (by kernel_rfl) (fun _ _ _ h => h) (by rfl) hHeld ?ym ?rm
  case ym => (intro w hSw; (try dsimp only at hSw); go_simp; (try with_reducible rfl))
  try simp only [Act.put, pA, pB, pC]
  refine tkZ 6 (v := ?vn) (nth rfl) (by kernel_rfl) (by kernel_rfl) (by kernel_rfl) (by kernel_rfl) (fun _ _ _ h => h) (by rfl) hHeld ?yn ?rn
  case yn => (intro w hSw; (try dsimp only at hSw); go_simp; (try with_reducible rfl))
  try simp only [Act.put, pA, pB, pC]
  refine tkZ 7 (v := ?vo) (nth rfl) (by kernel_rfl) (by kernel_rfl) (by kernel_rfl) (by kernel_rfl) (fun _ _ _ h => h) (by rfl) hHeld ?yo ?ro
  case yo => (intro w hSw; (try dsimp only at hSw); go_simp; (try with_reducible rfl))
  try simp only [Act.put, pA, pB, pC]
  refine tkZ 8 (v := ?vp) (nth rfl) (by kernel_rfl) (by kernel_rfl) (by kernel_rfl) (by kernel_rfl) (fun _ _ _ h => h) (by rfl) hHeld ?yp ?rp
  case yp => (intro w hSw; (try dsimp only at hSw); go_simp; (try with_reducible rfl))
  try simp only [Act.put, pA, pB, pC]
  refine wpAnyZ_one (i := 9) (by kernel_rfl) (nth rfl) (fun K hK => ?_)
  go_simp
  refine hK.out _ _ (fun _ => ⟨row_cell A5.out (j := 1) rfl, row_cell A5.out (j := 3) rfl⟩) (fun hHeld => ?_)
  clear hK K
  have hHeld := hHeld (by decide)
  try simp only [Act.put, pA, pB, pC]
  refine wpAnyZ_one (i := 10) (by kernel_rfl) (nth rfl) (fun K hK => ?_)
  refine step_append_k elInt rfl (.tmp 35) (.tmp 40) rfl B (.slice Ae (idx 0 z).length qe) (idx 0 z).length wz.heap.size 1 1 ((idx 0 z).map intV) [.int .i64 (n : Int)] (by simp [Act.eval]) AE.out (by simp [Act.eval]) rfl Hcn.out (by simp [Value.oneCell']) (by unfold maxLen; omega) (by omega) (by omega) ?_; intro v' w7 h1 h2 h3; obtain ⟨A7, q7, rfl, -, -, -⟩ := ownsRow_slice h1; have G5 := Lib.hid ((h2.block g (lt_of_heap A5.out) (fun e => HneA.out e.symm)).trans A5.out); have GC := Lib.hid (Chg.grown h2); have GE := Lib.hid (int_snoc h1); have Gb := Lib.hid h3; have d3 := row_cell G5.out (j := 3) rfl; have f3 := row_frozen G5.out 3; clear h1 h2 h3
  refine hK.out _ _ (fun _ => ⟨row_cell G5.out (j := 1) rfl, row_cell G5.out (j := 3) rfl⟩) (fun hHeld => ?_)
  clear hK K
  have hHeld := hHeld (by decide)
  try simp only [Act.put, pA, pB, pC]
  refine wpAnyZ_one (i := 11) (by kernel_rfl) (nth rfl) (fun K hK => ?_)
  go_simp
  refine hK.out _ _ (fun _ => hHeld) (fun hHeld => ?_)
  clear hK K
  have hHeld := hHeld (by decide)
  try simp only [Act.put, pA, pB, pC]
  refine tkZ 12 (v := ?vq) (nth rfl) (by kernel_rfl) (by kernel_rfl) (by kernel_rfl) (by kernel_rfl) (fun _ _ _ h => h) (by rfl) hHeld ?yq ?rq
  case yq => (intro w hSw; (try dsimp only at hSw); go_simp; (try with_reducible rfl))
  try simp only [Act.put, pA, pB, pC]
  refine wpAnyZ_one (i := 13) (by kernel_rfl) (nth rfl) (fun K hK => ?_)
  go_simp
  refine hK.out _ _ (fun h => absurd rfl h) (fun _ => ?_)
  clear hK K
  try simp only [Act.put, pA, pB, pC]
  refine wpAnyZ_done (by kernel_rfl) (NoPanic.normal ?_) _
  clear hHeld d3 f3
  have hneS := own_ne AS.out A5.out (by decide)
  have hsV : ∀ k, (Value.slice A4 (idx 0 y).length q4).ownBlock = some k → w3.heap.size ≤ k ∧ k < wa.heap.size := fun k hk => ⟨(ownsRow_block AS.out hk).1, lt_of_heap (ownsRow_block AS.out hk).2.choose_spec⟩
  have hS7 := AS.out.stay GC.out (fun b hb e => by have := (hsV b hb).1; have := HsE.out b e; omega)
  have hset := Chg.set (w := w7) g 3 (.slice A7 ((idx 0 z).length + 1) q7)
  have hS8 := hS7.stay hset (fun b hb e => hneS (by rw [hb, e]))
  have hneE := own_ne GE.out G5.out (by decide)
  have hE8 := GE.out.stay hset (fun b hb e => hneE (by rw [hb, e]))
  have hC8 := (AC.out.trans GC.out (fun i hi => .inl (.inr hi))).trans hset (fun i hi => .inl (.inl hi))
  have hwa : w3.heap.size ≤ wa.heap.size := by omega
  go_end0
  refine ⟨y, _, _, true, rfl, Hy.out, Hb.out, row_set G5.out 3 _, Ints.low hS8 (by omega), ?_, fun k hk => by have := (hsV k hk).1; omega, fun k hk => ?_, fun k hk hk2 => ?_, hC8⟩
  ·rw [idx_snoc, if_pos rfl, Hz.out]; exact hE8
  ·rcases Gb.out with h1 | h1
   ·exact .inl (by rw [← h1]; exact hk)
   ·rw [h1] at hk; have := Option.some.inj hk; right; omega
  ·have h0 := hsV k hk
   rcases Gb.out with h1 | h1
   ·have := HsE.out k (by rw [← h1]; exact hk2); omega
   ·rw [h1] at hk2; have := Option.some.inj hk2; omega
end Go.Proofs.YthhnmpkgleelfaaGreatDoor
