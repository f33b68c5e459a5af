import Derived.Test.YthhnmpkgleelfaaGreatDoorK41
import Derived.Test.YthhnmpkgleelfaaGreatDoorK17
import Derived.Test.YthhnmpkgleelfaaGreatDoorK18
import Derived.Laws.EntriesVeiled
set_option linter.unusedVariables false
set_option linter.unusedSimpArgs false
namespace Go.Proofs.YthhnmpkgleelfaaGreatDoor
open Go.RowKit Go.Shelf
set_option maxHeartbeats 4000000 in
theorem move_any {M : List St} {st mg B pg : Nat} {l : List Int} {v : Value} {w : World} {b : Nat} (c : Int) (hmo : MOk M st) (hm : MchB M st mg B w) (hc : w.heap[pg]? = some (.cells #[.pointer (some ⟨mg, 0, none⟩)] 24 (0, 0))) (hl : Ints w b v l) (hll : l.length ≤ 50000) (hin : ∀ i ∈ l, ∃ q : Nat, i = q ∧ q < M.length) : Calls Tryz.prog 42 #[v, .int .i32 c, .pointer (some ⟨pg, 0, none⟩)] w fun e w' => AfterP w M l (kn c) e w' := by
 obtain ⟨A, q, rfl, -, -, -⟩ := ownsRow_slice hl
 have Ha := Lib.hid (after_any c hm.mch hl.sl hmo.wf hmo.at_ (by have := hmo.len; omega) (by omega) hin)
 have d0 : w.cell? ⟨pg, 0, none⟩ = some (.pointer (some ⟨mg, 0, none⟩)) := row_cell hc (j := 0) rfl
 clear hmo hm hc hl hin
 go_enter Tryz.func42, Tryz.ntmps42
 go_wp2_with fail
 (with_reducible refine Ha.out.mono ?_)
 rintro e w1 ⟨y, hy, A1, q1, rfl, hb1, ho1⟩
 have Hy := Lib.hid hy
 have Hb1 := Lib.hid hb1
 have Ho1 := Lib.hid ho1
 clear hy hb1 ho1 d0
 go_wp2_with fail
 go_ret
 exact ⟨y, Hy.out, A1, q1, rfl, Hb1.out, Ho1.out⟩
theorem idx_in {y : List Bool} {n : Nat} (h : y.length = n) : ∀ i ∈ idx 0 y, ∃ q : Nat, i = q ∧ q < n := by
 intro i hi
 obtain ⟨j, rfl, hj⟩ := (idx_mem y 0 i).1 hi
 exact ⟨j, by simp, by have := (List.getElem?_eq_some_iff.1 hj).1; omega⟩
def FdP (M : List St) (st mg B g pg : Nat) (s : List Int) (E : Bool) (vs ve : Value) (w : World) (e : Ending) (w' : World) : Prop :=
 e = .returned (.tuple #[]) ∧ ∃ vs' ve', RunR M st mg B g pg s E vs' ve' w' ∧ Chg (Foot g pg vs ve) w w' ∧ ∀ k, Foot g pg vs' ve' k → Foot g pg vs ve k ∨ w.heap.size ≤ k
theorem FdP.stay {M : List St} {st mg B g pg : Nat} {s : List Int} {E : Bool} {vs ve : Value} {w : World} (h : RunR M st mg B g pg s E vs ve w) : FdP M st mg B g pg s E vs ve w (.returned (.tuple #[])) w := ⟨rfl, vs, ve, h, Chg.refl _ _, fun _ h => .inl h⟩
set_option maxHeartbeats 16000000 in
set_option maxRecDepth 100000 in
theorem feed_any {M : List St} {st mg B g pg : Nat} {s : List Int} {vs ve : Value} {w : World} (hmo : MOk M st) (h : RunR M st mg B g pg s false vs ve w) (hs : s.length ≤ 5000) (c : Int) : Calls Tryz.prog 24 #[.pointer (some ⟨g, 0, none⟩), .int .i32 c] w fun e w' => FdP M st mg B g pg (s ++ [kn c]) false vs ve w e w' := by
 have Hmo := Lib.hid hmo
 have H := Lib.hid h
 obtain ⟨y, hy, hsy⟩ := h.set
 obtain ⟨z, hz, hez⟩ := h.ends
 have hMl := hmo.len
 have hyl := hsy.1
 have hzl := hez.1
 have d1 := row_cell h.row (j := 1) (u := .int .i64 s.length) rfl
 have d4 := row_cell h.row (j := 4) (u := .bool false) rfl
 have f1 := row_frozen h.row 1
 have hneP : pg ≠ g := by intro e; have h1 := h.row; have h2 := h.cap; rw [e] at h2; rw [h1] at h2; injection h2 with h2; injection h2 with _ h2 _; cases h2
 have hset := Chg.set (w := w) g 1 (.int .i64 ((s.length : Int) + 1))
 have hr1 : (w.setCell ⟨g, 1, none⟩ (.int .i64 ((s.length : Int) + 1))).heap[g]? = some (.cells (runC mg pg (s.length + 1) vs ve false) 82 (0, 0)) := row_set h.row 1 _
 have Hr1 := Lib.hid hr1
 have Hy := Lib.hid (hy.stay hset (fun b hb e => own_ne hy h.row (by decide) (by rw [hb, e])))
 have Hz := Lib.hid (hz.stay hset (fun b hb e => own_ne hz h.row (by decide) (by rw [hb, e])))
 have Hp := Lib.hid ((hset.block pg (lt_of_heap h.cap) hneP).trans h.cap)
 have Hm := Lib.hid (h.mch.then (hset.below h.mch.size (fun i hi => by rw [hi]; exact h.gB)))
 have Hsy := Lib.hid hsy
 have Hez := Lib.hid hez
 have Hst := Lib.hid hset
 obtain ⟨As, qs, rfl, -, -, -⟩ := ownsRow_slice hy
 clear h hmo hy hz hsy hez hset hneP hr1
 go_enter Tryz.func24, Tryz.ntmps24
 go_wp2_with fail
 clear d1 d4 f1
 obtain ⟨w1, hw1⟩ : ∃ w1, w.setCell ⟨g, 1, none⟩ (.int .i64 ((s.length : Int) + 1)) = w1 := ⟨_, rfl⟩
 rw [hw1] at Hr1 Hy Hz Hp Hm Hst ⊢
 obtain ⟨wq, hwq⟩ : ∃ wq, w1.drew = wq := ⟨_, rfl⟩
 have hdr := (Below.refl w1.heap.size w1).drew
 rw [hwq] at hdr
 have Hr1 := Lib.hid (quiet_heap Hr1.out hdr)
 have Hy := Lib.hid (Hy.out.below hdr)
 have Hz := Lib.hid (Hz.out.below hdr)
 have Hp := Lib.hid (quiet_heap Hp.out hdr)
 have Hm := Lib.hid (Hm.out.then (hdr.mono Hm.out.size))
 have Hst := Lib.hid (Hst.out.trans (Chg.of_below (F := fun _ => False) hdr) (fun _ h => h.elim))
 have Hmv := Lib.hid (move_any c Hmo.out Hm.out Hp.out Hy.out (by have := idx_len y 0; omega) (idx_in hyl))
 have hyi := idx_len y 0
 have hfb : (((s.length + 1 : Nat) : Int) == 0) = false := by simp only [beq_eq_false_iff_ne]; omega
 have Hfb := Lib.hid hfb
 clear hdr hw1 hfb
 refine wp_region_noPanic ?_
 refine wp_region_Z (S := fun w' => w'.cell? ⟨g, 5, none⟩ = some (.func (.func 42) #[] #[.pointer (some ⟨pg, 0, none⟩)]) ∧ w'.cell? ⟨g, 2, none⟩ = some (.slice As (idx 0 y).length qs)) (by kernel_rfl) 11 ((by rw [hwq]; exact ⟨row_cell Hr1.out (j := 5) rfl, row_cell Hr1.out (j := 2) rfl⟩)) (fun hHeld => ?_)
 rw [hwq] at hHeld ⊢
 clear hwq
 refine tkR 0 6 (v := ?v0) (nth rfl) (by kernel_rfl) (by kernel_rfl) (by kernel_rfl) (by kernel_rfl) (by kernel_rfl) (fun _ _ _ h => h) (by rfl) hHeld ?y0 ?r0
 case y0 => (intro w hSw; (try dsimp only at hSw); go_simp; (try with_reducible rfl))
 try simp only [Act.put, pA, pB, pC]
 refine tkR 1 6 (v := ?v1) (nth rfl) (by kernel_rfl) (by kernel_rfl) (by kernel_rfl) (by kernel_rfl) (by kernel_rfl) (fun _ _ _ h => h) (by rfl) hHeld ?y1 ?r1
 case y1 => (intro w hSw; (try dsimp only at hSw); go_simp; (try with_reducible rfl))
 try simp only [Act.put, pA, pB, pC]
 refine tkR 2 6 (v := ?v2) (nth rfl) (by kernel_rfl) (by kernel_rfl) (by kernel_rfl) (by kernel_rfl) (by kernel_rfl) (fun _ _ _ h => h) (by rfl) hHeld ?y2 ?r2
 case y2 => (intro w hSw; (try dsimp only at hSw); go_simp; (try with_reducible rfl))
 try simp only [Act.put, pA, pB, pC]
 refine tkR 3 6 (v := ?v3) (nth rfl) (by kernel_rfl) (by kernel_rfl) (by kernel_rfl) (by kernel_rfl) (by kernel_rfl) (fun _ _ _ h => h) (by rfl) hHeld ?y3 ?r3
 case y3 => (intro w hSw; (try dsimp only at hSw); go_simp; (try with_reducible rfl))
 try simp only [Act.put, pA, pB, pC]
 refine tkR 4 6 (v := ?v4) (nth rfl) (by kernel_rfl) (by kernel_rfl) (by kernel_rfl) (by kernel_rfl) (by kernel_rfl) (fun _ _ _ h => h) (by rfl) hHeld ?y4 ?r4
 case y4 => (intro w hSw; (try dsimp only at hSw); go_simp; (try with_reducible rfl))
 try simp only [Act.put, pA, pB, pC]
 refine tkR 5 6 (v := ?v5) (nth rfl) (by kernel_rfl) (by kernel_rfl) (by kernel_rfl) (by kernel_rfl) (by kernel_rfl) (fun _ _ _ h => h) (by rfl) hHeld ?y5 ?r5
 case y5 => (intro w hSw; (try dsimp only at hSw); go_simp; (try with_reducible rfl))
 try simp only [Act.put, pA, pB, pC]
 refine tkR 6 6 (v := ?v6) (nth rfl) (by kernel_rfl) (by kernel_rfl) (by kernel_rfl) (by kernel_rfl) (by kernel_rfl) (fun _ _ _ h => h) (by rfl) hHeld ?y6 ?r6
 case y6 => (intro w hSw; (try dsimp only at hSw); go_simp; (try with_reducible rfl))
 try simp only [Act.put, pA, pB, pC]
 refine tkR 7 6 (v := ?v7) (nth rfl) (by kernel_rfl) (by kernel_rfl) (by kernel_rfl) (by kernel_rfl) (by kernel_rfl) (fun _ _ _ h => h) (by rfl) hHeld ?y7 ?r7
 case y7 => (intro w hSw; (try dsimp only at hSw); go_simp; (try with_reducible rfl))
 try simp only [Act.put, pA, pB, pC]
 refine tkR 8 6 (v := ?v8) (nth rfl) (by kernel_rfl) (by kernel_rfl) (by kernel_rfl) (by kernel_rfl) (by kernel_rfl) (fun _ _ _ h => h) (by rfl) hHeld ?y8 ?r8
 case y8 => (intro w hSw; (try dsimp only at hSw); go_simp; (try with_reducible rfl))
 try simp only [Act.put, pA, pB, pC]
 refine tkR 9 6 (v := ?v9) (nth rfl) (by kernel_rfl) (by kernel_rfl) (by kernel_rfl) (by kernel_rfl) (by kernel_rfl) (fun _ _ _ h => h) (by rfl) hHeld ?y9 ?r9
 case y9 => (intro w hSw; (try dsimp only at hSw); go_simp; (try with_reducible rfl))
 try simp only [Act.put, pA, pB, pC]
 refine wpAnyZ_one (i := 10) (by kernel_rfl) (nth rfl) (fun K hK => ?_)
 go_simp
 (with_reducible refine Hmv.out.mono ?_); rintro e w2 ⟨y2, hy2, A2, q2, rfl, hb2, ho2⟩; have Hy2 := Lib.hid hy2; have Hb2 := Lib.hid hb2; have Ho2 := Lib.hid ho2; have Hr2 := Lib.hid (quiet_heap Hr1.out hb2); clear hy2 hb2 ho2; go_simp
 refine hK.out _ _ (fun _ => ⟨row_cell Hr2.out (j := 5) rfl, row_cell Hr2.out (j := 2) rfl⟩) (fun hHeld => ?_)
 clear hK K
 have hHeld := hHeld (by decide)
 try simp only [Act.put, pA, pB, pC]
 refine wpAnyZ_one (i := 11) (by kernel_rfl) (nth rfl) (fun K hK => ?_)
 go_simp
 have hil := idx_len y2 0; have hi2 := Hy2.out.1; (with_reducible refine (enter_any Hmo.out (Hm.out.then (Hb2.out.mono Hm.out.size)) H.out.gB Hr2.out (Hz.out.below Hb2.out) hzl (by omega) Ho2.out.sl (by omega) (idx_in hi2) Hfb.out).mono ?_); rintro e w3 ⟨y3, vs3, ve3, b3, rfl, a1, a2, a3, a4, a5, a6, a7, a8, a9⟩; have Ha1 := Lib.hid a1; have Ha2 := Lib.hid a2; have Ha3 := Lib.hid a3; have Ha4 := Lib.hid a4; have Ha5 := Lib.hid a5; have Ha6 := Lib.hid a6; have Ha7 := Lib.hid a7; have Ha8 := Lib.hid a8; have Ha9 := Lib.hid a9; clear a1 a2 a3 a4 a5 a6 a7 a8 a9; go_simp
 refine hK.out _ _ (fun h => absurd rfl h) (fun _ => ?_)
 clear hK K
 try simp only [Act.put, pA, pB, pC]
 refine wpAnyZ_done (by kernel_rfl) (NoPanic.normal ?_) _
 clear hHeld
 go_end0
 have h := H.out
 have hsn := set_next Hsy.out Hy2.out Ha1.out
 have hch := ((Hst.out.trans (Chg.of_below (F := fun _ => False) Hb2.out) (fun _ h => h.elim)).mono (G := fun k => k = g ∨ ve.ownBlock = some k) (fun i hi => .inl hi)).trans Ha9.out (fun i hi => .inl hi)
 have hft : ∀ i, (i = g ∨ ve.ownBlock = some i) → Foot g pg (.slice As (idx 0 y).length qs) ve i := fun i hi => by
  rcases hi with hi | hi
  ·exact .inl hi
  ·exact .inr (.inr (.inr hi))
 have hsz : w.heap.size ≤ w2.heap.size := Nat.le_trans Hst.out.size Hb2.out.size
 refine ⟨rfl, vs3, ve3, ⟨h.mch.then (hch.below h.mch.size (fun i hi => (h.foot (hft i hi)).1)), h.gB, h.pB, ?_, ?_, ⟨y3, Ha4.out, hsn⟩, ⟨z ++ [b3], Ha5.out, ends_next Hez.out hsn Ha2.out⟩, Ha8.out⟩, hch.mono hft, fun k hk => ?_⟩
 ·rw [List.length_append]; exact Ha3.out
 ·refine (hch.block pg (lt_of_heap h.cap) (fun hi => ?_)).trans h.cap
  obtain ⟨z', hz', -⟩ := h.ends
  rcases hi with hi | hi
  ·have h1 := h.row; have h2 := h.cap; rw [hi] at h2; rw [h1] at h2; injection h2 with h2; injection h2 with _ h2 _; cases h2
  ·exact own_ne hz' h.cap (by decide) hi
 ·rcases hk with hk | hk | hk | hk
  ·exact .inl (.inl hk)
  ·exact .inl (.inr (.inl hk))
  ·right; have := Ha6.out k hk; omega
  ·rcases Ha7.out k hk with h1 | h1
   ·exact .inl (.inr (.inr (.inr h1)))
   ·right; omega
def NewP (M : List St) (st mg : Nat) (w : World) (e : Ending) (w' : World) : Prop :=
 ∃ (g pg : Nat) (vs ve : Value), e = .returned (.pointer (some ⟨g, 0, none⟩)) ∧ RunR M st mg w.heap.size g pg [] false vs ve w' ∧ Below w.heap.size w w'
set_option maxHeartbeats 16000000 in
set_option maxRecDepth 100000 in
theorem new_any {M : List St} {st mg : Nat} {w : World} (hmo : MOk M st) (h : Mch w mg M st) : Calls Tryz.prog 18 #[.pointer (some ⟨mg, 0, none⟩)] w fun e w' => NewP M st mg w e w' := by
 have Hmo := Lib.hid hmo
 have H := Lib.hid h
 clear h hmo
 have hmf : ∀ (fn : Fn) (first cap : Array Value) (w : World), (Instr.makeFunc fn first cap).run Tryz.prog w = .ok (.func fn first cap) w := fun _ _ _ _ => rfl
 have h1 := heap_alloc_new w (.cells #[.pointer (some ⟨mg, 0, none⟩)] 24)
 have h2 := heap_alloc_new (w.alloc (.cells #[.pointer (some ⟨mg, 0, none⟩)] 24)) (.cells #[.pointer (some ⟨mg, 0, none⟩), .int .i64 0, .slice none 0 0, .slice none 0 0, .bool false, .nilFunc] 82)
 rw [World.size_alloc] at h2
 have hb2 := ((Below.refl w.heap.size w).alloc (Nat.le_refl _) (.cells #[.pointer (some ⟨mg, 0, none⟩)] 24)).alloc (by simp) (.cells #[.pointer (some ⟨mg, 0, none⟩), .int .i64 0, .slice none 0 0, .slice none 0 0, .bool false, .nilFunc] 82)
 have h1' := (Below.heap_alloc (w.alloc (.cells #[.pointer (some ⟨mg, 0, none⟩)] 24)) (.cells #[.pointer (some ⟨mg, 0, none⟩), .int .i64 0, .slice none 0 0, .slice none 0 0, .bool false, .nilFunc] 82) _ (by simp)).trans h1
 have H1 := Lib.hid h1'
 have H2 := Lib.hid h2
 have Hb := Lib.hid hb2
 clear h1 h1' h2 hb2
 go_enter Tryz.func18, Tryz.ntmps18
 go_upto_region 2 with fail
 generalize (w.alloc (.cells #[.pointer (some ⟨mg, 0, none⟩)] 24)).alloc (.cells #[.pointer (some ⟨mg, 0, none⟩), .int .i64 0, .slice none 0 0, .slice none 0 0, .bool false, .nilFunc] 82) = w2 at *
 have d5 : w2.cell? ⟨w.heap.size + 1, 5, none⟩ = some .nilFunc := row_cell H2.out (j := 5) rfl
 have f5 := row_frozen H2.out 5
 go_wp2_with fail
 clear d5 f5
 have hset := Chg.set (w := w2) (w.heap.size + 1) 5 (.func (.func 42) #[] #[.pointer (some ⟨w.heap.size, 0, none⟩)])
 have hr3 : (w2.setCell ⟨w.heap.size + 1, 5, none⟩ (.func (.func 42) #[] #[.pointer (some ⟨w.heap.size, 0, none⟩)])).heap[w.heap.size + 1]? = some (.cells (runC mg w.heap.size 0 (.slice none 0 0) (.slice none 0 0) false) 82 (0, 0)) := row_set H2.out 5 _
 have Hr3 := Lib.hid hr3
 have Hp3 := Lib.hid ((hset.block w.heap.size (lt_of_heap H1.out) (by omega)).trans H1.out)
 have hb3 := Hb.out.setCell (p := ⟨w.heap.size + 1, 5, none⟩) (Nat.le_succ _) (.func (.func 42) #[] #[.pointer (some ⟨w.heap.size, 0, none⟩)])
 have Hb3 := Lib.hid hb3
 clear hset hr3 hb3
 generalize w2.setCell ⟨w.heap.size + 1, 5, none⟩ (.func (.func 42) #[] #[.pointer (some ⟨w.heap.size, 0, none⟩)]) = w3 at *
 have hI0 : Ints w3 w.heap.size (.slice none 0 0) (idx 0 []) := ⟨rfl, .inl ⟨rfl, rfl⟩⟩
 have hS0 : Sl w3 (.slice none 0 0) (([] : List Int).map intV) := ⟨Nat.zero_le _, none, 0, rfl, Nat.le_refl _, fun h => absurd h (Nat.lt_irrefl _)⟩
 have hin0 : ∀ i ∈ ([] : List Int), ∃ q : Nat, i = q ∧ q < M.length := fun i hi => by simp at hi
 have hf0 : (((0 : Nat) : Int) == 0) = true := rfl
 (with_reducible refine (enter_any (z := []) (l := []) (fb := true) Hmo.out ((MchB.start H.out).then Hb3.out) (Nat.le_succ _) Hr3.out hI0 rfl (Nat.zero_le _) hS0 (Nat.zero_le _) hin0 hf0).mono ?_)
 rintro e w4 ⟨y, vs, ve, b, rfl, a1, a2, a3, a4, a5, a6, a7, a8, a9⟩
 have hch : Chg (fun k => k = w.heap.size + 1) w3 w4 := a9.mono (fun i hi => by
  rcases hi with hi | hi
  ·exact hi
  ·simp [Value.ownBlock] at hi)
 have hset := set_start a1
 have hR : RunR M st mg w.heap.size (w.heap.size + 1) w.heap.size [] false vs ve w4 := ⟨((MchB.start H.out).then Hb3.out).then (hch.below Hb3.out.size (fun i hi => by omega)), Nat.le_succ _, Nat.le_refl _, a3, (hch.block _ (lt_of_heap Hp3.out) (by omega)).trans Hp3.out, ⟨y, a4, hset⟩, ⟨[b], a5, ends_start hset a2⟩, a8⟩
 have HR := Lib.hid hR
 have HB := Lib.hid (Hb3.out.trans (hch.below Hb3.out.size (fun i hi => by omega)))
 clear a1 a2 a3 a4 a5 a6 a7 a8 a9 hch hset hR
 go_wp2_with fail
 go_ret
 exact ⟨_, _, vs, ve, rfl, HR.out, HB.out⟩
set_option maxHeartbeats 4000000 in
theorem hit_any {M : List St} {st mg B g pg : Nat} {s : List Int} {E : Bool} {vs ve : Value} {w : World} (h : RunR M st mg B g pg s E vs ve w) {z : List Bool} (hz : EndsAt M st s E z) : Calls Tryz.prog 22 #[.pointer (some ⟨g, 0, none⟩)] w fun e w' => e = .returned (.bool (decide (0 < (idx 0 z).length))) ∧ w' = w := by
 obtain ⟨z', hi, he⟩ := h.ends
 obtain rfl : z' = z := by
  refine List.ext_getElem? (fun j => ?_)
  by_cases hj : j < s.length + 1
  ·obtain ⟨a, ha⟩ : ∃ a, z'[j]? = some a := ⟨_, List.getElem?_eq_getElem (by have := he.1; omega)⟩
   obtain ⟨b, hb⟩ : ∃ b, z[j]? = some b := ⟨_, List.getElem?_eq_getElem (by have := hz.1; omega)⟩
   have h1 := (he.2 j).trans (hz.2 j).symm
   rw [ha, hb] at h1 ⊢
   cases a <;> cases b <;> simp_all
  ·rw [List.getElem?_eq_none (by have := he.1; omega), List.getElem?_eq_none (by have := hz.1; omega)]
 obtain ⟨A, q, rfl, -, -, -⟩ := ownsRow_slice hi
 have d3 : w.cell? ⟨g, 3, none⟩ = some (.slice A (idx 0 z').length q) := row_cell h.row (j := 3) rfl
 clear h hi he hz
 go_enter Tryz.func22, Tryz.ntmps22
 go_wp2_with fail
 go_ret
 refine ⟨?_, rfl⟩
 simp
set_option maxHeartbeats 4000000 in
theorem clip_any {w : World} {A : Option Addr} {n q : Nat} (hn : n ≤ q) : Calls Tryz.prog 49 #[.slice A n q] w fun e w' => e = .returned (.slice A n n) ∧ w' = w := by
 go_enter Tryz.func49, Tryz.ntmps49
 go_wp2_with fail
 go_ret
 exact ⟨rfl, rfl⟩
end Go.Proofs.YthhnmpkgleelfaaGreatDoor
