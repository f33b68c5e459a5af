import Derived.Test.YthhnmpkgleelfaaGreatDoorM33
import Derived.Test.YthhnmpkgleelfaaGreatDoorM15
import Derived.Test.YthhnmpkgleelfaaGreatDoorM6
import Derived.Lib.OthersKept
import Derived.LoopN
set_option linter.unusedVariables false
set_option linter.unusedSimpArgs false
namespace Go.Proofs.YthhnmpkgleelfaaGreatDoor
open Go.RowKit Go.Shelf
theorem EndsAt.last {M : List St} {st : Nat} {s : List Int} {E : Bool} {z : List Bool} (h : EndsAt M st s E z) : ∃ (z0 : List Bool) (b : Bool), z = z0 ++ [b] ∧ z0.length = s.length := by
 have hl := h.1
 have hne : z ≠ [] := by intro e; rw [e] at hl; simp at hl
 refine ⟨z.dropLast, z.getLast hne, (List.dropLast_concat_getLast hne).symm, ?_⟩
 rw [List.length_dropLast]; omega
theorem last_mem {z0 : List Bool} {b : Bool} {n : Nat} (h : z0.length = n) : (n : Int) ∈ idx 0 (z0 ++ [b]) ↔ b = true := by
 rw [mem0, List.getElem?_append_right (by omega), h, Nat.sub_self]
 simp
theorem RunR.done {M : List St} {st mg B g pg : Nat} {s : List Int} {vs ve ve' : Value} {w w' : World} {z' : List Bool} (h : RunR M st mg B g pg s false vs ve w) (hc : Chg (fun k => k = g ∨ ve.ownBlock = some k) w w') (hr : w'.heap[g]? = some (.cells (runC mg pg s.length vs ve' true) 82 (0, 0))) (hz : Ints w' B ve' (idx 0 z')) (he : EndsAt M st s true z') (hsep : ∀ k, ve'.ownBlock = some k → ve.ownBlock = some k ∨ w.heap.size ≤ k) : FdP M st mg B g pg s true vs ve w (.returned (.tuple #[])) w' := by
 have hft : ∀ i, (i = g ∨ ve.ownBlock = some i) → Foot g pg vs ve i := fun i hi => by
  rcases hi with hi | hi
  ·exact .inl hi
  ·exact .inr (.inr (.inr hi))
 obtain ⟨y, hy, hsy⟩ := h.set
 obtain ⟨z, hzz, -⟩ := h.ends
 refine ⟨rfl, vs, ve', ⟨h.mch.then (hc.below h.mch.size (fun i hi => (h.foot (hft i hi)).1)), h.gB, h.pB, hr, ?_, ⟨y, hy.stay hc (fun b hb hF => ?_), hsy⟩, ⟨z', hz, he⟩, fun k hk hk2 => ?_⟩, hc.mono hft, fun k hk => ?_⟩
 ·refine (hc.block pg (lt_of_heap h.cap) (fun hi => ?_)).trans h.cap
  rcases hi with hi | hi
  ·have h1 := h.row; have h2 := h.cap; rw [hi] at h2; rw [h1] at h2; injection h2 with h2; injection h2 with _ h2 _; cases h2
  ·exact own_ne hzz h.cap (by decide) hi
 ·rcases hF with hF | hF
  ·exact own_ne hy h.row (by decide) (by rw [hb, hF])
  ·exact h.sep b hb hF
 ·rcases hsep k hk2 with h1 | h1
  ·exact h.sep k hk h1
  ·have := (h.foot (k := k) (.inr (.inr (.inl hk)))).2; omega
 ·rcases hk with hk | hk | hk | hk
  ·exact .inl (.inl hk)
  ·exact .inl (.inr (.inl hk))
  ·exact .inl (.inr (.inr (.inl hk)))
  ·rcases hsep k hk with h1 | h1
   ·exact .inl (.inr (.inr (.inr h1)))
   ·exact .inr h1
set_option maxHeartbeats 16000000 in
set_option maxRecDepth 100000 in
theorem end_any {M : List St} {st mg B g pg : Nat} {s : List Int} {vs ve : Value} {w : World} (hmo : MOk M st) (h : RunR M st mg B g pg s false vs ve w) (hs : s.length ≤ 5000) : Calls Tryz.prog 26 #[.pointer (some ⟨g, 0, none⟩)] w fun e w' => FdP M st mg B g pg s true vs ve w e w' := by
 have Hmo := Lib.hid hmo
 have H := Lib.hid h
 obtain ⟨y, hy, hsy⟩ := h.set
 obtain ⟨z, hz, hez⟩ := h.ends
 obtain ⟨z0, b, rfl, hz0⟩ := hez.last
 have hMl := hmo.len
 have hyl := hsy.1
 have hMs := hmo.st
 have d4 := row_cell h.row (j := 4) (u := .bool false) rfl
 have f4 := row_frozen h.row 4
 have hset := Chg.set (w := w) g 4 (.bool true)
 have hr1 : (w.setCell ⟨g, 4, none⟩ (.bool true)).heap[g]? = some (.cells (runC mg pg s.length vs ve true) 82 (0, 0)) := row_set h.row 4 _
 have Hr1 := Lib.hid hr1
 have Hy := Lib.hid (hy.stay hset (fun b hb e => own_ne hy h.row (by decide) (by rw [hb, e])))
 have Hz := Lib.hid (hz.stay hset (fun b hb e => own_ne hz h.row (by decide) (by rw [hb, e])))
 have Hm := Lib.hid (h.mch.then (hset.below h.mch.size (fun i hi => by rw [hi]; exact h.gB)))
 have Hsy := Lib.hid hsy
 have Hez := Lib.hid hez
 have Hst := Lib.hid hset
 have Hz0 := Lib.hid hz0
 obtain ⟨As, qs, rfl, -, -, -⟩ := ownsRow_slice hy
 obtain ⟨Ae, qe, rfl, -, -, -⟩ := ownsRow_slice hz
 have hil := idx_len (z0 ++ [b]) 0
 rw [List.length_append, List.length_cons, List.length_nil] at hil
 have hyi := idx_len y 0
 clear h hmo hy hz hsy hez hset hr1 hz0
 go_enter Tryz.func26, Tryz.ntmps26
 go_wp2_with fail
 clear d4 f4
 obtain ⟨w1, hw1⟩ : ∃ w1, w.setCell ⟨g, 4, none⟩ (.bool true) = w1 := ⟨_, rfl⟩
 rw [hw1] at Hr1 Hy Hz Hm Hst ⊢
 obtain ⟨wq, hwq⟩ : ∃ wq, w1.drew = wq := ⟨_, rfl⟩
 have hdr := (Below.refl w1.heap.size w1).drew
 rw [hwq] at hdr
 have Hr1 := Lib.hid (quiet_heap Hr1.out hdr)
 have Hy := Lib.hid (Hy.out.below hdr)
 have Hz := Lib.hid (Hz.out.below hdr)
 have Hm := Lib.hid (Hm.out.then (hdr.mono Hm.out.size))
 have Hst := Lib.hid (Hst.out.trans (Chg.of_below (F := fun _ => False) hdr) (fun _ h => h.elim))
 clear hdr hw1
 have hs0 := Hz0.out
 refine wp_region_noPanic ?_
 refine wp_region_held_drew (S := fun w' => w'.cell? ⟨g, 3, none⟩ = some (.slice Ae (idx 0 (z0 ++ [b])).length qe) ∧ w'.cell? ⟨g, 1, none⟩ = some (.int .i64 s.length)) (by kernel_rfl) ((by rw [hwq]; exact ⟨row_cell Hr1.out (j := 3) rfl, row_cell Hr1.out (j := 1) rfl⟩)) (fun hHeld => ?_)
 refine tkH 0 (v := ?v0) (nth rfl) (by kernel_rfl) (by kernel_rfl) (by kernel_rfl) (fun _ _ _ h => h) (by rfl) hHeld ?y0 ?r0
 case y0 => (intro w hSw; (try dsimp only at hSw); go_simp; (try with_reducible rfl))
 try simp only [Act.put, pA, pB, pC]
 refine tkH 1 (v := ?v1) (nth rfl) (by kernel_rfl) (by kernel_rfl) (by kernel_rfl) (fun _ _ _ h => h) (by rfl) hHeld ?y1 ?r1
 case y1 => (intro w hSw; (try dsimp only at hSw); go_simp; (try with_reducible rfl))
 try simp only [Act.put, pA, pB, pC]
 refine tkH 2 (v := ?v2) (nth rfl) (by kernel_rfl) (by kernel_rfl) (by kernel_rfl) (fun _ _ _ h => h) (by rfl) hHeld ?y2 ?r2
 case y2 => (intro w hSw; (try dsimp only at hSw); go_simp; (try with_reducible rfl))
 try simp only [Act.put, pA, pB, pC]
 refine tkH 3 (v := ?v3) (nth rfl) (by kernel_rfl) (by kernel_rfl) (by kernel_rfl) (fun _ _ _ h => h) (by rfl) hHeld ?y3 ?r3
 case y3 => (intro w hSw; (try dsimp only at hSw); go_simp; (try with_reducible rfl))
 try simp only [Act.put, pA, pB, pC]
 refine tkH 4 (v := ?v4) (nth rfl) (by kernel_rfl) (by kernel_rfl) (by kernel_rfl) (fun _ _ _ h => h) (by rfl) hHeld ?y4 ?r4
 case y4 => (intro w hSw; (try dsimp only at hSw); go_simp; (try with_reducible rfl))
 try simp only [Act.put, pA, pB, pC]
 refine tkH 5 (v := ?v5) (nth rfl) (by kernel_rfl) (by kernel_rfl) (by kernel_rfl) (fun _ _ _ h => h) (by rfl) hHeld ?y5 ?r5
 case y5 => (intro w hSw; (try dsimp only at hSw); go_simp; (try with_reducible rfl))
 try simp only [Act.put, pA, pB, pC]
 refine tkH 6 (v := ?v6) (nth rfl) (by kernel_rfl) (by kernel_rfl) (by kernel_rfl) (fun _ _ _ h => h) (by rfl) hHeld ?y6 ?r6
 case y6 => (intro w hSw; (try dsimp only at hSw); go_simp; (try with_reducible rfl))
 try simp only [Act.put, pA, pB, pC]
 refine tkH 7 (v := ?v7) (nth rfl) (by kernel_rfl) (by kernel_rfl) (by kernel_rfl) (fun _ _ _ h => h) (by rfl) hHeld ?y7 ?r7
 case y7 => (intro w hSw; (try dsimp only at hSw); go_simp; (try with_reducible rfl))
 try simp only [Act.put, pA, pB, pC]
 refine wpAnyH_ready (rs := [8]) (by kernel_rfl) (by simp) ?_
 refine AllReadyH.cons (nth rfl) (fun K hK => ?_) AllReadyH.nil
 go_simp
 clear hwq; (with_reducible refine (contains_any (Ints.sl Hz.out) (by omega) (s.length : Int)).mono ?_); rintro e wz ⟨rfl, rfl⟩; go_simp
 refine hK.out _ _ (⟨row_cell Hr1.out (j := 3) rfl, row_cell Hr1.out (j := 1) rfl⟩) (fun hHeld => ?_)
 clear hK K
 try simp only [Act.put, pA, pB, pC]
 refine wpAnyH_done (by kernel_rfl) (NoPanic.normal ?_) _
 clear hHeld
 cases b with
 | true =>
  rw [show decide ((s.length : Int) ∈ idx 0 (z0 ++ [true])) = true by rw [decide_eq_true_iff]; exact (last_mem Hz0.out).2 rfl]
  go_wp2_with fail
  refine bodyPost_ret (results_none rfl _ _ _) rfl ?_
  have hrc : Rch M st s false 0 s.length := (Hez.out.2 s.length).1 ((mem0 _ _).1 ((last_mem Hz0.out).2 rfl))
  exact H.out.done (Hst.out.mono (fun i hi => .inl hi)) Hr1.out Hz.out (ends_end (b' := true) Hez.out ⟨fun _ => hrc.sure, fun _ => rfl⟩) (fun k hk => .inl hk)
 | false =>
  rw [show decide ((s.length : Int) ∈ idx 0 (z0 ++ [false])) = false by rw [decide_eq_false_iff_not]; intro hx; have := (last_mem Hz0.out).1 hx; cases this]
  obtain ⟨wq, hwq⟩ : ∃ wq, wz.drew = wq := ⟨_, rfl⟩
  have hdr := (Below.refl wz.heap.size wz).drew
  rw [hwq] at hdr
  have Hr1 := Lib.hid (quiet_heap Hr1.out hdr)
  have Hy := Lib.hid (Hy.out.below hdr)
  have Hz := Lib.hid (Hz.out.below hdr)
  have Hm := Lib.hid (Hm.out.then (hdr.mono Hm.out.size))
  have Hst := Lib.hid (Hst.out.trans (Chg.of_below (F := fun _ => False) hdr) (fun _ h => h.elim))
  obtain ⟨fb, hfb⟩ : ∃ fb, ((s.length : Int) == 0) = fb := ⟨_, rfl⟩
  have hfb2 : decide (s.length = 0) = fb := by rw [← hfb]; cases hn : s.length with | zero => rfl | succ n => simp; omega
  have Hfb2 := Lib.hid hfb2
  have Hin := Lib.hid (idx_in hyl)
  clear hdr hfb2
  go_wp2_with fail
  refine wp_region_noPanic ?_
  refine wp_region_held_drew (S := fun w' => w'.cell? ⟨g, 0, none⟩ = some (.pointer (some ⟨mg, 0, none⟩)) ∧ w'.cell? ⟨g, 2, none⟩ = some (.slice As (idx 0 y).length qs) ∧ w'.cell? ⟨g, 1, none⟩ = some (.int .i64 s.length)) (by kernel_rfl) ((by rw [hwq]; exact ⟨row_cell Hr1.out (j := 0) rfl, row_cell Hr1.out (j := 2) rfl, row_cell Hr1.out (j := 1) rfl⟩)) (fun hHeld => ?_)
  refine tkH 0 (v := ?v8) (nth rfl) (by kernel_rfl) (by kernel_rfl) (by kernel_rfl) (fun _ _ _ h => h) (by rfl) hHeld ?y8 ?r8
  case y8 => (intro w hSw; (try dsimp only at hSw); go_simp; (try with_reducible rfl))
  try simp only [Act.put, pA, pB, pC]
  refine tkH 1 (v := ?v9) (nth rfl) (by kernel_rfl) (by kernel_rfl) (by kernel_rfl) (fun _ _ _ h => h) (by rfl) hHeld ?y9 ?r9
  case y9 => (intro w hSw; (try dsimp only at hSw); go_simp; (try with_reducible rfl))
  try simp only [Act.put, pA, pB, pC]
  refine tkH 2 (v := ?va) (nth rfl) (by kernel_rfl) (by kernel_rfl) (by kernel_rfl) (fun _ _ _ h => h) (by rfl) hHeld ?ya ?ra
  case ya => (intro w hSw; (try dsimp only at hSw); go_simp; (try with_reducible rfl))
  try simp only [Act.put, pA, pB, pC]
  refine tkH 3 (v := ?vb) (nth rfl) (by kernel_rfl) (by kernel_rfl) (by kernel_rfl) (fun _ _ _ h => h) (by rfl) hHeld ?yb ?rb
  case yb => (intro w hSw; (try dsimp only at hSw); go_simp; (try with_reducible rfl))
  try simp only [Act.put, pA, pB, pC]
  refine tkH 4 (v := ?vc) (nth rfl) (by kernel_rfl) (by kernel_rfl) (by kernel_rfl) (fun _ _ _ h => h) (by rfl) hHeld ?yc ?rc
  case yc => (intro w hSw; (try dsimp only at hSw); go_simp; (try with_reducible rfl))
  try simp only [Act.put, pA, pB, pC]
  refine tkH 5 (v := ?vd) (nth rfl) (by kernel_rfl) (by kernel_rfl) (by kernel_rfl) (fun _ _ _ h => h) (by rfl) hHeld ?yd ?rd
  case yd => (intro w hSw; (try dsimp only at hSw); go_simp; (try with_reducible rfl))
  try simp only [Act.put, pA, pB, pC]
  refine tkH 6 (v := ?ve) (nth rfl) (by kernel_rfl) (by kernel_rfl) (by kernel_rfl) (fun _ _ _ h => h) (by rfl) hHeld ?ye ?re
  case ye => (intro w hSw; (try dsimp only at hSw); go_simp; (try with_reducible rfl))
  try simp only [Act.put, pA, pB, pC]
  refine tkH 7 (v := ?vf) (nth rfl) (by kernel_rfl) (by kernel_rfl) (by kernel_rfl) (fun _ _ _ h => h) (by rfl) hHeld ?yf ?rf
  case yf => (intro w hSw; (try dsimp only at hSw); go_simp; (try with_reducible rfl))
  try simp only [Act.put, pA, pB, pC]
  refine tkH 8 (v := ?vg) (nth rfl) (by kernel_rfl) (by kernel_rfl) (by kernel_rfl) (fun _ _ _ h => h) (by rfl) hHeld ?yg ?rg
  case yg => (intro w hSw; (try dsimp only at hSw); go_simp; (try with_reducible rfl))
  try simp only [Act.put, pA, pB, pC]
  refine tkH 9 (v := ?vh) (nth rfl) (by kernel_rfl) (by kernel_rfl) (by kernel_rfl) (fun _ _ _ h => h) (by rfl) hHeld ?yh ?rh
  case yh => (intro w hSw; (try dsimp only at hSw); go_simp; (try with_reducible rfl))
  try simp only [Act.put, pA, pB, pC]
  refine tkH 10 (v := ?vi) (nth rfl) (by kernel_rfl) (by kernel_rfl) (by kernel_rfl) (fun _ _ _ h => h) (by rfl) hHeld ?yi ?ri
  case yi => (intro w hSw; (try dsimp only at hSw); go_simp; (try with_reducible rfl))
  try simp only [Act.put, pA, pB, pC]
  refine tkH 11 (v := ?vj) (nth rfl) (by kernel_rfl) (by kernel_rfl) (by kernel_rfl) (fun _ _ _ h => h) (by rfl) hHeld ?yj ?rj
  case yj => (intro w hSw; (try dsimp only at hSw); go_simp; (try with_reducible rfl))
  try simp only [Act.put, pA, pB, pC]
  refine tkH 12 (v := ?vk) (nth rfl) (by kernel_rfl) (by kernel_rfl) (by kernel_rfl) (fun _ _ _ h => h) (by rfl) hHeld ?yk ?rk
  case yk => (intro w hSw; (try dsimp only at hSw); go_simp; (try with_reducible rfl))
  try simp only [Act.put, pA, pB, pC]
  refine wpAnyH_ready (rs := [13]) (by kernel_rfl) (by simp) ?_
  refine AllReadyH.cons (nth rfl) (fun K hK => ?_) AllReadyH.nil
  go_simp
  clear hwq; (with_reducible refine (still_any fb true Hm.out.mch Hy.out.sl Hmo.out.wf (by omega) (by omega) Hin.out).mono ?_); rintro e w4 ⟨y4, hy4, A4, q4, rfl, hb4, ho4⟩; have Hy4 := Lib.hid hy4; have Ho4 := Lib.hid ho4; have hl4 := idx_len y4 0; have hl5 := hy4.1; have Hr1 := Lib.hid (quiet_heap Hr1.out hb4); have Hz := Lib.hid (Hz.out.below hb4); have Hm := Lib.hid (Hm.out.then (hb4.mono Hm.out.size)); have Hst := Lib.hid (Hst.out.trans (Chg.of_below (F := fun _ => False) hb4) (fun _ h => h.elim)); clear hb4 ho4 hy4; go_simp
  refine hK.out _ _ (⟨row_cell Hr1.out (j := 0) rfl, row_cell Hr1.out (j := 2) rfl, row_cell Hr1.out (j := 1) rfl⟩) (fun hHeld => ?_)
  clear hK K
  try simp only [Act.put, pA, pB, pC]
  refine wpAnyH_ready (rs := [14]) (by kernel_rfl) (by simp) ?_
  refine AllReadyH.cons (nth rfl) (fun K hK => ?_) AllReadyH.nil
  go_simp
  (with_reducible refine (contains_any Ho4.out.sl (by omega) 0).mono ?_); rintro e wy ⟨rfl, rfl⟩; go_simp
  refine hK.out _ _ (⟨row_cell Hr1.out (j := 0) rfl, row_cell Hr1.out (j := 2) rfl, row_cell Hr1.out (j := 1) rfl⟩) (fun hHeld => ?_)
  clear hK K
  try simp only [Act.put, pA, pB, pC]
  refine wpAnyH_done (by kernel_rfl) (NoPanic.normal ?_) _
  clear hHeld
  have hse := set_end hMs Hmo.out.wf Hmo.out.zero Hsy.out (by rw [Hfb2.out]; exact Hy4.out)
  obtain ⟨b', hb'⟩ : ∃ b', y4[0]? = some b' := ⟨_, List.getElem?_eq_getElem (by omega)⟩
  have hbm := mem0 y4 0
  rw [hb'] at hse hbm
  cases b' with
  | false =>
   rw [show decide ((0 : Int) ∈ idx 0 y4) = false by rw [decide_eq_false_iff_not]; intro hx; have := hbm.1 hx; simp at this]
   have He := Lib.hid (ends_end (b := false) (b' := false) Hez.out ⟨fun e => (by cases e), fun hr => (by have := hse.2 hr; simp at this)⟩)
   clear hse hbm hb'
   go_wp2_with fail
   go_end0
   exact H.out.done (Hst.out.mono (fun i hi => .inl hi)) Hr1.out Hz.out He.out (fun k hk => .inl hk)
  | true =>
   rw [show decide ((0 : Int) ∈ idx 0 y4) = true by rw [decide_eq_true_iff]; exact hbm.2 rfl]
   have He := Lib.hid (ends_end (b := false) (b' := true) Hez.out ⟨fun _ => hse.1 rfl, fun _ => rfl⟩)
   clear hse hbm hb'
   obtain ⟨wr, hwr⟩ : ∃ wr, wy.drew = wr := ⟨_, rfl⟩
   have hdr := (Below.refl wy.heap.size wy).drew
   rw [hwr] at hdr
   have R5 := Lib.hid (quiet_heap Hr1.out hdr)
   have RE := Lib.hid (Hz.out.below hdr)
   have RC := Lib.hid ((Hst.out.trans (Chg.of_below (F := fun _ => False) hdr) (fun _ h => h.elim)).mono (G := fun k => k = g ∨ (Value.slice Ae (idx 0 (z0 ++ [false])).length qe).ownBlock = some k) (fun i hi => .inl hi))
   have hrs : wr.heap.size = wy.heap.size := by rw [← hwr]; rfl
   have hsw := Hst.out.size
   clear hdr Hr1 Hz Hst
   go_wp2_with fail
   obtain ⟨wa, hwa⟩ : ∃ wa, wr.alloc (.cells #[.int .i64 (s.length : Int)] 3) = wa := ⟨_, rfl⟩
   have hal := alloc_below wr (.cells #[.int .i64 (s.length : Int)] 3)
   rw [hwa] at hal
   have Hcn := Lib.hid (show ∀ j u, [Value.int .i64 (s.length : Int)][j]? = some u → wa.cell? ⟨wy.heap.size, j, none⟩ = some u by rw [← hwa, ← hrs]; exact cells_new wr [.int .i64 (s.length : Int)] 3)
   have A5 := Lib.hid (quiet_heap R5.out hal)
   have AE := Lib.hid (RE.out.below hal)
   have AC := Lib.hid (RC.out.trans (Chg.of_below (F := fun _ => False) hal) (fun _ h => h.elim))
   have HneA := Lib.hid (own_ne AE.out A5.out (by decide))
   have hsa := hal.size
   have hBa : B ≤ wa.heap.size := by have := H.out.mch.size; omega
   clear hal
   refine wp_region_noPanic ?_
   refine wp_region_Z (S := fun w' => w'.cell? ⟨g, 1, none⟩ = some (.int .i64 s.length) ∧ w'.cell? ⟨g, 3, none⟩ = some (.slice Ae (idx 0 (z0 ++ [false])).length qe)) (by kernel_rfl) 13 ((by rw [hwr]; exact ⟨row_cell R5.out (j := 1) rfl, row_cell R5.out (j := 3) rfl⟩)) (fun hHeld => ?_)
   rw [hwr] at hHeld ⊢
   clear hwr
   refine tkZ 0 (v := ?vl) (nth rfl) (by kernel_rfl) (by kernel_rfl) (by kernel_rfl) (by kernel_rfl) (fun _ _ _ h => h) (by rfl) hHeld ?yl ?rl
   case yl => (intro w hSw; (try dsimp only at hSw); go_simp; (try with_reducible rfl))
   try simp only [Act.put, pA, pB, pC]
   refine tkZ 1 (v := ?vm) (nth rfl) (by kernel_rfl) (by kernel_rfl) (by kernel_rfl) (by kernel_rfl) (fun _ _ _ h => h) (by rfl) hHeld ?ym ?rm
   case ym => (intro w hSw; (try dsimp only at hSw); go_simp; (try with_reducible rfl))
   try simp only [Act.put, pA, pB, pC]
   refine tkZ 2 (v := ?vn) (nth rfl) (by kernel_rfl) (by kernel_rfl) (by kernel_rfl) (by kernel_rfl) (fun _ _ _ h => h) (by rfl) hHeld ?yn ?rn
   case yn => (intro w hSw; (try dsimp only at hSw); go_simp; (try with_reducible rfl))
   try simp only [Act.put, pA, pB, pC]
   refine tkZ 3 (v := ?vo) (nth rfl) (by kernel_rfl) (by kernel_rfl) (by kernel_rfl) (by kernel_rfl) (fun _ _ _ h => h) (by rfl) hHeld ?yo ?ro
   case yo => (intro w hSw; (try dsimp only at hSw); go_simp; (try with_reducible rfl))
   try simp only [Act.put, pA, pB, pC]
   refine tkZ 4 (v := ?vp) (nth rfl) (by kernel_rfl) (by kernel_rfl) (by kernel_rfl) (by kernel_rfl) (fun _ _ _ h => h) (by rfl) hHeld ?yp ?rp
   case yp => (intro w hSw; (try dsimp only at hSw); go_simp; (try with_reducible rfl))
   try simp only [Act.put, pA, pB, pC]
   refine tkZ 5 (v := ?vq) (nth rfl) (by kernel_rfl) (by kernel_rfl) (by kernel_rfl) (by kernel_rfl) (fun _ _ _ h => h) (by rfl) hHeld ?yq ?rq
   case yq => (intro w hSw; (try dsimp only at hSw); go_simp; (try with_reducible rfl))
   try simp only [Act.put, pA, pB, pC]
   refine tkZ 6 (v := ?vr) (nth rfl) (by kernel_rfl) (by kernel_rfl) (by kernel_rfl) (by kernel_rfl) (fun _ _ _ h => h) (by rfl) hHeld ?yr ?rr
   case yr => (intro w hSw; (try dsimp only at hSw); go_simp; (try with_reducible rfl))
   try simp only [Act.put, pA, pB, pC]
   refine tkZ 7 (v := ?vs) (nth rfl) (by kernel_rfl) (by kernel_rfl) (by kernel_rfl) (by kernel_rfl) (fun _ _ _ h => h) (by rfl) hHeld ?ys ?rs
   case ys => (intro w hSw; (try dsimp only at hSw); go_simp; (try with_reducible rfl))
   try simp only [Act.put, pA, pB, pC]
   refine tkZ 8 (v := ?vt) (nth rfl) (by kernel_rfl) (by kernel_rfl) (by kernel_rfl) (by kernel_rfl) (fun _ _ _ h => h) (by rfl) hHeld ?yt ?rt
   case yt => (intro w hSw; (try dsimp only at hSw); go_simp; (try with_reducible rfl))
   try simp only [Act.put, pA, pB, pC]
   refine wpAnyZ_one (i := 9) (by kernel_rfl) (nth rfl) (fun K hK => ?_)
   go_simp
   refine hK.out _ _ (fun _ => ⟨row_cell A5.out (j := 1) rfl, row_cell A5.out (j := 3) rfl⟩) (fun hHeld => ?_)
   clear hK K
   have hHeld := hHeld (by decide)
   try simp only [Act.put, pA, pB, pC]
   refine wpAnyZ_one (i := 10) (by kernel_rfl) (nth rfl) (fun K hK => ?_)
   refine step_append_k elInt rfl (.tmp 37) (.tmp 42) rfl B (.slice Ae (idx 0 (z0 ++ [false])).length qe) (idx 0 (z0 ++ [false])).length wy.heap.size 1 1 ((idx 0 (z0 ++ [false])).map intV) [.int .i64 (s.length : Int)] (by simp [Act.eval]) AE.out (by simp [Act.eval]) rfl Hcn.out (by simp [Value.oneCell']) (by unfold maxLen; omega) (by omega) hBa ?_; intro v' w7 h1 h2 h3; obtain ⟨A7, q7, rfl, -, -, -⟩ := ownsRow_slice h1; have G5 := Lib.hid ((h2.block g (lt_of_heap A5.out) (fun e => HneA.out e.symm)).trans A5.out); have GC := Lib.hid (Chg.grown h2); have GE := Lib.hid (int_snoc h1); have Gb := Lib.hid h3; have d3 := row_cell G5.out (j := 3) rfl; have f3 := row_frozen G5.out 3; clear h1 h2 h3
   refine hK.out _ _ (fun _ => ⟨row_cell G5.out (j := 1) rfl, row_cell G5.out (j := 3) rfl⟩) (fun hHeld => ?_)
   clear hK K
   have hHeld := hHeld (by decide)
   try simp only [Act.put, pA, pB, pC]
   refine wpAnyZ_one (i := 11) (by kernel_rfl) (nth rfl) (fun K hK => ?_)
   go_simp
   refine hK.out _ _ (fun _ => hHeld) (fun hHeld => ?_)
   clear hK K
   have hHeld := hHeld (by decide)
   try simp only [Act.put, pA, pB, pC]
   refine tkZ 12 (v := ?vu) (nth rfl) (by kernel_rfl) (by kernel_rfl) (by kernel_rfl) (by kernel_rfl) (fun _ _ _ h => h) (by rfl) hHeld ?yu ?ru
   case yu => (intro w hSw; (try dsimp only at hSw); go_simp; (try with_reducible rfl))
   try simp only [Act.put, pA, pB, pC]
   refine wpAnyZ_one (i := 13) (by kernel_rfl) (nth rfl) (fun K hK => ?_)
   go_simp
   refine hK.out _ _ (fun h => absurd rfl h) (fun _ => ?_)
   clear hK K
   try simp only [Act.put, pA, pB, pC]
   refine wpAnyZ_done (by kernel_rfl) (NoPanic.normal ?_) _
   clear hHeld d3 f3
   have hset := Chg.set (w := w7) g 3 (.slice A7 ((idx 0 (z0 ++ [false])).length + 1) q7)
   have hneE := own_ne GE.out G5.out (by decide)
   have hE8 := GE.out.stay hset (fun b hb e => hneE (by rw [hb, e]))
   have hC8 := (AC.out.trans GC.out (fun i hi => .inl (.inr hi))).trans hset (fun i hi => .inl (.inl hi))
   have hix : idx 0 (z0 ++ [false]) ++ [(s.length : Int)] = idx 0 (z0 ++ [false || true]) := by rw [idx_snoc, idx_snoc, Hz0.out]; simp
   rw [hix] at hE8
   go_end0
   exact H.out.done hC8 (row_set G5.out 3 _) hE8 He.out (fun k hk => by
    rcases Gb.out with h1 | h1
    ·exact .inl (by rw [← h1]; exact hk)
    ·rw [h1] at hk; have := Option.some.inj hk; right; omega)
theorem EndsAt.uniq {M : List St} {st : Nat} {s : List Int} {E : Bool} {z z' : List Bool} (h : EndsAt M st s E z) (k : EndsAt M st s E z') : z = z' := by
 refine List.ext_getElem? (fun j => ?_)
 by_cases hj : j < s.length + 1
 ·obtain ⟨a, ha⟩ : ∃ a, z[j]? = some a := ⟨_, List.getElem?_eq_getElem (by have := h.1; omega)⟩
  obtain ⟨b, hb⟩ : ∃ b, z'[j]? = some b := ⟨_, List.getElem?_eq_getElem (by have := k.1; omega)⟩
  have h1 := (h.2 j).trans (k.2 j).symm
  rw [ha, hb] at h1 ⊢
  cases a <;> cases b <;> simp_all
 ·rw [List.getElem?_eq_none (by have := h.1; omega), List.getElem?_eq_none (by have := k.1; omega)]
def IntsC (w : World) (l : List Int) (e : Ending) (w' : World) : Prop := ∃ A : Option Addr, e = .returned (.slice A l.length l.length) ∧ Below w.heap.size w w' ∧ ∃ q : Nat, Ints w' w.heap.size (.slice A l.length q) l
set_option maxHeartbeats 4000000 in
theorem rends_any {M : List St} {st mg B g pg : Nat} {s : List Int} {E : Bool} {vs ve : Value} {w : World} (h : RunR M st mg B g pg s E vs ve w) {z : List Bool} (hz : EndsAt M st s E z) (hs : s.length ≤ 5000) : Calls Tryz.prog 21 #[.pointer (some ⟨g, 0, none⟩)] w fun e w' => IntsC w (idx 0 z) e w' := by
 obtain ⟨z', hi, he⟩ := h.ends
 obtain rfl := he.uniq hz
 have hzl := hz.1
 have hil := idx_len z' 0
 obtain ⟨A, q, rfl, -, -, -⟩ := ownsRow_slice hi
 have d3 : w.cell? ⟨g, 3, none⟩ = some (.slice A (idx 0 z').length q) := row_cell h.row (j := 3) rfl
 have Hc := Lib.hid (clone_any hi.sl (by omega))
 clear h hi he hz
 go_enter Tryz.func21, Tryz.ntmps21
 go_wp2_with fail
 (with_reducible refine Hc.out.mono ?_)
 rintro e w1 ⟨A1, q1, rfl, hb1, ho1⟩
 have Hb1 := Lib.hid hb1
 have Ho1 := Lib.hid ho1
 have hq : (idx 0 z').length ≤ q1 := by obtain ⟨_, _, e, h1, _⟩ := ownsRow_slice ho1; obtain ⟨_, _, rfl⟩ := Value.slice.inj e; omega
 clear hb1 ho1 d3
 go_wp2_with fail
 (with_reducible refine (clip_any hq).mono ?_)
 rintro e w2 ⟨rfl, rfl⟩
 go_wp2_with fail
 go_ret
 exact ⟨A1, rfl, Hb1.out, q1, Ho1.out⟩
set_option maxHeartbeats 4000000 in
theorem steps_any {M : List St} {st mg B g pg : Nat} {s : List Int} {E : Bool} {vs ve : Value} {w : World} (h : RunR M st mg B g pg s E vs ve w) (hM : M.length ≤ 3000) (hs : s.length ≤ 5000) : Calls Tryz.prog 23 #[.pointer (some ⟨g, 0, none⟩)] w fun e w' => IntP (M.length * (s.length + if E = true then 1 else 0) : Nat) w e w' := by
 have d0 := row_cell h.row (j := 0) (u := .pointer (some ⟨mg, 0, none⟩)) rfl
 have d1 := row_cell h.row (j := 1) (u := .int .i64 s.length) rfl
 have d4 := row_cell h.row (j := 4) (u := .bool E) rfl
 have Hl := Lib.hid (len_any h.mch.mch)
 have hmul : ∀ k : Nat, k ≤ 5001 → muS M.length k = ((M.length * k : Nat) : Int) := fun k hk => by
  have h1 : M.length * k ≤ 3000 * 5001 := Nat.mul_le_mul hM hk
  have h2 : (M.length : Int) * (k : Int) = ((M.length * k : Nat) : Int) := by push_cast; rfl
  generalize ((M.length * k : Nat) : Nat) = p at *
  unfold muS mxS
  rw [h2]
  omega
 cases E with
 | false =>
  have Hm := Lib.hid (mmul_any M.length s.length (Int.natCast_nonneg _) (by unfold mxS; omega) (Int.natCast_nonneg _) (by unfold mxS; omega) w)
  rw [hmul s.length (by omega)] at Hm
  clear h hmul
  go_enter Tryz.func23, Tryz.ntmps23
  go_wp2_with fail
  (with_reducible refine Hl.out.mono ?_)
  rintro e w1 ⟨rfl, rfl⟩
  go_wp2_with fail
  (with_reducible refine Hm.out.mono ?_)
  rintro e w1 ⟨rfl, rfl⟩
  go_wp2_with fail
  go_ret
  exact ⟨rfl, rfl⟩
 | true =>
  obtain ⟨k, hk⟩ : ∃ k : Int, (s.length : Int) + 1 = k := ⟨_, rfl⟩
  have hk2 : k = ((s.length + 1 : Nat) : Int) := by omega
  have Hm := Lib.hid (mmul_any M.length k (Int.natCast_nonneg _) (by unfold mxS; omega) (by omega) (by unfold mxS; omega) w)
  rw [show muS M.length k = ((M.length * (s.length + 1) : Nat) : Int) by rw [hk2]; exact hmul _ (by omega)] at Hm
  have Hk := Lib.hid hk
  clear h hmul hk hk2
  go_enter Tryz.func23, Tryz.ntmps23
  go_wp2_with fail
  (with_reducible refine Hl.out.mono ?_)
  rintro e w1 ⟨rfl, rfl⟩
  go_wp2_with fail
  rw [Hk.out]
  (with_reducible refine Hm.out.mono ?_)
  rintro e w1 ⟨rfl, rfl⟩
  go_wp2_with fail
  go_ret
  exact ⟨rfl, rfl⟩
def RuP (M : List St) (st mg : Nat) (S : List Int) (w : World) (e : Ending) (w' : World) : Prop :=
 ∃ (g pg : Nat) (vs ve : Value), e = .returned (.pointer (some ⟨g, 0, none⟩)) ∧ RunR M st mg w.heap.size g pg S true vs ve w' ∧ Below w.heap.size w w'
def RuL (M : List St) (st mg g pg j : Nat) (s : ByteArray) (w : World) (m : Nat) (wr : World) : Prop :=
 ∃ (p : Nat) (pre : List Int) (vs ve : Value), p + m = s.size ∧ wr.heap[j]? = some (.stringIter s p) ∧ RunR M st mg w.heap.size g pg pre false vs ve wr ∧ runes badR s.data.toList = pre ++ runes badR (s.data.toList.drop p) ∧ pre.length ≤ p ∧ Below w.heap.size w wr ∧ ∀ k, Foot g pg vs ve k → k ≠ j
theorem Chg.iter {w : World} {j p q : Nat} {s : ByteArray} : Chg (fun k => k = j) w (w.iterAt j s q) := ⟨rfl, rfl, rfl, by rw [Lib.iterAt_size]; exact Nat.le_refl _, fun k _ hk => Lib.iterAt_other w j k s q hk⟩
theorem RuL.fed {M : List St} {st mg g pg j p l m2 : Nat} {s : ByteArray} {w wi w' : World} {c : Int} {pre : List Int} {vs ve : Value} {e : Ending} (hj : w.heap.size ≤ j) (hi : wi.heap[j]? = some (.stringIter s (p + l))) (hb : Below w.heap.size w wi) (hr : RunR M st mg w.heap.size g pg pre false vs ve wi) (hne : ∀ k, Foot g pg vs ve k → k ≠ j)
  (hs : runes badR s.data.toList = pre ++ kn c :: runes badR (s.data.toList.drop (p + l))) (hp : pre.length ≤ p) (hl : 1 ≤ l) (hm : p + l + m2 = s.size) (hf : FdP M st mg w.heap.size g pg (pre ++ [kn c]) false vs ve wi e w') : RuL M st mg g pg j s w m2 w' := by
 obtain ⟨_, vs', ve', h1, h2, h3⟩ := hf
 have hjl := lt_of_heap hi
 refine ⟨p + l, pre ++ [kn c], vs', ve', hm, (h2.block j hjl (fun h => hne j h rfl)).trans hi, h1, by rw [hs]; simp, by rw [List.length_append]; simp; omega, hb.trans (h2.below hb.size (fun i hF => (hr.foot hF).1)), fun k hk => ?_⟩
 rcases h3 k hk with h4 | h4
 ·exact hne k h4
 ·omega
theorem index_at {s : ByteArray} {p : Nat} {x : UInt8} {t : List UInt8} (h : s.data.toList.drop p = x :: t) {i c : Int} (hi : i = (p : Int)) (hc : ((x.toNat : Nat) : Int) = c) : ∀ w' : World, (Instr.index 9 (.string s) (.int .i64 i)).run Tryz.prog w' = .ok (.int .u8 c) w' := by
 intro w'
 subst hi hc
 have hg : s.data.toList[p]? = some x := by
  have h1 : (s.data.toList.drop p)[0]? = some x := by rw [h]; rfl
  rwa [List.getElem?_drop, Nat.add_zero] at h1
 have hlt : p < s.size := by
  have h2 := (List.getElem?_eq_some_iff.1 hg).1
  rw [Array.length_toList] at h2
  exact h2
 rw [run_index_string w' 9 s .i64 (p : Int) Tryz.underlying9, dif_pos ⟨Int.natCast_nonneg _, by omega⟩]
 have h3 : s[((p : Nat) : Int).toNat]'(by simpa using hlt) = x := by
  simp only [Int.toNat_natCast]
  have h4 : s.data[p]? = some x := by rw [← Array.getElem?_toList]; exact hg
  have h5 := (Array.getElem?_eq_some_iff.1 h4).2
  exact h5
 rw [h3]
theorem drop_next {s : ByteArray} {p : Nat} {x : UInt8} {t : List UInt8} (h : s.data.toList.drop p = x :: t) : s.data.toList.drop (p + 1) = t := by
 rw [← List.drop_drop, h]; rfl
set_option maxHeartbeats 16000000 in
set_option maxRecDepth 100000 in
theorem run_any {M : List St} {st mg : Nat} {s : ByteArray} {w : World} (hmo : MOk M st) (h : Mch w mg M st) (hs : s.size ≤ 4000) : Calls Tryz.prog 39 #[.pointer (some ⟨mg, 0, none⟩), .string s] w fun e w' => RuP M st mg (runes badR s.data.toList) w e w' := by
 have Hmo := Lib.hid hmo
 have Hn := Lib.hid (new_any hmo h)
 clear hmo h
 go_enter Tryz.func39, Tryz.ntmps39
 go_wp2_with fail
 (with_reducible refine Hn.out.mono ?_)
 rintro e w1 ⟨g, pg, vs, ve, rfl, hr1, hb1⟩
 have hal := alloc_below w1 (.stringIter s 0)
 have Hr := Lib.hid (hr1.stay (Chg.of_below (F := fun _ => False) hal) (fun _ h => h.elim) (fun _ _ h => h))
 have Hb := Lib.hid (hb1.trans (hal.mono hb1.size))
 have Hi := Lib.hid (heap_alloc_new w1 (.stringIter s 0))
 have Hf := Lib.hid (fun k (hk : Foot g pg vs ve k) => Nat.ne_of_lt (hr1.foot hk).2)
 have hs1 := hb1.size
 clear hr1 hb1 hal Hn
 go_wp2_with fail
 generalize w1.heap.size = j at *
 go_loopg [6, 7] s.size (fun m _ _ wr => RuL M st mg g pg j s w m wr)
 case atStart => exact ⟨0, [], vs, ve, Nat.zero_add _, Hi.out, Hr.out, rfl, Nat.le_refl _, Hb.out, Hf.out⟩
 case round =>
  clear Hr Hb Hi Hf
  obtain ⟨p, pre, vs, ve, hpm, hi, hr, he, hpl, hb, hf⟩ := hrel
  have Hr := Lib.hid hr
  have He := Lib.hid he
  have Hb := Lib.hid hb
  have Hf := Lib.hid hf
  have Hi := Lib.hid hi
  by_cases hlt : p < s.size
  case neg =>
   have hnx : ∀ ty, (Instr.next (.pointer (some ⟨j, 0, none⟩)) true ty).run Tryz.prog wr = .ok (.tuple #[.bool false]) wr := fun ty => Lib.run_next_end_at wr j s p ty hi hlt
   have Hs := Lib.hid (show runes badR s.data.toList = pre by rw [He.out, List.drop_of_length_le (by rw [Array.length_toList]; have : s.size = s.data.size := rfl; omega), runes_nil, List.append_nil])
   clear hr he hb hf hi
   go_wp2_with fail
   (with_reducible refine (end_any Hmo.out Hr.out (by omega)).mono ?_)
   rintro e w3 ⟨rfl, vs3, ve3, h3, hc3, -⟩
   have H3 := Lib.hid h3
   have B3 := Lib.hid (Hb.out.trans (hc3.below Hb.out.size (fun i hF => (Hr.out.foot hF).1)))
   clear h3 hc3
   go_wp2_with fail
   go_ret
   exact ⟨g, pg, vs3, ve3, rfl, by rw [Hs.out]; exact H3.out, B3.out⟩
  case pos =>
   have hnx : ∀ ty, (Instr.next (.pointer (some ⟨j, 0, none⟩)) true ty).run Tryz.prog wr = .ok (.tuple #[.bool true, .int .i64 p, .int .i32 (Utf8.decode s p).1]) (wr.iterAt j s (p + (Utf8.decode s p).2)) := fun ty => Lib.run_next_any_at wr j s p ty hi hlt
   rw [decode_dec s p hlt] at hnx
   obtain ⟨x, t, hxt⟩ : ∃ x t, s.data.toList.drop p = x :: t := by
    cases hd : s.data.toList.drop p with
    | nil => have := congrArg List.length hd; rw [List.length_drop, Array.length_toList] at this; have : s.size = s.data.size := rfl; simp at *; omega
    | cons x t => exact ⟨x, t, rfl⟩
   rw [hxt] at hnx he
   have Hxt := Lib.hid hxt
   have hsz : s.size = s.data.toList.length := by rw [Array.length_toList]; rfl
   have hlen := congrArg List.length hxt
   rw [List.length_drop, ← hsz, List.length_cons] at hlen
   by_cases hd : (dec (x :: t)).2.2 = 0
   ·rw [if_pos hd] at hnx
    rw [runes_good (by simp) hd] at he
    have hp1 := dec_pos hd
    have hbd := (dec_bd (x :: t)).1
    have hfr := (dec_frm hd).2
    have hff := dec_fffd hd
    have hle : (dec (x :: t)).2.1 ≤ (x :: t).length := by
     rcases nx_cases (x :: t) with ⟨h, _⟩ | ⟨_, _, _, h2, _⟩ | ⟨_, h1, _⟩
     ·cases h
     ·rw [← h2]; exact nl_le _
     ·exact absurd hd h1
    rw [List.length_cons] at hle
    generalize (dec (x :: t)).1 = c0 at *
    generalize (dec (x :: t)).2.1 = l at *
    obtain ⟨c, hc⟩ : ∃ c : Int, ((c0 : Nat) : Int) = c := ⟨_, rfl⟩
    have Hm2 := Lib.hid (show p + l + (gk - l) = s.size by omega)
    have hms : gk - l < gk := by omega
    have Hs := Lib.hid (show runes badR s.data.toList = pre ++ kn c :: runes badR (s.data.toList.drop (p + l)) by rw [← hc, kn_ok hfr, he, ← List.drop_drop, hxt])
    have hitr := Chg.iter (w := wr) (j := j) (p := p) (q := p + l) (s := s)
    have HrI := Lib.hid (hr.stay hitr (fun k hk => by rw [hk]; exact hs1) (fun k hk => hf k hk))
    have HiI := Lib.hid (Lib.iterAt_heap wr j s p (p + l) hi)
    have HbI := Lib.hid (hb.trans (hitr.below hb.size (fun k hk => by rw [hk]; exact hs1)))
    have hcb : 0 ≤ c ∧ c ≤ 1114111 := by rw [← hc]; exact ⟨Int.natCast_nonneg _, ((isR_iff _).1 hfr).2.1⟩
    rw [hc] at hnx
    by_cases h65 : c0 = 65533
    ·have hff := hff h65
     obtain rfl : c = 65533 := by omega
     have Hff := Lib.hid hff
     obtain ⟨t2, rfl, rfl⟩ : ∃ t2, x = 239 ∧ t = 191 :: 189 :: t2 := by
      rcases t with _ | ⟨a, _ | ⟨b, t2⟩⟩
      ·simp at hff
      ·simp at hff
      ·simp only [List.take_succ_cons, List.take_zero, List.cons.injEq, and_true] at hff
       exact ⟨t2, hff.1, by rw [hff.2.1, hff.2.2]⟩
     have ix0 := index_at hxt (i := p) (c := 239) rfl (by decide)
     have ix1 := index_at (drop_next hxt) (i := (p : Int) + 1) (c := 191) (by omega) (by decide)
     have ix2 := index_at (drop_next (drop_next hxt)) (i := (p : Int) + 2) (c := 189) (by omega) (by decide)
     simp only [List.length_cons] at hlen
     have n3 : ¬ (s.size : Int) < (p : Int) + 3 := by omega
     clear hpm hsz hlen hle
     clear hr he hb hf hi hitr hc hd hfr hff hxt Hff
     go_wp2_with fail
     (with_reducible refine (feed_any Hmo.out HrI.out (by omega) 65533).mono ?_)
     rintro e w3 hf3
     have Hk := Lib.hid hf3
     obtain rfl : e = .returned (.tuple #[]) := hf3.1
     clear hf3
     go_wp2_with fail
     go_roundg (gk - l)
     case measure => exact hms
     case rel => exact RuL.fed hs1 HiI.out HbI.out HrI.out Hf.out Hs.out hpl hp1 Hm2.out Hk.out
    ·have n1 : (c == 65533) = false := by simp only [beq_eq_false_iff_ne]; omega
     clear hpm hsz hlen hle
     clear hr he hb hf hi hitr hc hd hfr hff hxt h65
     go_wp2_with fail
     (with_reducible refine (feed_any Hmo.out HrI.out (by omega) c).mono ?_)
     rintro e w3 hf3
     have Hk := Lib.hid hf3
     obtain rfl : e = .returned (.tuple #[]) := hf3.1
     clear hf3
     go_wp2_with fail
     go_roundg (gk - l)
     case measure => exact hms
     case rel => exact RuL.fed hs1 HiI.out HbI.out HrI.out Hf.out Hs.out hpl hp1 Hm2.out Hk.out
   ·rw [if_neg hd] at hnx
    have hnf := dec_not_fffd hd
    have hbd := runes_bad (bad := badR) hd
    rw [hbd] at he
    have Hs := Lib.hid (show runes badR s.data.toList = pre ++ kn (-1) :: runes badR (s.data.toList.drop (p + 1)) by rw [drop_next hxt]; exact he)
    have hitr := Chg.iter (w := wr) (j := j) (p := p) (q := p + 1) (s := s)
    have HrI := Lib.hid (hr.stay hitr (fun k hk => by rw [hk]; exact hs1) (fun k hk => hf k hk))
    have HiI := Lib.hid (Lib.iterAt_heap wr j s p (p + 1) hi)
    have HbI := Lib.hid (hb.trans (hitr.below hb.size (fun k hk => by rw [hk]; exact hs1)))
    have hp1 : 1 ≤ 1 := Nat.le_refl _
    have Hm2 := Lib.hid (show p + 1 + (gk - 1) = s.size by omega)
    have hms : gk - 1 < gk := by omega
    obtain ⟨c, hc⟩ : ∃ c : Int, ((x.toNat : Nat) : Int) = c := ⟨_, rfl⟩
    have hcb : 0 ≤ c ∧ c < 256 := by have := x.toNat_lt; omega
    have ix0 := index_at hxt (i := p) (c := c) rfl hc
    by_cases hx : c = 239
    ·have n0 : (c != 239) = false := by simp [hx]
     by_cases h3 : (s.size : Int) < (p : Int) + 3
     ·clear hr he hb hf hi hitr hc hd hbd hnf hxt hx hpm hsz hlen
      go_wp2_with fail
      (with_reducible refine (feed_any Hmo.out HrI.out (by omega) (-1)).mono ?_)
      rintro e w3 hf3
      have Hk := Lib.hid hf3
      obtain rfl : e = .returned (.tuple #[]) := hf3.1
      clear hf3
      go_wp2_with fail
      go_roundg (gk - 1)
      case measure => exact hms
      case rel => exact RuL.fed hs1 HiI.out HbI.out HrI.out Hf.out Hs.out hpl hp1 Hm2.out Hk.out
     ·rcases t with _ | ⟨a, _ | ⟨b, t2⟩⟩
      ·simp only [List.length_nil] at hlen; omega
      ·simp only [List.length_nil, List.length_cons] at hlen; omega
      ·obtain ⟨ca, hca⟩ : ∃ c : Int, ((a.toNat : Nat) : Int) = c := ⟨_, rfl⟩
       obtain ⟨cb, hcb2⟩ : ∃ c : Int, ((b.toNat : Nat) : Int) = c := ⟨_, rfl⟩
       have hcab : 0 ≤ ca ∧ ca < 256 := by have := a.toNat_lt; omega
       have hcbb : 0 ≤ cb ∧ cb < 256 := by have := b.toNat_lt; omega
       have ix1 := index_at (drop_next hxt) (i := (p : Int) + 1) (c := ca) (by omega) hca
       have ix2 := index_at (drop_next (drop_next hxt)) (i := (p : Int) + 2) (c := cb) (by omega) hcb2
       by_cases ha : ca = 191
       ·have n1 : (ca != 191) = false := by simp [ha]
        have n2 : (cb != 189) = true := by
         simp only [bne_iff_ne]
         intro hb9
         apply hnf
         have e1 : x = 239 := UInt8.toNat_inj.1 (by have : (239 : UInt8).toNat = 239 := rfl; omega)
         have e2 : a = 191 := UInt8.toNat_inj.1 (by have : (191 : UInt8).toNat = 191 := rfl; omega)
         have e3 : b = 189 := UInt8.toNat_inj.1 (by have : (189 : UInt8).toNat = 189 := rfl; omega)
         rw [e1, e2, e3]; rfl
        clear hr he hb hf hi hitr hc hd hbd hnf hxt hx hca hcb2 ha hpm hsz hlen
        go_wp2_with fail
        (with_reducible refine (feed_any Hmo.out HrI.out (by omega) (-1)).mono ?_)
        rintro e w3 hf3
        have Hk := Lib.hid hf3
        obtain rfl : e = .returned (.tuple #[]) := hf3.1
        clear hf3
        go_wp2_with fail
        go_roundg (gk - 1)
        case measure => exact hms
        case rel => exact RuL.fed hs1 HiI.out HbI.out HrI.out Hf.out Hs.out hpl hp1 Hm2.out Hk.out
       ·have n1 : (ca != 191) = true := by simpa using ha
        clear hr he hb hf hi hitr hc hd hbd hnf hxt hx hca hcb2 ha hpm hsz hlen
        go_wp2_with fail
        (with_reducible refine (feed_any Hmo.out HrI.out (by omega) (-1)).mono ?_)
        rintro e w3 hf3
        have Hk := Lib.hid hf3
        obtain rfl : e = .returned (.tuple #[]) := hf3.1
        clear hf3
        go_wp2_with fail
        go_roundg (gk - 1)
        case measure => exact hms
        case rel => exact RuL.fed hs1 HiI.out HbI.out HrI.out Hf.out Hs.out hpl hp1 Hm2.out Hk.out
    ·have n0 : (c != 239) = true := by simpa using hx
     clear hr he hb hf hi hitr hc hd hbd hnf hxt hx hpm hsz hlen
     go_wp2_with fail
     (with_reducible refine (feed_any Hmo.out HrI.out (by omega) (-1)).mono ?_)
     rintro e w3 hf3
     have Hk := Lib.hid hf3
     obtain rfl : e = .returned (.tuple #[]) := hf3.1
     clear hf3
     go_wp2_with fail
     go_roundg (gk - 1)
     case measure => exact hms
     case rel => exact RuL.fed hs1 HiI.out HbI.out HrI.out Hf.out Hs.out hpl hp1 Hm2.out Hk.out
def SnP (M : List St) (st : Nat) (S : List Int) (w : World) (e : Ending) (w' : World) : Prop := ∃ z, EndsAt M st S true z ∧ IntsC w (idx 0 z) e w'
def SmP (M : List St) (st : Nat) (S : List Int) (w : World) (e : Ending) (w' : World) : Prop := ∃ z, EndsAt M st S true z ∧ e = .returned (.tuple #[.bool (decide (0 < (idx 0 z).length)), .int .i64 ((M.length * (S.length + 1) : Nat) : Int)]) ∧ Below w.heap.size w w'
theorem runes_sz (s : ByteArray) (hs : s.size ≤ 4000) : (runes badR s.data.toList).length ≤ 4000 := by
 have h1 := runes_len badR s.data.toList.length s.data.toList (Nat.le_refl _)
 have h2 : s.data.toList.length = s.size := by rw [Array.length_toList]; rfl
 omega
set_option maxHeartbeats 4000000 in
theorem sends_any {M : List St} {st mg : Nat} {s : ByteArray} {w : World} (hmo : MOk M st) (h : Mch w mg M st) (hs : s.size ≤ 4000) : Calls Tryz.prog 14 #[.pointer (some ⟨mg, 0, none⟩), .string s] w fun e w' => SnP M st (runes badR s.data.toList) w e w' := by
 have Hr := Lib.hid (run_any hmo h hs)
 have Hz := Lib.hid (runes_sz s hs)
 clear hmo h
 go_enter Tryz.func14, Tryz.ntmps14
 go_wp2_with fail
 (with_reducible refine Hr.out.mono ?_)
 rintro e w1 ⟨g, pg, vs, ve, rfl, hr1, hb1⟩
 obtain ⟨z, hz, he⟩ := hr1.ends
 have He := Lib.hid he
 have Hb1 := Lib.hid hb1
 have Hn := Lib.hid (rends_any hr1 he (by have := Hz.out; omega))
 clear hr1 hb1 hz he
 go_wp2_with fail
 (with_reducible refine Hn.out.mono ?_)
 rintro e w2 ⟨A, rfl, hb2, q, ho2⟩
 have Hb2 := Lib.hid (Hb1.out.trans (hb2.mono Hb1.out.size))
 have Ho2 := Lib.hid (Ints.low ho2 Hb1.out.size)
 clear hb2 ho2
 go_wp2_with fail
 go_ret
 exact ⟨z, He.out, A, rfl, Hb2.out, q, Ho2.out⟩
set_option maxHeartbeats 4000000 in
theorem smatch_any {M : List St} {st mg : Nat} {s : ByteArray} {w : World} (hmo : MOk M st) (h : Mch w mg M st) (hs : s.size ≤ 4000) : Calls Tryz.prog 16 #[.pointer (some ⟨mg, 0, none⟩), .string s] w fun e w' => SmP M st (runes badR s.data.toList) w e w' := by
 have Hr := Lib.hid (run_any hmo h hs)
 have Hz := Lib.hid (runes_sz s hs)
 have hM := hmo.len
 clear hmo h
 go_enter Tryz.func16, Tryz.ntmps16
 go_wp2_with fail
 (with_reducible refine Hr.out.mono ?_)
 rintro e w1 ⟨g, pg, vs, ve, rfl, hr1, hb1⟩
 obtain ⟨z, hz, he⟩ := hr1.ends
 have He := Lib.hid he
 have Hb1 := Lib.hid hb1
 have Hh := Lib.hid (hit_any hr1 he)
 have Hs := Lib.hid (steps_any hr1 hM (by have := Hz.out; omega))
 clear hr1 hb1 hz he
 go_wp2_with fail
 (with_reducible refine Hh.out.mono ?_)
 rintro e w2 ⟨rfl, rfl⟩
 go_wp2_with fail
 (with_reducible refine Hs.out.mono ?_)
 rintro e w3 ⟨rfl, rfl⟩
 go_wp2_with fail
 go_ret2
 exact ⟨z, He.out, rfl, Hb1.out⟩
end Go.Proofs.YthhnmpkgleelfaaGreatDoor
namespace Go.Proofs.YthhnmpkgleelfaaGreatDoor
theorem Pw.le {R : Nat → Nat → Prop} (hR : ∀ i j, R i j → i ≤ j) : ∀ m i j, Pw R m i j → i ≤ j
 | 0, i, j, h => Nat.le_of_eq h
 | m + 1, i, j, ⟨k, h1, h2⟩ => Nat.le_trans (Pw.le hR m i k h1) (hR k j h2)
theorem Mt.le {s : List Int} : ∀ (r : Rx) (i j : Nat), Mt s r i j → i ≤ j
 | .emp, i, j, h => Nat.le_of_eq h
 | .chr _, i, j, h => by have := h.1; omega
 | .any, i, j, h => by have := h.1; omega
 | .set _, i, j, h => by have := h.1; omega
 | .beg, i, j, h => by have := h.1; omega
 | .fin, i, j, h => by have h1 := h.1; have h2 := h.2; omega
 | .cat a b, i, j, ⟨k, h1, h2⟩ => Nat.le_trans (Mt.le a i k h1) (Mt.le b k j h2)
 | .alt a b, i, j, h => by
  rcases h with h | h
  ·exact Mt.le a i j h
  ·exact Mt.le b i j h
 | .rep x _ _, i, j, ⟨m, _, _, h⟩ => Pw.le (fun i j => Mt.le x i j) m i j h
end Go.Proofs.YthhnmpkgleelfaaGreatDoor
