import Derived.Test.YthhnmpkgleelfaaGreatDoorK42
import Derived.Test.YthhnmpkgleelfaaGreatDoorK18
set_option linter.unusedVariables false
set_option linter.unusedSimpArgs false
namespace Go.Proofs.YthhnmpkgleelfaaGreatDoor
open Go.RowKit Go.Shelf
theorem EndsAt.last {M : List St} {st : Nat} {s : List Int} {E : Bool} {z : List Bool} (h : EndsAt M st s E z) : ∃ (z0 : List Bool) (b : Bool), z = z0 ++ [b] ∧ z0.length = s.length := by
 have hl := h.1
 have hne : z ≠ [] := by intro e; rw [e] at hl; simp at hl
 refine ⟨z.dropLast, z.getLast hne, (List.dropLast_concat_getLast hne).symm, ?_⟩
 rw [List.length_dropLast]; omega
theorem last_mem {z0 : List Bool} {b : Bool} {n : Nat} (h : z0.length = n) : (n : Int) ∈ idx 0 (z0 ++ [b]) ↔ b = true := by
 rw [mem0, List.getElem?_append_right (by omega), h, Nat.sub_self]
 simp
theorem RunR.done {M : List St} {st mg B g pg : Nat} {s : List Int} {vs ve ve' : Value} {w w' : World} {z' : List Bool} (h : RunR M st mg B g pg s false vs ve w) (hc : Chg (fun k => k = g ∨ ve.ownBlock = some k) w w') (hr : w'.heap[g]? = some (.cells (runC mg pg s.length vs ve' true) 82 (0, 0))) (hz : Ints w' B ve' (idx 0 z')) (he : EndsAt M st s true z') (hsep : ∀ k, ve'.ownBlock = some k → ve.ownBlock = some k ∨ w.heap.size ≤ k) : FdP M st mg B g pg s true vs ve w (.returned (.tuple #[])) w' := by
 have hft : ∀ i, (i = g ∨ ve.ownBlock = some i) → Foot g pg vs ve i := fun i hi => by
  rcases hi with hi | hi
  ·exact .inl hi
  ·exact .inr (.inr (.inr hi))
 obtain ⟨y, hy, hsy⟩ := h.set
 obtain ⟨z, hzz, -⟩ := h.ends
 refine ⟨rfl, vs, ve', ⟨h.mch.then (hc.below h.mch.size (fun i hi => (h.foot (hft i hi)).1)), h.gB, h.pB, hr, ?_, ⟨y, hy.stay hc (fun b hb hF => ?_), hsy⟩, ⟨z', hz, he⟩, fun k hk hk2 => ?_⟩, hc.mono hft, fun k hk => ?_⟩
 ·refine (hc.block pg (lt_of_heap h.cap) (fun hi => ?_)).trans h.cap
  rcases hi with hi | hi
  ·have h1 := h.row; have h2 := h.cap; rw [hi] at h2; rw [h1] at h2; injection h2 with h2; injection h2 with _ h2 _; cases h2
  ·exact own_ne hzz h.cap (by decide) hi
 ·rcases hF with hF | hF
  ·exact own_ne hy h.row (by decide) (by rw [hb, hF])
  ·exact h.sep b hb hF
 ·rcases hsep k hk2 with h1 | h1
  ·exact h.sep k hk h1
  ·have := (h.foot (k := k) (.inr (.inr (.inl hk)))).2; omega
 ·rcases hk with hk | hk | hk | hk
  ·exact .inl (.inl hk)
  ·exact .inl (.inr (.inl hk))
  ·exact .inl (.inr (.inr (.inl hk)))
  ·rcases hsep k hk with h1 | h1
   ·exact .inl (.inr (.inr (.inr h1)))
   ·exact .inr h1
set_option maxHeartbeats 16000000 in
set_option maxRecDepth 100000 in
theorem end_any {M : List St} {st mg B g pg : Nat} {s : List Int} {vs ve : Value} {w : World} (hmo : MOk M st) (h : RunR M st mg B g pg s false vs ve w) (hs : s.length ≤ 5000) : Calls Tryz.prog 26 #[.pointer (some ⟨g, 0, none⟩)] w fun e w' => FdP M st mg B g pg s true vs ve w e w' := by
 have Hmo := Lib.hid hmo
 have H := Lib.hid h
 obtain ⟨y, hy, hsy⟩ := h.set
 obtain ⟨z, hz, hez⟩ := h.ends
 obtain ⟨z0, b, rfl, hz0⟩ := hez.last
 have hMl := hmo.len
 have hyl := hsy.1
 have hMs := hmo.st
 have d4 := row_cell h.row (j := 4) (u := .bool false) rfl
 have f4 := row_frozen h.row 4
 have hset := Chg.set (w := w) g 4 (.bool true)
 have hr1 : (w.setCell ⟨g, 4, none⟩ (.bool true)).heap[g]? = some (.cells (runC mg pg s.length vs ve true) 82 (0, 0)) := row_set h.row 4 _
 have Hr1 := Lib.hid hr1
 have Hy := Lib.hid (hy.stay hset (fun b hb e => own_ne hy h.row (by decide) (by rw [hb, e])))
 have Hz := Lib.hid (hz.stay hset (fun b hb e => own_ne hz h.row (by decide) (by rw [hb, e])))
 have Hm := Lib.hid (h.mch.then (hset.below h.mch.size (fun i hi => by rw [hi]; exact h.gB)))
 have Hsy := Lib.hid hsy
 have Hez := Lib.hid hez
 have Hst := Lib.hid hset
 have Hz0 := Lib.hid hz0
 obtain ⟨As, qs, rfl, -, -, -⟩ := ownsRow_slice hy
 obtain ⟨Ae, qe, rfl, -, -, -⟩ := ownsRow_slice hz
 have hil := idx_len (z0 ++ [b]) 0
 rw [List.length_append, List.length_cons, List.length_nil] at hil
 have hyi := idx_len y 0
 clear h hmo hy hz hsy hez hset hr1 hz0
 go_enter Tryz.func26, Tryz.ntmps26
 go_wp2_with fail
 clear d4 f4
 obtain ⟨w1, hw1⟩ : ∃ w1, w.setCell ⟨g, 4, none⟩ (.bool true) = w1 := ⟨_, rfl⟩
 rw [hw1] at Hr1 Hy Hz Hm Hst ⊢
 obtain ⟨wq, hwq⟩ : ∃ wq, w1.drew = wq := ⟨_, rfl⟩
 have hdr := (Below.refl w1.heap.size w1).drew
 rw [hwq] at hdr
 have Hr1 := Lib.hid (quiet_heap Hr1.out hdr)
 have Hy := Lib.hid (Hy.out.below hdr)
 have Hz := Lib.hid (Hz.out.below hdr)
 have Hm := Lib.hid (Hm.out.then (hdr.mono Hm.out.size))
 have Hst := Lib.hid (Hst.out.trans (Chg.of_below (F := fun _ => False) hdr) (fun _ h => h.elim))
 clear hdr hw1
 have hs0 := Hz0.out
 refine wp_region_noPanic ?_
 refine wp_region_held_drew (S := fun w' => w'.cell? ⟨g, 3, none⟩ = some (.slice Ae (idx 0 (z0 ++ [b])).length qe) ∧ w'.cell? ⟨g, 1, none⟩ = some (.int .i64 s.length)) (by kernel_rfl) ((by rw [hwq]; exact ⟨row_cell Hr1.out (j := 3) rfl, row_cell Hr1.out (j := 1) rfl⟩)) (fun hHeld => ?_)
 refine tkH 0 (v := ?v0) (nth rfl) (by kernel_rfl) (by kernel_rfl) (by kernel_rfl) (fun _ _ _ h => h) (by rfl) hHeld ?y0 ?r0
 case y0 => (intro w hSw; (try dsimp only at hSw); go_simp; (try with_reducible rfl))
 try simp only [Act.put, pA, pB, pC]
 refine tkH 1 (v := ?v1) (nth rfl) (by kernel_rfl) (by kernel_rfl) (by kernel_rfl) (fun _ _ _ h => h) (by rfl) hHeld ?y1 ?r1
 case y1 => (intro w hSw; (try dsimp only at hSw); go_simp; (try with_reducible rfl))
 try simp only [Act.put, pA, pB, pC]
 refine tkH 2 (v := ?v2) (nth rfl) (by kernel_rfl) (by kernel_rfl) (by kernel_rfl) (fun _ _ _ h => h) (by rfl) hHeld ?y2 ?r2
 case y2 => (intro w hSw; (try dsimp only at hSw); go_simp; (try with_reducible rfl))
 try simp only [Act.put, pA, pB, pC]
 refine tkH 3 (v := ?v3) (nth rfl) (by kernel_rfl) (by kernel_rfl) (by kernel_rfl) (fun _ _ _ h => h) (by rfl) hHeld ?y3 ?r3
 case y3 => (intro w hSw; (try dsimp only at hSw); go_simp; (try with_reducible rfl))
 try simp only [Act.put, pA, pB, pC]
 refine tkH 4 (v := ?v4) (nth rfl) (by kernel_rfl) (by kernel_rfl) (by kernel_rfl) (fun _ _ _ h => h) (by rfl) hHeld ?y4 ?r4
 case y4 => (intro w hSw; (try dsimp only at hSw); go_simp; (try with_reducible rfl))
 try simp only [Act.put, pA, pB, pC]
 refine tkH 5 (v := ?v5) (nth rfl) (by kernel_rfl) (by kernel_rfl) (by kernel_rfl) (fun _ _ _ h => h) (by rfl) hHeld ?y5 ?r5
 case y5 => (intro w hSw; (try dsimp only at hSw); go_simp; (try with_reducible rfl))
 try simp only [Act.put, pA, pB, pC]
 refine tkH 6 (v := ?v6) (nth rfl) (by kernel_rfl) (by kernel_rfl) (by kernel_rfl) (fun _ _ _ h => h) (by rfl) hHeld ?y6 ?r6
 case y6 => (intro w hSw; (try dsimp only at hSw); go_simp; (try with_reducible rfl))
 try simp only [Act.put, pA, pB, pC]
 refine tkH 7 (v := ?v7) (nth rfl) (by kernel_rfl) (by kernel_rfl) (by kernel_rfl) (fun _ _ _ h => h) (by rfl) hHeld ?y7 ?r7
 case y7 => (intro w hSw; (try dsimp only at hSw); go_simp; (try with_reducible rfl))
 try simp only [Act.put, pA, pB, pC]
 refine wpAnyH_ready (rs := [8]) (by kernel_rfl) (by simp) ?_
 refine AllReadyH.cons (nth rfl) (fun K hK => ?_) AllReadyH.nil
 go_simp
 clear hwq; (with_reducible refine (contains_any (Ints.sl Hz.out) (by omega) (s.length : Int)).mono ?_); rintro e wz ⟨rfl, rfl⟩; go_simp
 refine hK.out _ _ (⟨row_cell Hr1.out (j := 3) rfl, row_cell Hr1.out (j := 1) rfl⟩) (fun hHeld => ?_)
 clear hK K
 try simp only [Act.put, pA, pB, pC]
 refine wpAnyH_done (by kernel_rfl) (NoPanic.normal ?_) _
 clear hHeld
 cases b with
 | true =>
  rw [show decide ((s.length : Int) ∈ idx 0 (z0 ++ [true])) = true by rw [decide_eq_true_iff]; exact (last_mem Hz0.out).2 rfl]
  go_wp2_with fail
  refine bodyPost_ret (results_none rfl _ _ _) rfl ?_
  have hrc : Rch M st s false 0 s.length := (Hez.out.2 s.length).1 ((mem0 _ _).1 ((last_mem Hz0.out).2 rfl))
  exact H.out.done (Hst.out.mono (fun i hi => .inl hi)) Hr1.out Hz.out (ends_end (b' := true) Hez.out ⟨fun _ => hrc.sure, fun _ => rfl⟩) (fun k hk => .inl hk)
 | false =>
  rw [show decide ((s.length : Int) ∈ idx 0 (z0 ++ [false])) = false by rw [decide_eq_false_iff_not]; intro hx; have := (last_mem Hz0.out).1 hx; cases this]
  obtain ⟨wq, hwq⟩ : ∃ wq, wz.drew = wq := ⟨_, rfl⟩
  have hdr := (Below.refl wz.heap.size wz).drew
  rw [hwq] at hdr
  have Hr1 := Lib.hid (quiet_heap Hr1.out hdr)
  have Hy := Lib.hid (Hy.out.below hdr)
  have Hz := Lib.hid (Hz.out.below hdr)
  have Hm := Lib.hid (Hm.out.then (hdr.mono Hm.out.size))
  have Hst := Lib.hid (Hst.out.trans (Chg.of_below (F := fun _ => False) hdr) (fun _ h => h.elim))
  obtain ⟨fb, hfb⟩ : ∃ fb, ((s.length : Int) == 0) = fb := ⟨_, rfl⟩
  have hfb2 : decide (s.length = 0) = fb := by rw [← hfb]; cases hn : s.length with | zero => rfl | succ n => simp; omega
  have Hfb2 := Lib.hid hfb2
  have Hin := Lib.hid (idx_in hyl)
  clear hdr hfb2
  go_wp2_with fail
  refine wp_region_noPanic ?_
  refine wp_region_held_drew (S := fun w' => w'.cell? ⟨g, 0, none⟩ = some (.pointer (some ⟨mg, 0, none⟩)) ∧ w'.cell? ⟨g, 2, none⟩ = some (.slice As (idx 0 y).length qs) ∧ w'.cell? ⟨g, 1, none⟩ = some (.int .i64 s.length)) (by kernel_rfl) ((by rw [hwq]; exact ⟨row_cell Hr1.out (j := 0) rfl, row_cell Hr1.out (j := 2) rfl, row_cell Hr1.out (j := 1) rfl⟩)) (fun hHeld => ?_)
  refine tkH 0 (v := ?v8) (nth rfl) (by kernel_rfl) (by kernel_rfl) (by kernel_rfl) (fun _ _ _ h => h) (by rfl) hHeld ?y8 ?r8
  case y8 => (intro w hSw; (try dsimp only at hSw); go_simp; (try with_reducible rfl))
  try simp only [Act.put, pA, pB, pC]
  refine tkH 1 (v := ?v9) (nth rfl) (by kernel_rfl) (by kernel_rfl) (by kernel_rfl) (fun _ _ _ h => h) (by rfl) hHeld ?y9 ?r9
  case y9 => (intro w hSw; (try dsimp only at hSw); go_simp; (try with_reducible rfl))
  try simp only [Act.put, pA, pB, pC]
  refine tkH 2 (v := ?va) (nth rfl) (by kernel_rfl) (by kernel_rfl) (by kernel_rfl) (fun _ _ _ h => h) (by rfl) hHeld ?ya ?ra
  case ya => (intro w hSw; (try dsimp only at hSw); go_simp; (try with_reducible rfl))
  try simp only [Act.put, pA, pB, pC]
  refine tkH 3 (v := ?vb) (nth rfl) (by kernel_rfl) (by kernel_rfl) (by kernel_rfl) (fun _ _ _ h => h) (by rfl) hHeld ?yb ?rb
  case yb => (intro w hSw; (try dsimp only at hSw); go_simp; (try with_reducible rfl))
  try simp only [Act.put, pA, pB, pC]
  refine tkH 4 (v := ?vc) (nth rfl) (by kernel_rfl) (by kernel_rfl) (by kernel_rfl) (fun _ _ _ h => h) (by rfl) hHeld ?yc ?rc
  case yc => (intro w hSw; (try dsimp only at hSw); go_simp; (try with_reducible rfl))
  try simp only [Act.put, pA, pB, pC]
  refine tkH 5 (v := ?vd) (nth rfl) (by kernel_rfl) (by kernel_rfl) (by kernel_rfl) (fun _ _ _ h => h) (by rfl) hHeld ?yd ?rd
  case yd => (intro w hSw; (try dsimp only at hSw); go_simp; (try with_reducible rfl))
  try simp only [Act.put, pA, pB, pC]
  refine tkH 6 (v := ?ve) (nth rfl) (by kernel_rfl) (by kernel_rfl) (by kernel_rfl) (fun _ _ _ h => h) (by rfl) hHeld ?ye ?re
  case ye => (intro w hSw; (try dsimp only at hSw); go_simp; (try with_reducible rfl))
  try simp only [Act.put, pA, pB, pC]
  refine tkH 7 (v := ?vf) (nth rfl) (by kernel_rfl) (by kernel_rfl) (by kernel_rfl) (fun _ _ _ h => h) (by rfl) hHeld ?yf ?rf
  case yf => (intro w hSw; (try dsimp only at hSw); go_simp; (try with_reducible rfl))
  try simp only [Act.put, pA, pB, pC]
  refine tkH 8 (v := ?vg) (nth rfl) (by kernel_rfl) (by kernel_rfl) (by kernel_rfl) (fun _ _ _ h => h) (by rfl) hHeld ?yg ?rg
  case yg => (intro w hSw; (try dsimp only at hSw); go_simp; (try with_reducible rfl))
  try simp only [Act.put, pA, pB, pC]
  refine tkH 9 (v := ?vh) (nth rfl) (by kernel_rfl) (by kernel_rfl) (by kernel_rfl) (fun _ _ _ h => h) (by rfl) hHeld ?yh ?rh
  case yh => (intro w hSw; (try dsimp only at hSw); go_simp; (try with_reducible rfl))
  try simp only [Act.put, pA, pB, pC]
  refine tkH 10 (v := ?vi) (nth rfl) (by kernel_rfl) (by kernel_rfl) (by kernel_rfl) (fun _ _ _ h => h) (by rfl) hHeld ?yi ?ri
  case yi => (intro w hSw; (try dsimp only at hSw); go_simp; (try with_reducible rfl))
  try simp only [Act.put, pA, pB, pC]
  refine tkH 11 (v := ?vj) (nth rfl) (by kernel_rfl) (by kernel_rfl) (by kernel_rfl) (fun _ _ _ h => h) (by rfl) hHeld ?yj ?rj
  case yj => (intro w hSw; (try dsimp only at hSw); go_simp; (try with_reducible rfl))
  try simp only [Act.put, pA, pB, pC]
  refine tkH 12 (v := ?vk) (nth rfl) (by kernel_rfl) (by kernel_rfl) (by kernel_rfl) (fun _ _ _ h => h) (by rfl) hHeld ?yk ?rk
  case yk => (intro w hSw; (try dsimp only at hSw); go_simp; (try with_reducible rfl))
  try simp only [Act.put, pA, pB, pC]
  refine wpAnyH_ready (rs := [13]) (by kernel_rfl) (by simp) ?_
  refine AllReadyH.cons (nth rfl) (fun K hK => ?_) AllReadyH.nil
  go_simp
  clear hwq; (with_reducible refine (still_any fb true Hm.out.mch Hy.out.sl Hmo.out.wf (by omega) (by omega) Hin.out).mono ?_); rintro e w4 ⟨y4, hy4, A4, q4, rfl, hb4, ho4⟩; have Hy4 := Lib.hid hy4; have Ho4 := Lib.hid ho4; have hl4 := idx_len y4 0; have hl5 := hy4.1; have Hr1 := Lib.hid (quiet_heap Hr1.out hb4); have Hz := Lib.hid (Hz.out.below hb4); have Hm := Lib.hid (Hm.out.then (hb4.mono Hm.out.size)); have Hst := Lib.hid (Hst.out.trans (Chg.of_below (F := fun _ => False) hb4) (fun _ h => h.elim)); clear hb4 ho4 hy4; go_simp
  refine hK.out _ _ (⟨row_cell Hr1.out (j := 0) rfl, row_cell Hr1.out (j := 2) rfl, row_cell Hr1.out (j := 1) rfl⟩) (fun hHeld => ?_)
  clear hK K
  try simp only [Act.put, pA, pB, pC]
  refine wpAnyH_ready (rs := [14]) (by kernel_rfl) (by simp) ?_
  refine AllReadyH.cons (nth rfl) (fun K hK => ?_) AllReadyH.nil
  go_simp
  (with_reducible refine (contains_any Ho4.out.sl (by omega) 0).mono ?_); rintro e wy ⟨rfl, rfl⟩; go_simp
  refine hK.out _ _ (⟨row_cell Hr1.out (j := 0) rfl, row_cell Hr1.out (j := 2) rfl, row_cell Hr1.out (j := 1) rfl⟩) (fun hHeld => ?_)
  clear hK K
  try simp only [Act.put, pA, pB, pC]
  refine wpAnyH_done (by kernel_rfl) (NoPanic.normal ?_) _
  clear hHeld
  have hse := set_end hMs Hmo.out.wf Hmo.out.zero Hsy.out (by rw [Hfb2.out]; exact Hy4.out)
  obtain ⟨b', hb'⟩ : ∃ b', y4[0]? = some b' := ⟨_, List.getElem?_eq_getElem (by omega)⟩
  have hbm := mem0 y4 0
  rw [hb'] at hse hbm
  cases b' with
  | false =>
   rw [show decide ((0 : Int) ∈ idx 0 y4) = false by rw [decide_eq_false_iff_not]; intro hx; have := hbm.1 hx; simp at this]
   have He := Lib.hid (ends_end (b := false) (b' := false) Hez.out ⟨fun e => (by cases e), fun hr => (by have := hse.2 hr; simp at this)⟩)
   clear hse hbm hb'
   go_wp2_with fail
   go_end0
   exact H.out.done (Hst.out.mono (fun i hi => .inl hi)) Hr1.out Hz.out He.out (fun k hk => .inl hk)
  | true =>
   rw [show decide ((0 : Int) ∈ idx 0 y4) = true by rw [decide_eq_true_iff]; exact hbm.2 rfl]
   have He := Lib.hid (ends_end (b := false) (b' := true) Hez.out ⟨fun _ => hse.1 rfl, fun _ => rfl⟩)
   clear hse hbm hb'
   obtain ⟨wr, hwr⟩ : ∃ wr, wy.drew = wr := ⟨_, rfl⟩
   have hdr := (Below.refl wy.heap.size wy).drew
   rw [hwr] at hdr
   have R5 := Lib.hid (quiet_heap Hr1.out hdr)
   have RE := Lib.hid (Hz.out.below hdr)
   have RC := Lib.hid ((Hst.out.trans (Chg.of_below (F := fun _ => False) hdr) (fun _ h => h.elim)).mono (G := fun k => k = g ∨ (Value.slice Ae (idx 0 (z0 ++ [false])).length qe).ownBlock = some k) (fun i hi => .inl hi))
   have hrs : wr.heap.size = wy.heap.size := by rw [← hwr]; rfl
   have hsw := Hst.out.size
   clear hdr Hr1 Hz Hst
   go_wp2_with fail
   obtain ⟨wa, hwa⟩ : ∃ wa, wr.alloc (.cells #[.int .i64 (s.length : Int)] 3) = wa := ⟨_, rfl⟩
   have hal := alloc_below wr (.cells #[.int .i64 (s.length : Int)] 3)
   rw [hwa] at hal
   have Hcn := Lib.hid (show ∀ j u, [Value.int .i64 (s.length : Int)][j]? = some u → wa.cell? ⟨wy.heap.size, j, none⟩ = some u by rw [← hwa, ← hrs]; exact cells_new wr [.int .i64 (s.length : Int)] 3)
   have A5 := Lib.hid (quiet_heap R5.out hal)
   have AE := Lib.hid (RE.out.below hal)
   have AC := Lib.hid (RC.out.trans (Chg.of_below (F := fun _ => False) hal) (fun _ h => h.elim))
   have HneA := Lib.hid (own_ne AE.out A5.out (by decide))
   have hsa := hal.size
   have hBa : B ≤ wa.heap.size := by have := H.out.mch.size; omega
   clear hal
   refine wp_region_noPanic ?_
   refine wp_region_Z (S := fun w' => w'.cell? ⟨g, 1, none⟩ = some (.int .i64 s.length) ∧ w'.cell? ⟨g, 3, none⟩ = some (.slice Ae (idx 0 (z0 ++ [false])).length qe)) (by kernel_rfl) 13 ((by rw [hwr]; exact ⟨row_cell R5.out (j := 1) rfl, row_cell R5.out (j := 3) rfl⟩)) (fun hHeld => ?_)
   rw [hwr] at hHeld ⊢
   clear hwr
   refine tkZ 0 (v := ?vl) (nth rfl) (by kernel_rfl) (by kernel_rfl) (by kernel_rfl) (by kernel_rfl) (fun _ _ _ h => h) (by rfl) hHeld ?yl ?rl
   case yl => (intro w hSw; (try dsimp only at hSw); go_simp; (try with_reducible rfl))
   try simp only [Act.put, pA, pB, pC]
   refine tkZ 1 (v := ?vm) (nth rfl) (by kernel_rfl) (by kernel_rfl) (by kernel_rfl) (by kernel_rfl) (fun _ _ _ h => h) (by rfl) hHeld ?ym ?rm
   case ym => (intro w hSw; (try dsimp only at hSw); go_simp; (try with_reducible rfl))
   try simp only [Act.put, pA, pB, pC]
   refine tkZ 2 (v := ?vn) (nth rfl) (by kernel_rfl) (by kernel_rfl) (by kernel_rfl) (by kernel_rfl) (fun _ _ _ h => h) (by rfl) hHeld ?yn ?rn
   case yn => (intro w hSw; (try dsimp only at hSw); go_simp; (try with_reducible rfl))
   try simp only [Act.put, pA, pB, pC]
   refine tkZ 3 (v := ?vo) (nth rfl) (by kernel_rfl) (by kernel_rfl) (by kernel_rfl) (by kernel_rfl) (fun _ _ _ h => h) (by rfl) hHeld ?yo ?ro
   case yo => (intro w hSw; (try dsimp only at hSw); go_simp; (try with_reducible rfl))
   try simp only [Act.put, pA, pB, pC]
   refine tkZ 4 (v := ?vp) (nth rfl) (by kernel_rfl) (by kernel_rfl) (by kernel_rfl) (by kernel_rfl) (fun _ _ _ h => h) (by rfl) hHeld ?yp ?rp
   case yp => (intro w hSw; (try dsimp only at hSw); go_simp; (try with_reducible rfl))
   try simp only [Act.put, pA, pB, pC]
   refine tkZ 5 (v := ?vq) (nth rfl) (by kernel_rfl) (by kernel_rfl) (by kernel_rfl) (by kernel_rfl) (fun _ _ _ h => h) (by rfl) hHeld ?yq ?rq
   case yq => (intro w hSw; (try dsimp only at hSw); go_simp; (try with_reducible rfl))
   try simp only [Act.put, pA, pB, pC]
   refine tkZ 6 (v := ?vr) (nth rfl) (by kernel_rfl) (by kernel_rfl) (by kernel_rfl) (by kernel_rfl) (fun _ _ _ h => h) (by rfl) hHeld ?yr ?rr
   case yr => (intro w hSw; (try dsimp only at hSw); go_simp; (try with_reducible rfl))
   try simp only [Act.put, pA, pB, pC]
   refine tkZ 7 (v := ?vs) (nth rfl) (by kernel_rfl) (by kernel_rfl) (by kernel_rfl) (by kernel_rfl) (fun _ _ _ h => h) (by rfl) hHeld ?ys ?rs
   case ys => (intro w hSw; (try dsimp only at hSw); go_simp; (try with_reducible rfl))
   try simp only [Act.put, pA, pB, pC]
   refine tkZ 8 (v := ?vt) (nth rfl) (by kernel_rfl) (by kernel_rfl) (by kernel_rfl) (by kernel_rfl) (fun _ _ _ h => h) (by rfl) hHeld ?yt ?rt
   case yt => (intro w hSw; (try dsimp only at hSw); go_simp; (try with_reducible rfl))
   try simp only [Act.put, pA, pB, pC]
   refine wpAnyZ_one (i := 9) (by kernel_rfl) (nth rfl) (fun K hK => ?_)
   go_simp
   refine hK.out _ _ (fun _ => ⟨row_cell A5.out (j := 1) rfl, row_cell A5.out (j := 3) rfl⟩) (fun hHeld => ?_)
   clear hK K
   have hHeld := hHeld (by decide)
   try simp only [Act.put, pA, pB, pC]
   refine wpAnyZ_one (i := 10) (by kernel_rfl) (nth rfl) (fun K hK => ?_)
   refine step_append_k elInt rfl (.tmp 37) (.tmp 42) rfl B (.slice Ae (idx 0 (z0 ++ [false])).length qe) (idx 0 (z0 ++ [false])).length wy.heap.size 1 1 ((idx 0 (z0 ++ [false])).map intV) [.int .i64 (s.length : Int)] (by simp [Act.eval]) AE.out (by simp [Act.eval]) rfl Hcn.out (by simp [Value.oneCell']) (by unfold maxLen; omega) (by omega) hBa ?_; intro v' w7 h1 h2 h3; obtain ⟨A7, q7, rfl, -, -, -⟩ := ownsRow_slice h1; have G5 := Lib.hid ((h2.block g (lt_of_heap A5.out) (fun e => HneA.out e.symm)).trans A5.out); have GC := Lib.hid (Chg.grown h2); have GE := Lib.hid (int_snoc h1); have Gb := Lib.hid h3; have d3 := row_cell G5.out (j := 3) rfl; have f3 := row_frozen G5.out 3; clear h1 h2 h3
   refine hK.out _ _ (fun _ => ⟨row_cell G5.out (j := 1) rfl, row_cell G5.out (j := 3) rfl⟩) (fun hHeld => ?_)
   clear hK K
   have hHeld := hHeld (by decide)
   try simp only [Act.put, pA, pB, pC]
   refine wpAnyZ_one (i := 11) (by kernel_rfl) (nth rfl) (fun K hK => ?_)
   go_simp
   refine hK.out _ _ (fun _ => hHeld) (fun hHeld => ?_)
   clear hK K
   have hHeld := hHeld (by decide)
   try simp only [Act.put, pA, pB, pC]
   refine tkZ 12 (v := ?vu) (nth rfl) (by kernel_rfl) (by kernel_rfl) (by kernel_rfl) (by kernel_rfl) (fun _ _ _ h => h) (by rfl) hHeld ?yu ?ru
   case yu => (intro w hSw; (try dsimp only at hSw); go_simp; (try with_reducible rfl))
   try simp only [Act.put, pA, pB, pC]
   refine wpAnyZ_one (i := 13) (by kernel_rfl) (nth rfl) (fun K hK => ?_)
   go_simp
   refine hK.out _ _ (fun h => absurd rfl h) (fun _ => ?_)
   clear hK K
   try simp only [Act.put, pA, pB, pC]
   refine wpAnyZ_done (by kernel_rfl) (NoPanic.normal ?_) _
   clear hHeld d3 f3
   have hset := Chg.set (w := w7) g 3 (.slice A7 ((idx 0 (z0 ++ [false])).length + 1) q7)
   have hneE := own_ne GE.out G5.out (by decide)
   have hE8 := GE.out.stay hset (fun b hb e => hneE (by rw [hb, e]))
   have hC8 := (AC.out.trans GC.out (fun i hi => .inl (.inr hi))).trans hset (fun i hi => .inl (.inl hi))
   have hix : idx 0 (z0 ++ [false]) ++ [(s.length : Int)] = idx 0 (z0 ++ [false || true]) := by rw [idx_snoc, idx_snoc, Hz0.out]; simp
   rw [hix] at hE8
   go_end0
   exact H.out.done hC8 (row_set G5.out 3 _) hE8 He.out (fun k hk => by
    rcases Gb.out with h1 | h1
    ·exact .inl (by rw [← h1]; exact hk)
    ·rw [h1] at hk; have := Option.some.inj hk; right; omega)
theorem EndsAt.uniq {M : List St} {st : Nat} {s : List Int} {E : Bool} {z z' : List Bool} (h : EndsAt M st s E z) (k : EndsAt M st s E z') : z = z' := by
 refine List.ext_getElem? (fun j => ?_)
 by_cases hj : j < s.length + 1
 ·obtain ⟨a, ha⟩ : ∃ a, z[j]? = some a := ⟨_, List.getElem?_eq_getElem (by have := h.1; omega)⟩
  obtain ⟨b, hb⟩ : ∃ b, z'[j]? = some b := ⟨_, List.getElem?_eq_getElem (by have := k.1; omega)⟩
  have h1 := (h.2 j).trans (k.2 j).symm
  rw [ha, hb] at h1 ⊢
  cases a <;> cases b <;> simp_all
 ·rw [List.getElem?_eq_none (by have := h.1; omega), List.getElem?_eq_none (by have := k.1; omega)]
def IntsC (w : World) (l : List Int) (e : Ending) (w' : World) : Prop := ∃ A : Option Addr, e = .returned (.slice A l.length l.length) ∧ Below w.heap.size w w' ∧ ∃ q : Nat, Ints w' w.heap.size (.slice A l.length q) l
set_option maxHeartbeats 4000000 in
theorem rends_any {M : List St} {st mg B g pg : Nat} {s : List Int} {E : Bool} {vs ve : Value} {w : World} (h : RunR M st mg B g pg s E vs ve w) {z : List Bool} (hz : EndsAt M st s E z) (hs : s.length ≤ 5000) : Calls Tryz.prog 21 #[.pointer (some ⟨g, 0, none⟩)] w fun e w' => IntsC w (idx 0 z) e w' := by
 obtain ⟨z', hi, he⟩ := h.ends
 obtain rfl := he.uniq hz
 have hzl := hz.1
 have hil := idx_len z' 0
 obtain ⟨A, q, rfl, -, -, -⟩ := ownsRow_slice hi
 have d3 : w.cell? ⟨g, 3, none⟩ = some (.slice A (idx 0 z').length q) := row_cell h.row (j := 3) rfl
 have Hc := Lib.hid (clone_any hi.sl (by omega))
 clear h hi he hz
 go_enter Tryz.func21, Tryz.ntmps21
 go_wp2_with fail
 (with_reducible refine Hc.out.mono ?_)
 rintro e w1 ⟨A1, q1, rfl, hb1, ho1⟩
 have Hb1 := Lib.hid hb1
 have Ho1 := Lib.hid ho1
 have hq : (idx 0 z').length ≤ q1 := by obtain ⟨_, _, e, h1, _⟩ := ownsRow_slice ho1; obtain ⟨_, _, rfl⟩ := Value.slice.inj e; omega
 clear hb1 ho1 d3
 go_wp2_with fail
 (with_reducible refine (clip_any hq).mono ?_)
 rintro e w2 ⟨rfl, rfl⟩
 go_wp2_with fail
 go_ret
 exact ⟨A1, rfl, Hb1.out, q1, Ho1.out⟩
set_option maxHeartbeats 4000000 in
theorem steps_any {M : List St} {st mg B g pg : Nat} {s : List Int} {E : Bool} {vs ve : Value} {w : World} (h : RunR M st mg B g pg s E vs ve w) (hM : M.length ≤ 3000) (hs : s.length ≤ 5000) : Calls Tryz.prog 23 #[.pointer (some ⟨g, 0, none⟩)] w fun e w' => IntP (M.length * (s.length + if E = true then 1 else 0) : Nat) w e w' := by
 have d0 := row_cell h.row (j := 0) (u := .pointer (some ⟨mg, 0, none⟩)) rfl
 have d1 := row_cell h.row (j := 1) (u := .int .i64 s.length) rfl
 have d4 := row_cell h.row (j := 4) (u := .bool E) rfl
 have Hl := Lib.hid (len_any h.mch.mch)
 have hmul : ∀ k : Nat, k ≤ 5001 → muS M.length k = ((M.length * k : Nat) : Int) := fun k hk => by
  have h1 : M.length * k ≤ 3000 * 5001 := Nat.mul_le_mul hM hk
  have h2 : (M.length : Int) * (k : Int) = ((M.length * k : Nat) : Int) := by push_cast; rfl
  generalize ((M.length * k : Nat) : Nat) = p at *
  unfold muS mxS
  rw [h2]
  omega
 cases E with
 | false =>
  have Hm := Lib.hid (mmul_any M.length s.length (Int.natCast_nonneg _) (by unfold mxS; omega) (Int.natCast_nonneg _) (by unfold mxS; omega) w)
  rw [hmul s.length (by omega)] at Hm
  clear h hmul
  go_enter Tryz.func23, Tryz.ntmps23
  go_wp2_with fail
  (with_reducible refine Hl.out.mono ?_)
  rintro e w1 ⟨rfl, rfl⟩
  go_wp2_with fail
  (with_reducible refine Hm.out.mono ?_)
  rintro e w1 ⟨rfl, rfl⟩
  go_wp2_with fail
  go_ret
  exact ⟨rfl, rfl⟩
 | true =>
  obtain ⟨k, hk⟩ : ∃ k : Int, (s.length : Int) + 1 = k := ⟨_, rfl⟩
  have hk2 : k = ((s.length + 1 : Nat) : Int) := by omega
  have Hm := Lib.hid (mmul_any M.length k (Int.natCast_nonneg _) (by unfold mxS; omega) (by omega) (by unfold mxS; omega) w)
  rw [show muS M.length k = ((M.length * (s.length + 1) : Nat) : Int) by rw [hk2]; exact hmul _ (by omega)] at Hm
  have Hk := Lib.hid hk
  clear h hmul hk hk2
  go_enter Tryz.func23, Tryz.ntmps23
  go_wp2_with fail
  (with_reducible refine Hl.out.mono ?_)
  rintro e w1 ⟨rfl, rfl⟩
  go_wp2_with fail
  rw [Hk.out]
  (with_reducible refine Hm.out.mono ?_)
  rintro e w1 ⟨rfl, rfl⟩
  go_wp2_with fail
  go_ret
  exact ⟨rfl, rfl⟩
end Go.Proofs.YthhnmpkgleelfaaGreatDoor
