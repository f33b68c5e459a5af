import Derived.Test.YthhnmpkgleelfaaGreatDoorL23
import Derived.Test.YthhnmpkgleelfaaGreatDoorL15
set_option linter.unusedVariables false
set_option linter.unusedSimpArgs false
namespace Go.Proofs.YthhnmpkgleelfaaGreatDoor
open Go.RowKit
theorem img_pt {x : List Bool} {k : Nat} {b : Bool} (h : x[k]? = some b) : Img (fun i j => i = k ∧ j = k) x ((List.replicate x.length false).set k b) := by
 have hk := (List.getElem?_eq_some_iff.1 h).1
 refine ⟨by simp, fun j => ?_⟩
 by_cases hj : j = k
 ·subst hj
  rw [List.getElem?_set_self (by simpa using hk)]
  constructor
  ·intro e; exact ⟨j, by rw [h]; exact e, rfl, rfl⟩
  ·rintro ⟨i, hi, rfl, _⟩; rw [← hi, h]
 ·rw [List.getElem?_set_ne (fun e => hj e.symm)]
  constructor
  ·intro e; rw [List.getElem?_replicate] at e; split at e <;> simp at e
  ·rintro ⟨i, _, _, e⟩; exact absurd e hj
theorem Img.len {R : Nat → Nat → Prop} {x y : List Bool} (h : Img R x y) : y.length = x.length := h.1
set_option maxHeartbeats 8000000 in
set_option maxRecDepth 100000 in
theorem fr_emp {s : List Int} : FrAt s .emp := by
 intro p w v vs inn ys x h1 h2 h3 h4 h5 h6 h7
 obtain ⟨A0, q0, rfl, hA0⟩ := h6.form
 have hx0 : ys[p]? = some ⟨1, 0, noB, 0, 0, 0, 0⟩ := h2 0 _ rfl
 obtain ⟨g, q, rfl, hp, c0, c1, c2, c3, c4, c5, c6⟩ := node_at h1 hx0
 dsimp only at c0 c1 c2 c3 c4 c5 c6
 have hpi : (p : Int) < ys.length := by omega
 obtain ⟨As, qs, rfl, -, -, -⟩ := ownsRow_slice h4
 have hmk := run_make_flags x.length (by omega)
 have H1 := Lib.hid h1
 have H2 := Lib.hid h2
 have H4 := Lib.hid h4
 have H6 := Lib.hid h6
 have H7 := Lib.hid h7
 have HA0 := Lib.hid hA0
 have hxl : x.length ≤ 100001 := by omega
 have hx0l : 0 < x.length := by omega
 clear h1 h2 h4 h6 h7 hx0 hA0
 go_enter Tryz.func48, Tryz.ntmps48
 go_wp2_with fail
 have Hb2 := Lib.hid (((Below.refl _ _).alloc (Nat.le_refl w.heap.size) (.cells #[.int .i64 1, .int .i32 0, .string noB, .int .i64 0, .int .i64 0, .int .i64 0, .int .i64 0] 60)).alloc (by simp) (.cells (Array.replicate x.length (.bool false)) 4))
 (with_reducible refine (bools_any (H6.out.below Hb2.out) (by omega)).mono ?_)
 rintro e w3 ⟨A3, q3, rfl, hb3, ho3⟩
 have Hb3 := Lib.hid (Hb2.out.trans (hb3.mono Hb2.out.size))
 have Ho3 := Lib.hid (ho3.low (Nat.zero_le _))
 clear hb3 ho3
 go_wp2_with fail
 go_ret
 exact ⟨x, A3, q3, rfl, Hb3.out, Ho3.out, Img.id x⟩
set_option maxHeartbeats 8000000 in
set_option maxRecDepth 100000 in
theorem fr_beg {s : List Int} : FrAt s .beg := by
 intro p w v vs inn ys x h1 h2 h3 h4 h5 h6 h7
 obtain ⟨A0, q0, rfl, hA0⟩ := h6.form
 have hx0 : ys[p]? = some ⟨5, 0, noB, 0, 0, 0, 0⟩ := h2 0 _ rfl
 obtain ⟨g, q, rfl, hp, c0, c1, c2, c3, c4, c5, c6⟩ := node_at h1 hx0
 dsimp only at c0 c1 c2 c3 c4 c5 c6
 have hpi : (p : Int) < ys.length := by omega
 obtain ⟨As, qs, rfl, -, -, -⟩ := ownsRow_slice h4
 have hmk := run_make_flags x.length (by omega)
 have H1 := Lib.hid h1
 have H2 := Lib.hid h2
 have H4 := Lib.hid h4
 have H6 := Lib.hid h6
 have H7 := Lib.hid h7
 have HA0 := Lib.hid hA0
 have hxl : x.length ≤ 100001 := by omega
 have hx0l : 0 < x.length := by omega
 clear h1 h2 h4 h6 h7 hx0 hA0
 obtain ⟨g0, rfl⟩ := HA0.out (by omega)
 have hb2 : Below w.heap.size w ((w.alloc (.cells #[.int .i64 5, .int .i32 0, .string noB, .int .i64 0, .int .i64 0, .int .i64 0, .int .i64 0] 60)).alloc (.cells (Array.replicate x.length (.bool false)) 4)) := ((Below.refl _ _).alloc (Nat.le_refl w.heap.size) _).alloc (by simp) _
 have hfl : Fls ((w.alloc (.cells #[.int .i64 5, .int .i32 0, .string noB, .int .i64 0, .int .i64 0, .int .i64 0, .int .i64 0] 60)).alloc (.cells (Array.replicate x.length (.bool false)) 4)) 0 (.slice (some ⟨w.heap.size + 1, 0, none⟩) x.length x.length) (List.replicate x.length false) := by have h9 := fls_made (w.alloc (.cells #[.int .i64 5, .int .i32 0, .string noB, .int .i64 0, .int .i64 0, .int .i64 0, .int .i64 0] 60)) x.length (by omega) (Nat.zero_le _); rwa [show (w.alloc (.cells #[.int .i64 5, .int .i32 0, .string noB, .int .i64 0, .int .i64 0, .int .i64 0, .int .i64 0] 60)).heap.size = w.heap.size + 1 by simp] at h9
 have hbx : (((w.alloc (.cells #[.int .i64 5, .int .i32 0, .string noB, .int .i64 0, .int .i64 0, .int .i64 0, .int .i64 0] 60)).alloc (.cells (Array.replicate x.length (.bool false)) 4))).heap[w.heap.size]? = some (.cells #[.int .i64 5, .int .i32 0, .string noB, .int .i64 0, .int .i64 0, .int .i64 0, .int .i64 0] 60 (0, 0)) := ((alloc_below (w.alloc (.cells #[.int .i64 5, .int .i32 0, .string noB, .int .i64 0, .int .i64 0, .int .i64 0, .int .i64 0] 60)) (.cells (Array.replicate x.length (.bool false)) 4)).block _ (by simp)).trans (heap_alloc_new w _)
 obtain ⟨b, hb⟩ : ∃ b, x[0]? = some b := ⟨_, List.getElem?_eq_getElem (by have := H7.out; omega)⟩
 have hin := (H6.out.below hb2).cell hb
 have hout := hfl.cell (k := 0) (b := false) (by rw [List.getElem?_replicate, if_pos (by have := H7.out; omega)])
 have hfz := hfl.frozen (0)
 have Hst := Lib.hid (hfl.set (0) b).1
 have Himg := Lib.hid (img_pt hb)
 have Hb2 := Lib.hid hb2
 have hki : ((0 : Int) : Int) < x.length := by have := H7.out; omega
 have d0 := row_cell hbx (j := 0) (u := .int .i64 5) rfl
 clear hb hfl hb2 hbx
 go_enter Tryz.func48, Tryz.ntmps48
 go_upto_region 3 with fail
 generalize ((w.alloc (.cells #[.int .i64 5, .int .i32 0, .string noB, .int .i64 0, .int .i64 0, .int .i64 0, .int .i64 0] 60)).alloc (.cells (Array.replicate x.length (.bool false)) 4)) = w2 at *
 go_wp2_with fail
 go_ret
 refine ⟨_, some ⟨w.heap.size + 1, 0, none⟩, x.length, ?_, below_set Hb2.out (Nat.le_succ _) Hb2.out.size, ?_, Himg.out⟩
 ·rw [List.length_set, List.length_replicate]; rfl
 ·have h9 := Hst.out; rw [List.length_set, List.length_replicate]; exact h9
set_option maxHeartbeats 8000000 in
set_option maxRecDepth 100000 in
theorem fr_fin {s : List Int} : FrAt s .fin := by
 intro p w v vs inn ys x h1 h2 h3 h4 h5 h6 h7
 obtain ⟨A0, q0, rfl, hA0⟩ := h6.form
 have hx0 : ys[p]? = some ⟨6, 0, noB, 0, 0, 0, 0⟩ := h2 0 _ rfl
 obtain ⟨g, q, rfl, hp, c0, c1, c2, c3, c4, c5, c6⟩ := node_at h1 hx0
 dsimp only at c0 c1 c2 c3 c4 c5 c6
 have hpi : (p : Int) < ys.length := by omega
 obtain ⟨As, qs, rfl, -, -, -⟩ := ownsRow_slice h4
 have hmk := run_make_flags x.length (by omega)
 have H1 := Lib.hid h1
 have H2 := Lib.hid h2
 have H4 := Lib.hid h4
 have H6 := Lib.hid h6
 have H7 := Lib.hid h7
 have HA0 := Lib.hid hA0
 have hxl : x.length ≤ 100001 := by omega
 have hx0l : 0 < x.length := by omega
 clear h1 h2 h4 h6 h7 hx0 hA0
 obtain ⟨g0, rfl⟩ := HA0.out (by omega)
 have hb2 : Below w.heap.size w ((w.alloc (.cells #[.int .i64 6, .int .i32 0, .string noB, .int .i64 0, .int .i64 0, .int .i64 0, .int .i64 0] 60)).alloc (.cells (Array.replicate x.length (.bool false)) 4)) := ((Below.refl _ _).alloc (Nat.le_refl w.heap.size) _).alloc (by simp) _
 have hfl : Fls ((w.alloc (.cells #[.int .i64 6, .int .i32 0, .string noB, .int .i64 0, .int .i64 0, .int .i64 0, .int .i64 0] 60)).alloc (.cells (Array.replicate x.length (.bool false)) 4)) 0 (.slice (some ⟨w.heap.size + 1, 0, none⟩) x.length x.length) (List.replicate x.length false) := by have h9 := fls_made (w.alloc (.cells #[.int .i64 6, .int .i32 0, .string noB, .int .i64 0, .int .i64 0, .int .i64 0, .int .i64 0] 60)) x.length (by omega) (Nat.zero_le _); rwa [show (w.alloc (.cells #[.int .i64 6, .int .i32 0, .string noB, .int .i64 0, .int .i64 0, .int .i64 0, .int .i64 0] 60)).heap.size = w.heap.size + 1 by simp] at h9
 have hbx : (((w.alloc (.cells #[.int .i64 6, .int .i32 0, .string noB, .int .i64 0, .int .i64 0, .int .i64 0, .int .i64 0] 60)).alloc (.cells (Array.replicate x.length (.bool false)) 4))).heap[w.heap.size]? = some (.cells #[.int .i64 6, .int .i32 0, .string noB, .int .i64 0, .int .i64 0, .int .i64 0, .int .i64 0] 60 (0, 0)) := ((alloc_below (w.alloc (.cells #[.int .i64 6, .int .i32 0, .string noB, .int .i64 0, .int .i64 0, .int .i64 0, .int .i64 0] 60)) (.cells (Array.replicate x.length (.bool false)) 4)).block _ (by simp)).trans (heap_alloc_new w _)
 obtain ⟨b, hb⟩ : ∃ b, x[s.length]? = some b := ⟨_, List.getElem?_eq_getElem (by have := H7.out; omega)⟩
 have hin := (H6.out.below hb2).cell hb
 have hout := hfl.cell (k := s.length) (b := false) (by rw [List.getElem?_replicate, if_pos (by have := H7.out; omega)])
 have hfz := hfl.frozen (s.length)
 have Hst := Lib.hid (hfl.set (s.length) b).1
 have Himg := Lib.hid (img_pt hb)
 have Hb2 := Lib.hid hb2
 have hki : ((s.length : Int) : Int) < x.length := by have := H7.out; omega
 have d0 := row_cell hbx (j := 0) (u := .int .i64 6) rfl
 clear hb hfl hb2 hbx
 go_enter Tryz.func48, Tryz.ntmps48
 go_upto_region 3 with fail
 generalize ((w.alloc (.cells #[.int .i64 6, .int .i32 0, .string noB, .int .i64 0, .int .i64 0, .int .i64 0, .int .i64 0] 60)).alloc (.cells (Array.replicate x.length (.bool false)) 4)) = w2 at *
 go_wp2_with fail
 go_ret
 refine ⟨_, some ⟨w.heap.size + 1, 0, none⟩, x.length, ?_, below_set Hb2.out (Nat.le_succ _) Hb2.out.size, ?_, Himg.out⟩
 ·rw [List.length_set, List.length_replicate]; rfl
 ·have h9 := Hst.out; rw [List.length_set, List.length_replicate]; exact h9
set_option maxHeartbeats 8000000 in
set_option maxRecDepth 100000 in
theorem fr_rep {s : List Int} {a : Rx} {mn : Nat} {mx : Int} (hfr : FrAt s a) (hmn : mn ≤ 1000) (hmx : mx = -1 ∨ ((mn : Int) ≤ mx ∧ mx ≤ 1000)) : FrAt s (.rep a mn mx) := by
 intro p w v vs inn ys x h1 h2 h3 h4 h5 h6 h7
 obtain ⟨hx9, sa⟩ := h2.rep
 obtain ⟨za, hza⟩ : ∃ z : Int, ((p + 1 : Nat) : Int) = z := ⟨_, rfl⟩
 rw [hza] at hx9
 have Hza := Lib.hid hza.symm
 have Sa := Lib.hid sa
 have Hfr := Lib.hid hfr
 have Hmx := Lib.hid hmx
 clear hza sa hfr hmx
 obtain ⟨A0, q0, rfl, hA0⟩ := h6.form
 have hx0 : ys[p]? = some ⟨9, 0, noB, za, 0, mn, mx⟩ := hx9
 obtain ⟨g, q, rfl, hp, c0, c1, c2, c3, c4, c5, c6⟩ := node_at h1 hx0
 dsimp only at c0 c1 c2 c3 c4 c5 c6
 have hpi : (p : Int) < ys.length := by omega
 obtain ⟨As, qs, rfl, -, -, -⟩ := ownsRow_slice h4
 have hmk := run_make_flags x.length (by omega)
 have H1 := Lib.hid h1
 have H2 := Lib.hid h2
 have H4 := Lib.hid h4
 have H6 := Lib.hid h6
 have H7 := Lib.hid h7
 have HA0 := Lib.hid hA0
 have hxl : x.length ≤ 100001 := by omega
 have hx0l : 0 < x.length := by omega
 clear h1 h2 h4 h6 h7 hx0 hA0
 have hb2 : Below w.heap.size w ((w.alloc (.cells #[.int .i64 9, .int .i32 0, .string noB, .int .i64 za, .int .i64 0, .int .i64 mn, .int .i64 mx] 60)).alloc (.cells (Array.replicate x.length (.bool false)) 4)) := ((Below.refl _ _).alloc (Nat.le_refl w.heap.size) _).alloc (by simp) _
 have hfl : Fls ((w.alloc (.cells #[.int .i64 9, .int .i32 0, .string noB, .int .i64 za, .int .i64 0, .int .i64 mn, .int .i64 mx] 60)).alloc (.cells (Array.replicate x.length (.bool false)) 4)) 0 (.slice (some ⟨w.heap.size + 1, 0, none⟩) x.length x.length) (List.replicate x.length false) := by have h9 := fls_made (w.alloc (.cells #[.int .i64 9, .int .i32 0, .string noB, .int .i64 za, .int .i64 0, .int .i64 mn, .int .i64 mx] 60)) x.length (by omega) (Nat.zero_le _); rwa [show (w.alloc (.cells #[.int .i64 9, .int .i32 0, .string noB, .int .i64 za, .int .i64 0, .int .i64 mn, .int .i64 mx] 60)).heap.size = w.heap.size + 1 by simp] at h9
 have hbx : (((w.alloc (.cells #[.int .i64 9, .int .i32 0, .string noB, .int .i64 za, .int .i64 0, .int .i64 mn, .int .i64 mx] 60)).alloc (.cells (Array.replicate x.length (.bool false)) 4))).heap[w.heap.size]? = some (.cells #[.int .i64 9, .int .i32 0, .string noB, .int .i64 za, .int .i64 0, .int .i64 mn, .int .i64 mx] 60 (0, 0)) := ((alloc_below (w.alloc (.cells #[.int .i64 9, .int .i32 0, .string noB, .int .i64 za, .int .i64 0, .int .i64 mn, .int .i64 mx] 60)) (.cells (Array.replicate x.length (.bool false)) 4)).block _ (by simp)).trans (heap_alloc_new w _)
 have Hb2 := Lib.hid hb2
 have d0 := row_cell hbx (j := 0) (u := .int .i64 9) rfl
 have d1 := row_cell hbx (j := 1) (u := .int .i32 0) rfl
 have d2 := row_cell hbx (j := 2) (u := .string noB) rfl
 have d3 := row_cell hbx (j := 3) (u := .int .i64 za) rfl
 have d4 := row_cell hbx (j := 4) (u := .int .i64 0) rfl
 have d5 := row_cell hbx (j := 5) (u := .int .i64 mn) rfl
 have d6 := row_cell hbx (j := 6) (u := .int .i64 mx) rfl
 clear hfl hb2 hbx
 go_enter Tryz.func48, Tryz.ntmps48
 go_wp2_with fail
 (with_reducible refine (repeat_any Hfr.out Hza.out (H1.out.below Hb2.out) Sa.out h3 (H4.out.below Hb2.out) h5 (H6.out.below Hb2.out) H7.out hmn Hmx.out).mono ?_)
 rintro e w3 ⟨y, A3, q3, rfl, hb3, hy, himg⟩
 have Hb3 := Lib.hid (Hb2.out.trans (hb3.mono Hb2.out.size))
 have Hy := Lib.hid hy
 have Himg := Lib.hid himg
 clear hb3 hy himg
 go_wp2_with fail
 go_ret
 exact ⟨y, A3, q3, rfl, Hb3.out, Hy.out, Himg.out⟩
set_option maxHeartbeats 8000000 in
set_option maxRecDepth 100000 in
theorem fr_cat {s : List Int} {a b : Rx} (ha : FrAt s a) (hb : FrAt s b) : FrAt s (.cat a b) := by
 intro p w v vs inn ys x h1 h2 h3 h4 h5 h6 h7
 obtain ⟨hx7, sa, sb⟩ := h2.cat
 obtain ⟨za, hza⟩ : ∃ z : Int, ((p + 1 : Nat) : Int) = z := ⟨_, rfl⟩
 obtain ⟨zb, hzb⟩ : ∃ z : Int, ((p + 1 + a.size : Nat) : Int) = z := ⟨_, rfl⟩
 rw [hza, hzb] at hx7
 have Hza := Lib.hid hza.symm
 have Hzb := Lib.hid hzb.symm
 have Sa := Lib.hid sa
 have Sb := Lib.hid sb
 have Ha := Lib.hid ha
 have Hb := Lib.hid hb
 clear hza hzb sa sb ha hb
 obtain ⟨A0, q0, rfl, hA0⟩ := h6.form
 have hx0 : ys[p]? = some ⟨7, 0, noB, za, zb, 0, 0⟩ := hx7
 obtain ⟨g, q, rfl, hp, c0, c1, c2, c3, c4, c5, c6⟩ := node_at h1 hx0
 dsimp only at c0 c1 c2 c3 c4 c5 c6
 have hpi : (p : Int) < ys.length := by omega
 obtain ⟨As, qs, rfl, -, -, -⟩ := ownsRow_slice h4
 have hmk := run_make_flags x.length (by omega)
 have H1 := Lib.hid h1
 have H2 := Lib.hid h2
 have H4 := Lib.hid h4
 have H6 := Lib.hid h6
 have H7 := Lib.hid h7
 have HA0 := Lib.hid hA0
 have hxl : x.length ≤ 100001 := by omega
 have hx0l : 0 < x.length := by omega
 clear h1 h2 h4 h6 h7 hx0 hA0
 have hb2 : Below w.heap.size w ((w.alloc (.cells #[.int .i64 7, .int .i32 0, .string noB, .int .i64 za, .int .i64 zb, .int .i64 0, .int .i64 0] 60)).alloc (.cells (Array.replicate x.length (.bool false)) 4)) := ((Below.refl _ _).alloc (Nat.le_refl w.heap.size) _).alloc (by simp) _
 have hfl : Fls ((w.alloc (.cells #[.int .i64 7, .int .i32 0, .string noB, .int .i64 za, .int .i64 zb, .int .i64 0, .int .i64 0] 60)).alloc (.cells (Array.replicate x.length (.bool false)) 4)) 0 (.slice (some ⟨w.heap.size + 1, 0, none⟩) x.length x.length) (List.replicate x.length false) := by have h9 := fls_made (w.alloc (.cells #[.int .i64 7, .int .i32 0, .string noB, .int .i64 za, .int .i64 zb, .int .i64 0, .int .i64 0] 60)) x.length (by omega) (Nat.zero_le _); rwa [show (w.alloc (.cells #[.int .i64 7, .int .i32 0, .string noB, .int .i64 za, .int .i64 zb, .int .i64 0, .int .i64 0] 60)).heap.size = w.heap.size + 1 by simp] at h9
 have hbx : (((w.alloc (.cells #[.int .i64 7, .int .i32 0, .string noB, .int .i64 za, .int .i64 zb, .int .i64 0, .int .i64 0] 60)).alloc (.cells (Array.replicate x.length (.bool false)) 4))).heap[w.heap.size]? = some (.cells #[.int .i64 7, .int .i32 0, .string noB, .int .i64 za, .int .i64 zb, .int .i64 0, .int .i64 0] 60 (0, 0)) := ((alloc_below (w.alloc (.cells #[.int .i64 7, .int .i32 0, .string noB, .int .i64 za, .int .i64 zb, .int .i64 0, .int .i64 0] 60)) (.cells (Array.replicate x.length (.bool false)) 4)).block _ (by simp)).trans (heap_alloc_new w _)
 have Hb2 := Lib.hid hb2
 have Hbx := Lib.hid hbx
 clear hfl hb2 hbx
 go_enter Tryz.func48, Tryz.ntmps48
 go_wp2_with fail
 generalize ((w.alloc (.cells #[.int .i64 7, .int .i32 0, .string noB, .int .i64 za, .int .i64 zb, .int .i64 0, .int .i64 0] 60)).alloc (.cells (Array.replicate x.length (.bool false)) 4)) = w2 at *
 have hs2 := Hb2.out.size
 have H1d := Lib.hid ((H1.out.below Hb2.out).below (w' := w2.drew) ((Below.refl _ _).drew))
 have H4d := Lib.hid ((H4.out.below Hb2.out).below (w' := w2.drew) ((Below.refl _ _).drew))
 have H6d := Lib.hid ((H6.out.below Hb2.out).below (w' := w2.drew) ((Below.refl _ _).drew))
 refine wp_region_noPanic ?_
 refine wp_region_held_drew (S := fun w' => w'.cell? ⟨w.heap.size, 3, none⟩ = some (.int .i64 za) ∧ w'.cell? ⟨w.heap.size, 4, none⟩ = some (.int .i64 zb)) (by kernel_rfl) (⟨row_cell Hbx.out (j := 3) rfl, row_cell Hbx.out (j := 4) rfl⟩) (fun hHeld => ?_)
 refine tkH 0 (v := ?v0) (nth rfl) (by kernel_rfl) (by kernel_rfl) (by kernel_rfl) (fun _ _ _ h => h) (by rfl) hHeld ?y0 ?r0
 case y0 => (intro w hSw; (try dsimp only at hSw); go_simp; (try with_reducible rfl))
 try simp only [Act.put, pA, pB, pC]
 refine tkH 1 (v := ?v1) (nth rfl) (by kernel_rfl) (by kernel_rfl) (by kernel_rfl) (fun _ _ _ h => h) (by rfl) hHeld ?y1 ?r1
 case y1 => (intro w hSw; (try dsimp only at hSw); go_simp; (try with_reducible rfl))
 try simp only [Act.put, pA, pB, pC]
 refine tkH 2 (v := ?v2) (nth rfl) (by kernel_rfl) (by kernel_rfl) (by kernel_rfl) (fun _ _ _ h => h) (by rfl) hHeld ?y2 ?r2
 case y2 => (intro w hSw; (try dsimp only at hSw); go_simp; (try with_reducible rfl))
 try simp only [Act.put, pA, pB, pC]
 refine tkH 3 (v := ?v3) (nth rfl) (by kernel_rfl) (by kernel_rfl) (by kernel_rfl) (fun _ _ _ h => h) (by rfl) hHeld ?y3 ?r3
 case y3 => (intro w hSw; (try dsimp only at hSw); go_simp; (try with_reducible rfl))
 try simp only [Act.put, pA, pB, pC]
 refine tkH 4 (v := ?v4) (nth rfl) (by kernel_rfl) (by kernel_rfl) (by kernel_rfl) (fun _ _ _ h => h) (by rfl) hHeld ?y4 ?r4
 case y4 => (intro w hSw; (try dsimp only at hSw); go_simp; (try with_reducible rfl))
 try simp only [Act.put, pA, pB, pC]
 refine tkH 5 (v := ?v5) (nth rfl) (by kernel_rfl) (by kernel_rfl) (by kernel_rfl) (fun _ _ _ h => h) (by rfl) hHeld ?y5 ?r5
 case y5 => (intro w hSw; (try dsimp only at hSw); go_simp; (try with_reducible rfl))
 try simp only [Act.put, pA, pB, pC]
 refine tkH 6 (v := ?v6) (nth rfl) (by kernel_rfl) (by kernel_rfl) (by kernel_rfl) (fun _ _ _ h => h) (by rfl) hHeld ?y6 ?r6
 case y6 => (intro w hSw; (try dsimp only at hSw); go_simp; (try with_reducible rfl))
 try simp only [Act.put, pA, pB, pC]
 refine tkH 7 (v := ?v7) (nth rfl) (by kernel_rfl) (by kernel_rfl) (by kernel_rfl) (fun _ _ _ h => h) (by rfl) hHeld ?y7 ?r7
 case y7 => (intro w hSw; (try dsimp only at hSw); go_simp; (try with_reducible rfl))
 try simp only [Act.put, pA, pB, pC]
 refine tkH 8 (v := ?v8) (nth rfl) (by kernel_rfl) (by kernel_rfl) (by kernel_rfl) (fun _ _ _ h => h) (by rfl) hHeld ?y8 ?r8
 case y8 => (intro w hSw; (try dsimp only at hSw); go_simp; (try with_reducible rfl))
 try simp only [Act.put, pA, pB, pC]
 refine wpAnyH_ready (rs := [9]) (by kernel_rfl) (by simp) ?_
 refine AllReadyH.cons (nth rfl) (fun K hK => ?_) AllReadyH.nil
 go_simp
 refine (Ha.out.go (w := w2.drew) (p + 1) Hza.out H1d.out Sa.out h3 H4d.out h5 H6d.out H7.out).mono ?_; rintro e w5 ⟨y, A5, q5, rfl, hb5, hy5, him5⟩; have Hb5 := Lib.hid ((Hb2.out.drew).trans (hb5.mono hs2)); have Hy5 := Lib.hid hy5; have Him5 := Lib.hid him5; have H15 := Lib.hid (H1d.out.below hb5); have H45 := Lib.hid (H4d.out.below hb5); have H65 := Lib.hid (H6d.out.below hb5); have hyl := Lib.hid (him5.1.trans H7.out); go_simp
 refine hK.out _ _ (⟨cell_later hb5 hHeld.1, cell_later hb5 hHeld.2⟩) (fun hHeld => ?_)
 clear hK K
 try simp only [Act.put, pA, pB, pC]
 refine wpAnyH_ready (rs := [10]) (by kernel_rfl) (by simp) ?_
 refine AllReadyH.cons (nth rfl) (fun K hK => ?_) AllReadyH.nil
 go_simp
 refine (Hb.out.go (w := w5) (p + 1 + a.size) Hzb.out H15.out Sb.out h3 H45.out h5 Hy5.out hyl.out).mono ?_; rintro e w6 ⟨z, A6, q6, rfl, hb6, hz6, him6⟩; have Hb6 := Lib.hid (Hb5.out.trans (hb6.mono Hb5.out.size)); have Hz6 := Lib.hid hz6; have Him6 := Lib.hid him6; have Hy6 := Lib.hid (Hy5.out.below hb6); go_simp
 refine hK.out _ _ (⟨cell_later hb6 hHeld.1, cell_later hb6 hHeld.2⟩) (fun hHeld => ?_)
 clear hK K
 try simp only [Act.put, pA, pB, pC]
 refine tkH 11 (v := ?v9) (nth rfl) (by kernel_rfl) (by kernel_rfl) (by kernel_rfl) (fun _ _ _ h => h) (by rfl) hHeld ?y9 ?r9
 case y9 => (intro w hSw; (try dsimp only at hSw); go_simp; (try with_reducible rfl))
 try simp only [Act.put, pA, pB, pC]
 refine wpAnyH_done (by kernel_rfl) (NoPanic.normal ?_) _
 clear hHeld
 go_wp2_with fail
 go_ret
 exact ⟨z, A6, q6, rfl, Hb6.out, Hz6.out, Him5.out.comp Him6.out⟩
set_option maxHeartbeats 8000000 in
set_option maxRecDepth 100000 in
theorem fr_alt {s : List Int} {a b : Rx} (ha : FrAt s a) (hb : FrAt s b) : FrAt s (.alt a b) := by
 intro p w v vs inn ys x h1 h2 h3 h4 h5 h6 h7
 obtain ⟨hx7, sa, sb⟩ := h2.alt
 obtain ⟨za, hza⟩ : ∃ z : Int, ((p + 1 : Nat) : Int) = z := ⟨_, rfl⟩
 obtain ⟨zb, hzb⟩ : ∃ z : Int, ((p + 1 + a.size : Nat) : Int) = z := ⟨_, rfl⟩
 rw [hza, hzb] at hx7
 have Hza := Lib.hid hza.symm
 have Hzb := Lib.hid hzb.symm
 have Sa := Lib.hid sa
 have Sb := Lib.hid sb
 have Ha := Lib.hid ha
 have Hb := Lib.hid hb
 clear hza hzb sa sb ha hb
 obtain ⟨A0, q0, rfl, hA0⟩ := h6.form
 have hx0 : ys[p]? = some ⟨8, 0, noB, za, zb, 0, 0⟩ := hx7
 obtain ⟨g, q, rfl, hp, c0, c1, c2, c3, c4, c5, c6⟩ := node_at h1 hx0
 dsimp only at c0 c1 c2 c3 c4 c5 c6
 have hpi : (p : Int) < ys.length := by omega
 obtain ⟨As, qs, rfl, -, -, -⟩ := ownsRow_slice h4
 have hmk := run_make_flags x.length (by omega)
 have H1 := Lib.hid h1
 have H2 := Lib.hid h2
 have H4 := Lib.hid h4
 have H6 := Lib.hid h6
 have H7 := Lib.hid h7
 have HA0 := Lib.hid hA0
 have hxl : x.length ≤ 100001 := by omega
 have hx0l : 0 < x.length := by omega
 clear h1 h2 h4 h6 h7 hx0 hA0
 have hb2 : Below w.heap.size w ((w.alloc (.cells #[.int .i64 8, .int .i32 0, .string noB, .int .i64 za, .int .i64 zb, .int .i64 0, .int .i64 0] 60)).alloc (.cells (Array.replicate x.length (.bool false)) 4)) := ((Below.refl _ _).alloc (Nat.le_refl w.heap.size) _).alloc (by simp) _
 have hfl : Fls ((w.alloc (.cells #[.int .i64 8, .int .i32 0, .string noB, .int .i64 za, .int .i64 zb, .int .i64 0, .int .i64 0] 60)).alloc (.cells (Array.replicate x.length (.bool false)) 4)) 0 (.slice (some ⟨w.heap.size + 1, 0, none⟩) x.length x.length) (List.replicate x.length false) := by have h9 := fls_made (w.alloc (.cells #[.int .i64 8, .int .i32 0, .string noB, .int .i64 za, .int .i64 zb, .int .i64 0, .int .i64 0] 60)) x.length (by omega) (Nat.zero_le _); rwa [show (w.alloc (.cells #[.int .i64 8, .int .i32 0, .string noB, .int .i64 za, .int .i64 zb, .int .i64 0, .int .i64 0] 60)).heap.size = w.heap.size + 1 by simp] at h9
 have hbx : (((w.alloc (.cells #[.int .i64 8, .int .i32 0, .string noB, .int .i64 za, .int .i64 zb, .int .i64 0, .int .i64 0] 60)).alloc (.cells (Array.replicate x.length (.bool false)) 4))).heap[w.heap.size]? = some (.cells #[.int .i64 8, .int .i32 0, .string noB, .int .i64 za, .int .i64 zb, .int .i64 0, .int .i64 0] 60 (0, 0)) := ((alloc_below (w.alloc (.cells #[.int .i64 8, .int .i32 0, .string noB, .int .i64 za, .int .i64 zb, .int .i64 0, .int .i64 0] 60)) (.cells (Array.replicate x.length (.bool false)) 4)).block _ (by simp)).trans (heap_alloc_new w _)
 have Hb2 := Lib.hid hb2
 have Hbx := Lib.hid hbx
 clear hfl hb2 hbx
 go_enter Tryz.func48, Tryz.ntmps48
 go_wp2_with fail
 generalize ((w.alloc (.cells #[.int .i64 8, .int .i32 0, .string noB, .int .i64 za, .int .i64 zb, .int .i64 0, .int .i64 0] 60)).alloc (.cells (Array.replicate x.length (.bool false)) 4)) = w2 at *
 have hs2 := Hb2.out.size
 have H1d := Lib.hid ((H1.out.below Hb2.out).below (w' := w2.drew) ((Below.refl _ _).drew))
 have H4d := Lib.hid ((H4.out.below Hb2.out).below (w' := w2.drew) ((Below.refl _ _).drew))
 have H6d := Lib.hid ((H6.out.below Hb2.out).below (w' := w2.drew) ((Below.refl _ _).drew))
 refine wp_region_noPanic ?_
 refine wp_region_held_drew (S := fun w' => w'.cell? ⟨w.heap.size, 3, none⟩ = some (.int .i64 za) ∧ w'.cell? ⟨w.heap.size, 4, none⟩ = some (.int .i64 zb)) (by kernel_rfl) (⟨row_cell Hbx.out (j := 3) rfl, row_cell Hbx.out (j := 4) rfl⟩) (fun hHeld => ?_)
 refine tkH 0 (v := ?va) (nth rfl) (by kernel_rfl) (by kernel_rfl) (by kernel_rfl) (fun _ _ _ h => h) (by rfl) hHeld ?ya ?ra
 case ya => (intro w hSw; (try dsimp only at hSw); go_simp; (try with_reducible rfl))
 try simp only [Act.put, pA, pB, pC]
 refine tkH 1 (v := ?vb) (nth rfl) (by kernel_rfl) (by kernel_rfl) (by kernel_rfl) (fun _ _ _ h => h) (by rfl) hHeld ?yb ?rb
 case yb => (intro w hSw; (try dsimp only at hSw); go_simp; (try with_reducible rfl))
 try simp only [Act.put, pA, pB, pC]
 refine tkH 2 (v := ?vc) (nth rfl) (by kernel_rfl) (by kernel_rfl) (by kernel_rfl) (fun _ _ _ h => h) (by rfl) hHeld ?yc ?rc
 case yc => (intro w hSw; (try dsimp only at hSw); go_simp; (try with_reducible rfl))
 try simp only [Act.put, pA, pB, pC]
 refine tkH 3 (v := ?vd) (nth rfl) (by kernel_rfl) (by kernel_rfl) (by kernel_rfl) (fun _ _ _ h => h) (by rfl) hHeld ?yd ?rd
 case yd => (intro w hSw; (try dsimp only at hSw); go_simp; (try with_reducible rfl))
 try simp only [Act.put, pA, pB, pC]
 refine tkH 4 (v := ?ve) (nth rfl) (by kernel_rfl) (by kernel_rfl) (by kernel_rfl) (fun _ _ _ h => h) (by rfl) hHeld ?ye ?re
 case ye => (intro w hSw; (try dsimp only at hSw); go_simp; (try with_reducible rfl))
 try simp only [Act.put, pA, pB, pC]
 refine tkH 6 (v := ?vf) (nth rfl) (by kernel_rfl) (by kernel_rfl) (by kernel_rfl) (fun _ _ _ h => h) (by rfl) hHeld ?yf ?rf
 case yf => (intro w hSw; (try dsimp only at hSw); go_simp; (try with_reducible rfl))
 try simp only [Act.put, pA, pB, pC]
 refine tkH 7 (v := ?vg) (nth rfl) (by kernel_rfl) (by kernel_rfl) (by kernel_rfl) (fun _ _ _ h => h) (by rfl) hHeld ?yg ?rg
 case yg => (intro w hSw; (try dsimp only at hSw); go_simp; (try with_reducible rfl))
 try simp only [Act.put, pA, pB, pC]
 refine tkH 8 (v := ?vh) (nth rfl) (by kernel_rfl) (by kernel_rfl) (by kernel_rfl) (fun _ _ _ h => h) (by rfl) hHeld ?yh ?rh
 case yh => (intro w hSw; (try dsimp only at hSw); go_simp; (try with_reducible rfl))
 try simp only [Act.put, pA, pB, pC]
 refine tkH 9 (v := ?vi) (nth rfl) (by kernel_rfl) (by kernel_rfl) (by kernel_rfl) (fun _ _ _ h => h) (by rfl) hHeld ?yi ?ri
 case yi => (intro w hSw; (try dsimp only at hSw); go_simp; (try with_reducible rfl))
 try simp only [Act.put, pA, pB, pC]
 refine tkH 10 (v := ?vj) (nth rfl) (by kernel_rfl) (by kernel_rfl) (by kernel_rfl) (fun _ _ _ h => h) (by rfl) hHeld ?yj ?rj
 case yj => (intro w hSw; (try dsimp only at hSw); go_simp; (try with_reducible rfl))
 try simp only [Act.put, pA, pB, pC]
 refine wpAnyH_ready (rs := [5]) (by kernel_rfl) (by simp) ?_
 refine AllReadyH.cons (nth rfl) (fun K hK => ?_) AllReadyH.nil
 go_simp
 refine (Ha.out.go (w := w2.drew) (p + 1) Hza.out H1d.out Sa.out h3 H4d.out h5 H6d.out H7.out).mono ?_; rintro e w5 ⟨y, A5, q5, rfl, hb5, hy5, him5⟩; have Hb5 := Lib.hid ((Hb2.out.drew).trans (hb5.mono hs2)); have Hy5 := Lib.hid hy5; have Him5 := Lib.hid him5; have H15 := Lib.hid (H1d.out.below hb5); have H45 := Lib.hid (H4d.out.below hb5); have H65 := Lib.hid (H6d.out.below hb5); have hyl := Lib.hid (him5.1.trans H7.out); go_simp
 refine hK.out _ _ (⟨cell_later hb5 hHeld.1, cell_later hb5 hHeld.2⟩) (fun hHeld => ?_)
 clear hK K
 try simp only [Act.put, pA, pB, pC]
 refine wpAnyH_ready (rs := [11]) (by kernel_rfl) (by simp) ?_
 refine AllReadyH.cons (nth rfl) (fun K hK => ?_) AllReadyH.nil
 go_simp
 refine (Hb.out.go (w := w5) (p + 1 + a.size) Hzb.out H15.out Sb.out h3 H45.out h5 H65.out H7.out).mono ?_; rintro e w6 ⟨z, A6, q6, rfl, hb6, hz6, him6⟩; have Hb6 := Lib.hid (Hb5.out.trans (hb6.mono Hb5.out.size)); have Hz6 := Lib.hid hz6; have Him6 := Lib.hid him6; have Hy6 := Lib.hid (Hy5.out.below hb6); go_simp
 refine hK.out _ _ (⟨cell_later hb6 hHeld.1, cell_later hb6 hHeld.2⟩) (fun hHeld => ?_)
 clear hK K
 try simp only [Act.put, pA, pB, pC]
 refine wpAnyH_ready (rs := [12]) (by kernel_rfl) (by simp) ?_
 refine AllReadyH.cons (nth rfl) (fun K hK => ?_) AllReadyH.nil
 go_simp
 refine (either_any (w := w6) Hy6.out Hz6.out (by have := Him5.out; have := Him6.out; rw [Img.len Him5.out, Img.len Him6.out]) (by rw [Img.len Him5.out]; omega)).mono ?_; rintro e w7 ⟨A7, q7, rfl, hb7, ho7⟩; have Hb7 := Lib.hid (Hb6.out.trans (hb7.mono Hb6.out.size)); have Ho7 := Lib.hid (ho7.low (Nat.zero_le _)); go_simp
 refine hK.out _ _ (⟨cell_later hb7 hHeld.1, cell_later hb7 hHeld.2⟩) (fun hHeld => ?_)
 clear hK K
 try simp only [Act.put, pA, pB, pC]
 refine tkH 13 (v := ?vk) (nth rfl) (by kernel_rfl) (by kernel_rfl) (by kernel_rfl) (fun _ _ _ h => h) (by rfl) hHeld ?yk ?rk
 case yk => (intro w hSw; (try dsimp only at hSw); go_simp; (try with_reducible rfl))
 try simp only [Act.put, pA, pB, pC]
 refine wpAnyH_done (by kernel_rfl) (NoPanic.normal ?_) _
 clear hHeld
 go_wp2_with fail
 go_ret
 exact ⟨orL y z, A7, q7, rfl, Hb7.out, Ho7.out, Him5.out.or Him6.out⟩
end Go.Proofs.YthhnmpkgleelfaaGreatDoor
