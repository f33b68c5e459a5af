import Derived.Test.YthhnmpkgleelfaaGreatDoorM18
set_option linter.unusedVariables false
set_option linter.unusedSimpArgs false
namespace Go.Proofs.YthhnmpkgleelfaaGreatDoor
open Go.RowKit
def AltP (xs : List UInt8) (rb k : Nat) (w : World) (e : Ending) (w' : World) : Prop := ∃ (A : Option Addr) (q : Nat) (ys : List Ex) (k' : Nat) (c : Int), e = .returned (.slice A ys.length q) ∧ Rd xs rb w' k' c ∧ Fr rb w w' ∧ XRow w' 0 (.slice A ys.length q) ys ∧ OkX ys ∧ (c = 0 → ∃ l, AltL (xs.drop k) l (xs.drop k') ∧ ys = (joinR .alt l).flat 0) ∧ (c ≠ 0 → NoAlt (xs.drop k))
def AltAt (xs : List UInt8) (K : Nat) : Prop := ∀ (rb k : Nat) (w : World), K ≤ k → Rd xs rb w k 0 → Calls Tryz.prog 59 #[.pointer (some ⟨rb, 0, none⟩)] w fun e w' => AltP xs rb k w e w'
theorem AltAt.go {xs : List UInt8} {K : Nat} (h : AltAt xs K) {rb : Nat} {w : World} (k : Nat) (hk : K ≤ k) (hr : Rd xs rb w k 0) : Calls Tryz.prog 59 #[.pointer (some ⟨rb, 0, none⟩)] w fun e w' => AltP xs rb k w e w' := h rb k w hk hr
def GrpG (xs : List UInt8) (k k' : Nat) (ys : List Ex) : Prop := ∃ l, ((nx (xs.drop k) ≠ 63 ∧ AltL (xs.drop k) l (41 :: xs.drop k')) ∨ (xs.drop k = 63 :: 58 :: xs.drop (k + 2) ∧ AltL (xs.drop (k + 2)) l (41 :: xs.drop k'))) ∧ ys = (joinR .alt l).flat 0
def GrpP (xs : List UInt8) (rb k : Nat) (w : World) (e : Ending) (w' : World) : Prop := ∃ (A : Option Addr) (q : Nat) (ys : List Ex) (k' : Nat) (c : Int), e = .returned (.slice A ys.length q) ∧ Rd xs rb w' k' c ∧ Fr rb w w' ∧ XRow w' 0 (.slice A ys.length q) ys ∧ OkX ys ∧ (c ≠ 0 → ys = []) ∧ (c = 0 → GrpG xs k k' ys) ∧ (c ≠ 0 → NoAtom (40 :: xs.drop k))
def AtomP (xs : List UInt8) (rb k : Nat) (w : World) (e : Ending) (w' : World) : Prop := ∃ (A : Option Addr) (q : Nat) (ys : List Ex) (k' : Nat) (c : Int), e = .returned (.slice A ys.length q) ∧ Rd xs rb w' k' c ∧ Fr rb w w' ∧ XRow w' 0 (.slice A ys.length q) ys ∧ OkX ys ∧ (c ≠ 0 → ys.length ≤ 1) ∧ (c = 0 → ∃ r, Atom (xs.drop k) r (xs.drop k') ∧ ys = r.flat 0) ∧ (c ≠ 0 → NoAtom (xs.drop k))
set_option maxHeartbeats 16000000 in
set_option maxRecDepth 100000 in
theorem rgroup_any {xs : List UInt8} {rb k : Nat} {w : World} (h : Rd xs rb w k 0) (hk : k ≤ xs.length + 1) (hl : xs.length ≤ 1000) (ha : AltAt xs k) : Calls Tryz.prog 118 #[.pointer (some ⟨rb, 0, none⟩)] w fun e w' => GrpP xs rb k w e w' := by
 have H := Lib.hid h
 have Ha := Lib.hid ha
 have F0 := Lib.hid (Fr.refl rb w)
 obtain ⟨pb, cap, -, c0, c1, c2, f1⟩ := h.cells
 clear h ha
 go_enter Tryz.func118, Tryz.ntmps118
 go_wp2_with fail
 (with_reducible refine (lookz_any H.out _ (k) (by omega) (by omega)).mono ?_)
 rintro e w1 ⟨rfl, hb⟩
 have F1 := Lib.hid (F0.out.then (Fr.of_below hb))
 have h1 := H.out.below hb
 clear hb c0 c1 c2 f1
 obtain ⟨pb1, cap1, -, c01, c11, c21, f11⟩ := h1.cells
 have H1 := Lib.hid h1
 obtain ⟨c, hc⟩ : ∃ c, nx (xs.drop (k)) = c := ⟨_, rfl⟩
 rw [hc]
 have hbc := nx_le (xs.drop (k))
 rw [hc] at hbc
 obtain ⟨hbc1, hbc2⟩ := hbc
 obtain ⟨nc, hnc⟩ : ∃ n : Int, ((nl (xs.drop (k)) : Nat) : Int) = n := ⟨_, rfl⟩
 rw [hnc]
 have Hc := Lib.hid hc
 have Hnc := Lib.hid hnc
 clear h1 hc hnc
 by_cases e63 : c = 63
 case neg =>
  have n63 : (c == 63) = false := by simpa using e63
  have Hn63 := Lib.hid e63
  clear e63
  go_wp2_with fail
  (with_reducible refine (Ha.out.go (k) (by omega) (H1.out)).mono ?_)
  rintro e w3 ⟨A, q, ys, k3, c3, rfl, h3, hf3, hx3, hok3, hd3⟩
  have H3 := Lib.hid h3
  have F3 := Lib.hid ((F1.out).then hf3)
  have Hx3 := Lib.hid hx3
  have Hok3 := Lib.hid hok3
  have Hd3 := Lib.hid hd3
  have hk3 := h3.le
  obtain ⟨pb3, cap3, -, c03, c13, c23, f13⟩ := h3.cells
  clear h3 hf3 hx3 hok3 hd3
  go_wp2_with fail
  (with_reducible refine (good_any H3.out).mono ?_)
  rintro e w' ⟨rfl, rfl⟩
  by_cases hq : c3 = 0
  case neg =>
   have hq' : decide (c3 = 0) = false := by simpa using hq
   have Hq := Lib.hid hq
   clear hq
   go_wp2_with fail
   go_ret
   exact ⟨none, 0, [], k3, c3, rfl, H3.out, F3.out, XRow.nil _ _, OkX.nil, fun _ => rfl, fun e => absurd e Hq.out, fun _ => noatom_grp1 (by rw [Hc.out]; exact Hn63.out) (nogrp_of (Hd3.out.2 Hq.out))⟩
  subst hq
  obtain ⟨l, hal, hys⟩ := Hd3.out.1 rfl
  have Hal := Lib.hid hal
  have Hys := Lib.hid hys
  clear hal hys Hd3
  go_wp2_with fail
  (with_reducible refine (lookz_any H3.out _ (k3) (by omega) (by omega)).mono ?_)
  rintro e w4 ⟨rfl, hb⟩
  have Hx4 := Lib.hid (Hx3.out.below hb)
  have F4 := Lib.hid (F3.out.then (Fr.of_below hb))
  have h4 := H3.out.below hb
  clear hb c03 c13 c23 f13
  obtain ⟨pb4, cap4, -, c04, c14, c24, f14⟩ := h4.cells
  have H4 := Lib.hid h4
  obtain ⟨d, hd⟩ : ∃ c, nx (xs.drop (k3)) = c := ⟨_, rfl⟩
  rw [hd]
  have hbd := nx_le (xs.drop (k3))
  rw [hd] at hbd
  obtain ⟨hbd1, hbd2⟩ := hbd
  obtain ⟨nd, hnd⟩ : ∃ n : Int, ((nl (xs.drop (k3)) : Nat) : Int) = n := ⟨_, rfl⟩
  rw [hnd]
  have Hd := Lib.hid hd
  have Hnd := Lib.hid hnd
  clear h4 hd hnd
  by_cases e41 : d = 41
  case neg =>
   have n41 : (d != 41) = true := by simpa using e41
   go_wp2_with fail
   (with_reducible refine (wrongz_any H4.out _ (k3) (by omega) (by omega)).mono ?_)
   rintro e wx ⟨rfl, qx, hq, hx, hf⟩
   have Hx := Lib.hid (And.intro hq (And.intro hx (F4.out.then hf)))
   clear hq hx hf c04 c14 c24 f14
   go_wp2_with fail
   go_ret
   exact ⟨none, 0, [], _, _, rfl, Hx.out.2.1, Hx.out.2.2, XRow.nil _ _, OkX.nil, fun _ => rfl, fun e => absurd e Hx.out.1, fun _ => noatom_grp1 (by rw [Hc.out]; exact Hn63.out) (nogrp_end Hal.out (by rw [Hd.out]; exact e41))⟩
  subst e41
  have hd := nx_drop Hd.out (by omega) (by omega)
  have hk4 : k3 + 1 ≤ xs.length := by have := hd.1; omega
  have hde := hd.2.2
  have hal := Hal.out
  have hys := Hys.out
  rw [hde] at hal
  have Hg := Lib.hid (show GrpG xs k (k3 + 1) ys from ⟨l, .inl ⟨by rw [Hc.out]; exact Hn63.out, hal⟩, hys⟩)
  have Hz := Lib.hid (H4.out.setz (z := (k3 : Int) + 1) (m := k3 + 1) (by omega) (by omega))
  have fz := Fr.set rb 1 w4 (.int .i64 ((k3 : Int) + 1))
  have Fz := Lib.hid (F4.out.then fz)
  have Hxz := Lib.hid (Hx4.out.rd fz H4.out.typed)
  clear hd hde hal hys fz
  go_wp2_with fail
  go_ret
  exact ⟨A, q, ys, k3 + 1, 0, rfl, Hz.out, Fz.out, Hxz.out, Hok3.out, fun e => absurd rfl e, fun _ => Hg.out, fun e => absurd rfl e⟩
 subst e63
 have hd0 := nx_drop Hc.out (by omega) (by omega)
 have Hd0 := Lib.hid hd0.2.2
 have hk1 : k + 1 ≤ xs.length := by have := hd0.1; omega
 clear hd0
 have Ht := Lib.hid (H1.out.setz (z := (k : Int) + 1) (m := k + 1) (by omega) (by omega))
 have Ft := Lib.hid (F1.out.then (Fr.set rb 1 w1 (.int .i64 ((k : Int) + 1))))
 go_wp2_with fail
 (with_reducible refine (lookz_any Ht.out _ (k + 1) (by omega) (by omega)).mono ?_)
 rintro e w2 ⟨rfl, hb⟩
 have F2 := Lib.hid (Ft.out.then (Fr.of_below hb))
 have h2 := Ht.out.below hb
 clear hb c01 c11 c21 f11
 obtain ⟨pb2, cap2, -, c02, c12, c22, f12⟩ := h2.cells
 have H2 := Lib.hid h2
 obtain ⟨c9, hc9⟩ : ∃ c, nx (xs.drop (k + 1)) = c := ⟨_, rfl⟩
 rw [hc9]
 have hbc9 := nx_le (xs.drop (k + 1))
 rw [hc9] at hbc9
 obtain ⟨hbc91, hbc92⟩ := hbc9
 obtain ⟨nc9, hnc9⟩ : ∃ n : Int, ((nl (xs.drop (k + 1)) : Nat) : Int) = n := ⟨_, rfl⟩
 rw [hnc9]
 have Hc9 := Lib.hid hc9
 have Hnc9 := Lib.hid hnc9
 clear h2 hc9 hnc9
 by_cases e58 : c9 = 58
 case neg =>
  have n58 : (c9 != 58) = true := by simpa using e58
  go_wp2_with fail
  (with_reducible refine (wrongz_any H2.out _ (k + 1) (by omega) (by omega)).mono ?_)
  rintro e wx ⟨rfl, qx, hq, hx, hf⟩
  have Hx := Lib.hid (And.intro hq (And.intro hx (F2.out.then hf)))
  clear hq hx hf c02 c12 c22 f12
  go_wp2_with fail
  go_ret
  exact ⟨none, 0, [], _, _, rfl, Hx.out.2.1, Hx.out.2.2, XRow.nil _ _, OkX.nil, fun _ => rfl, fun e => absurd e Hx.out.1, fun _ => by rw [Hd0.out]; exact noatom_grpq (by rw [Hc9.out]; exact e58)⟩
 subst e58
 have hd1 := nx_drop Hc9.out (by omega) (by omega)
 have Hd1 := Lib.hid hd1.2.2
 have hk2 : k + 1 + 1 ≤ xs.length := by have := hd1.1; omega
 clear hd1
 go_wp2_with fail
 (with_reducible refine (Ha.out.go (k + 1 + 1) (by omega) (H2.out.setz (by omega) (by omega))).mono ?_)
 rintro e w3 ⟨A, q, ys, k3, c3, rfl, h3, hf3, hx3, hok3, hd3⟩
 have H3 := Lib.hid h3
 have F3 := Lib.hid ((F2.out.then (Fr.set rb 1 w2 _)).then hf3)
 have Hx3 := Lib.hid hx3
 have Hok3 := Lib.hid hok3
 have Hd3 := Lib.hid hd3
 have hk3 := h3.le
 obtain ⟨pb3, cap3, -, c03, c13, c23, f13⟩ := h3.cells
 clear h3 hf3 hx3 hok3 hd3
 go_wp2_with fail
 (with_reducible refine (good_any H3.out).mono ?_)
 rintro e w' ⟨rfl, rfl⟩
 by_cases hq : c3 = 0
 case neg =>
  have hq' : decide (c3 = 0) = false := by simpa using hq
  have Hq := Lib.hid hq
  clear hq
  go_wp2_with fail
  go_ret
  exact ⟨none, 0, [], k3, c3, rfl, H3.out, F3.out, XRow.nil _ _, OkX.nil, fun _ => rfl, fun e => absurd e Hq.out, fun _ => by rw [Hd0.out, Hd1.out]; exact noatom_grp2 (nogrp_of (Hd3.out.2 Hq.out))⟩
 subst hq
 obtain ⟨l, hal, hys⟩ := Hd3.out.1 rfl
 have Hal := Lib.hid hal
 have Hys := Lib.hid hys
 clear hal hys Hd3
 go_wp2_with fail
 (with_reducible refine (lookz_any H3.out _ (k3) (by omega) (by omega)).mono ?_)
 rintro e w4 ⟨rfl, hb⟩
 have Hx4 := Lib.hid (Hx3.out.below hb)
 have F4 := Lib.hid (F3.out.then (Fr.of_below hb))
 have h4 := H3.out.below hb
 clear hb c03 c13 c23 f13
 obtain ⟨pb4, cap4, -, c04, c14, c24, f14⟩ := h4.cells
 have H4 := Lib.hid h4
 obtain ⟨d, hd⟩ : ∃ c, nx (xs.drop (k3)) = c := ⟨_, rfl⟩
 rw [hd]
 have hbd := nx_le (xs.drop (k3))
 rw [hd] at hbd
 obtain ⟨hbd1, hbd2⟩ := hbd
 obtain ⟨nd, hnd⟩ : ∃ n : Int, ((nl (xs.drop (k3)) : Nat) : Int) = n := ⟨_, rfl⟩
 rw [hnd]
 have Hd := Lib.hid hd
 have Hnd := Lib.hid hnd
 clear h4 hd hnd
 by_cases e41 : d = 41
 case neg =>
  have n41 : (d != 41) = true := by simpa using e41
  go_wp2_with fail
  (with_reducible refine (wrongz_any H4.out _ (k3) (by omega) (by omega)).mono ?_)
  rintro e wx ⟨rfl, qx, hq, hx, hf⟩
  have Hx := Lib.hid (And.intro hq (And.intro hx (F4.out.then hf)))
  clear hq hx hf c04 c14 c24 f14
  go_wp2_with fail
  go_ret
  exact ⟨none, 0, [], _, _, rfl, Hx.out.2.1, Hx.out.2.2, XRow.nil _ _, OkX.nil, fun _ => rfl, fun e => absurd e Hx.out.1, fun _ => by rw [Hd0.out, Hd1.out]; exact noatom_grp2 (nogrp_end Hal.out (by rw [Hd.out]; exact e41))⟩
 subst e41
 have hd := nx_drop Hd.out (by omega) (by omega)
 have hk4 : k3 + 1 ≤ xs.length := by have := hd.1; omega
 have hde := hd.2.2
 have hal := Hal.out
 have hys := Hys.out
 rw [hde] at hal
 have Hg := Lib.hid (show GrpG xs k (k3 + 1) ys from ⟨l, .inr ⟨by rw [Hd0.out, Hd1.out]; rfl, hal⟩, hys⟩)
 have Hz := Lib.hid (H4.out.setz (z := (k3 : Int) + 1) (m := k3 + 1) (by omega) (by omega))
 have fz := Fr.set rb 1 w4 (.int .i64 ((k3 : Int) + 1))
 have Fz := Lib.hid (F4.out.then fz)
 have Hxz := Lib.hid (Hx4.out.rd fz H4.out.typed)
 clear hd hde hal hys fz
 go_wp2_with fail
 go_ret
 exact ⟨A, q, ys, k3 + 1, 0, rfl, Hz.out, Fz.out, Hxz.out, Hok3.out, fun e => absurd rfl e, fun _ => Hg.out, fun e => absurd rfl e⟩
def badL : List UInt8 := [42, 43, 63, 123, 125, 93, 41, 124]
def rptL : List UInt8 := [42, 43, 63, 123]
theorem isIn_bad (c : Int) : isIn badL c = badB c := by
 rw [Bool.eq_iff_iff]
 simp only [isIn, badL, badB, rptB, List.any_cons, List.any_nil, Bool.or_eq_true, decide_eq_true_eq, Bool.or_false]
 simp only [UInt8.toNat_ofNat]
 omega
theorem isIn_rpt (c : Int) : isIn rptL c = rptB c := by
 rw [Bool.eq_iff_iff]
 simp only [isIn, rptL, rptB, List.any_cons, List.any_nil, Bool.or_eq_true, decide_eq_true_eq, Bool.or_false]
 simp only [UInt8.toNat_ofNat]
 omega
theorem is_bad (c : Int) (w : World) : Calls Tryz.prog 109 #[.string ⟨#[42, 43, 63, 123, 125, 93, 41, 124]⟩, .int .i32 c] w fun e w' => IsInP badL c w e w' := is_any ⟨#[42, 43, 63, 123, 125, 93, 41, 124]⟩ (by decide) c w
theorem is_rpt (c : Int) (w : World) : Calls Tryz.prog 109 #[.string ⟨#[42, 43, 63, 123]⟩, .int .i32 c] w fun e w' => IsInP rptL c w e w' := is_any ⟨#[42, 43, 63, 123]⟩ (by decide) c w
theorem OkX.one (k c : Int) : OkX [oneX k c] := by intro x hx; simp at hx; subst hx; simp [oneX]
set_option maxHeartbeats 16000000 in
set_option maxRecDepth 100000 in
theorem ratom_any {xs : List UInt8} {rb k : Nat} {w : World} (h : Rd xs rb w k 0) (hk : k ≤ xs.length + 1) (hl : xs.length ≤ 400) (ha : AltAt xs (k + 1)) : Calls Tryz.prog 106 #[.pointer (some ⟨rb, 0, none⟩)] w fun e w' => AtomP xs rb k w e w' := by
 have H := Lib.hid h
 have Ha := Lib.hid ha
 have F0 := Lib.hid (Fr.refl rb w)
 obtain ⟨pb, cap, -, c0, c1, c2, f1⟩ := h.cells
 clear h ha
 go_enter Tryz.func106, Tryz.ntmps106
 go_wp2_with fail
 (with_reducible refine (lookz_any H.out _ (k) (by omega) (by omega)).mono ?_)
 rintro e w1 ⟨rfl, hb⟩
 have F1 := Lib.hid (F0.out.then (Fr.of_below hb))
 have h1 := H.out.below hb
 clear hb c0 c1 c2 f1
 obtain ⟨pb1, cap1, -, c01, c11, c21, f11⟩ := h1.cells
 have H1 := Lib.hid h1
 obtain ⟨c, hc⟩ : ∃ c, nx (xs.drop (k)) = c := ⟨_, rfl⟩
 rw [hc]
 have hbc := nx_le (xs.drop (k))
 rw [hc] at hbc
 obtain ⟨hbc1, hbc2⟩ := hbc
 obtain ⟨nc, hnc⟩ : ∃ n : Int, ((nl (xs.drop (k)) : Nat) : Int) = n := ⟨_, rfl⟩
 rw [hnc]
 have Hc := Lib.hid hc
 have Hnc := Lib.hid hnc
 clear h1 hc hnc
 by_cases e1 : c = -1
 ·subst e1
  go_wp2_with fail
  (with_reducible refine (wrongz_any H1.out _ (k) (by omega) (by omega)).mono ?_)
  rintro e wx ⟨rfl, qx, hq, hx, hf⟩
  have Hx := Lib.hid (And.intro hq (And.intro hx (F1.out.then hf)))
  clear hq hx hf c01 c11 c21 f11
  go_wp2_with fail
  go_ret
  exact ⟨none, 0, [], _, _, rfl, Hx.out.2.1, Hx.out.2.2, XRow.nil _ _, OkX.nil, fun _ => by simp, fun e => absurd e Hx.out.1, fun _ => noatom_bad (.inl (by rw [Hc.out]; decide))⟩
 have n1 : (c == -1) = false := by simpa using e1
 by_cases e2 : c = -2
 ·subst e2
  go_wp2_with fail
  (with_reducible refine (wrongz_any H1.out _ (k) (by omega) (by omega)).mono ?_)
  rintro e wx ⟨rfl, qx, hq, hx, hf⟩
  have Hx := Lib.hid (And.intro hq (And.intro hx (F1.out.then hf)))
  clear hq hx hf c01 c11 c21 f11
  go_wp2_with fail
  go_ret
  exact ⟨none, 0, [], _, _, rfl, Hx.out.2.1, Hx.out.2.2, XRow.nil _ _, OkX.nil, fun _ => by simp, fun e => absurd e Hx.out.1, fun _ => noatom_bad (.inl (by rw [Hc.out]; decide))⟩
 have n2 : (c == -2) = false := by simpa using e2
 have hlt := nx_drop_lt (xs := xs) (k := k) (by rw [Hc.out]; omega)
 have hnc : 1 ≤ nc ∧ (k : Int) + nc ≤ xs.length := by have := Hnc.out; omega
 obtain ⟨hnc1, hnc2⟩ := hnc
 have Hlt := Lib.hid hlt
 clear hlt
 go_wp2_with fail
 (with_reducible refine (is_bad c w1).mono ?_)
 rintro e w' ⟨rfl, rfl⟩
 rw [isIn_bad]
 obtain ⟨b, hb⟩ : ∃ b, badB c = b := ⟨_, rfl⟩
 rw [hb]
 have Hb := Lib.hid hb
 clear hb
 cases b
 case true =>
  go_wp2_with fail
  (with_reducible refine (wrongz_any H1.out _ (k) (by omega) (by omega)).mono ?_)
  rintro e wx ⟨rfl, qx, hq, hx, hf⟩
  have Hx := Lib.hid (And.intro hq (And.intro hx (F1.out.then hf)))
  clear hq hx hf c01 c11 c21 f11
  go_wp2_with fail
  go_ret
  exact ⟨none, 0, [], _, _, rfl, Hx.out.2.1, Hx.out.2.2, XRow.nil _ _, OkX.nil, fun _ => by simp, fun e => absurd e Hx.out.1, fun _ => noatom_bad (.inr (by rw [Hc.out]; exact Hb.out))⟩
 obtain ⟨wz, hwz⟩ : ∃ wz, w1.setCell ⟨rb, 1, none⟩ (.int .i64 ((k : Int) + nc)) = wz := ⟨_, rfl⟩
 obtain ⟨kk, hkke⟩ : ∃ kk, k + nl (xs.drop k) = kk := ⟨_, rfl⟩
 have hkk3 : (kk : Int) = k + nc := by have := Hnc.out; omega
 have hkk : kk ≤ xs.length := by omega
 have hkk1 : k + 1 ≤ kk := by omega
 have hz := H1.out.setz (z := (k : Int) + nc) (m := kk) (by omega) (by omega)
 have fz := F1.out.then (Fr.set rb 1 w1 (.int .i64 ((k : Int) + nc)))
 rw [hwz] at hz fz
 have Hz := Lib.hid hz
 have Fz := Lib.hid fz
 have Hwz := Lib.hid hwz
 obtain ⟨pbz, capz, -, c0z, c1z, c2z, f1z⟩ := hz.cells
 clear hz fz hwz
 by_cases e46 : c = 46
 ·subst e46
  have hd := nx_drop Hc.out (by omega) (by omega)
  obtain rfl : kk = k + 1 := by have := hd.2.1; omega
  obtain rfl : nc = 1 := by have h1 := hd.2.1; have := Hnc.out; omega
  have Hd := Lib.hid (show xs.drop k = 46 :: xs.drop (k + 1) from hd.2.2)
  clear hd hkk3 hkke
  go_wp2_with fail
  rw [Hwz.out]
  (with_reducible refine (one_any 3 wz).mono ?_)
  rintro e w2 ⟨A, n, q, rfl, hb2, hx2⟩
  obtain rfl : n = [oneX 3 0].length := by obtain ⟨_, _, e, _⟩ := hx2.form; exact (Value.slice.inj e).2.1
  have Hb2 := Lib.hid hb2
  have Hx2 := Lib.hid hx2
  clear hb2 hx2
  go_wp2_with fail
  go_ret
  exact ⟨A, q, [oneX 3 0], k + 1, 0, rfl, Hz.out.below Hb2.out, Fz.out.then (Fr.of_below Hb2.out), Hx2.out.low (Nat.zero_le _), OkX.one _ _, fun e => absurd rfl e, fun _ => ⟨.any, by rw [Hd.out]; exact Atom.any, rfl⟩, fun e => absurd rfl e⟩
 have n46 : (c == 46) = false := by simpa using e46
 by_cases e94 : c = 94
 ·subst e94
  have hd := nx_drop Hc.out (by omega) (by omega)
  obtain rfl : kk = k + 1 := by have := hd.2.1; omega
  obtain rfl : nc = 1 := by have h1 := hd.2.1; have := Hnc.out; omega
  have Hd := Lib.hid (show xs.drop k = 94 :: xs.drop (k + 1) from hd.2.2)
  clear hd hkk3 hkke
  go_wp2_with fail
  rw [Hwz.out]
  (with_reducible refine (one_any 5 wz).mono ?_)
  rintro e w2 ⟨A, n, q, rfl, hb2, hx2⟩
  obtain rfl : n = [oneX 5 0].length := by obtain ⟨_, _, e, _⟩ := hx2.form; exact (Value.slice.inj e).2.1
  have Hb2 := Lib.hid hb2
  have Hx2 := Lib.hid hx2
  clear hb2 hx2
  go_wp2_with fail
  go_ret
  exact ⟨A, q, [oneX 5 0], k + 1, 0, rfl, Hz.out.below Hb2.out, Fz.out.then (Fr.of_below Hb2.out), Hx2.out.low (Nat.zero_le _), OkX.one _ _, fun e => absurd rfl e, fun _ => ⟨.beg, by rw [Hd.out]; exact Atom.beg, rfl⟩, fun e => absurd rfl e⟩
 have n94 : (c == 94) = false := by simpa using e94
 by_cases e36 : c = 36
 ·subst e36
  have hd := nx_drop Hc.out (by omega) (by omega)
  obtain rfl : kk = k + 1 := by have := hd.2.1; omega
  obtain rfl : nc = 1 := by have h1 := hd.2.1; have := Hnc.out; omega
  have Hd := Lib.hid (show xs.drop k = 36 :: xs.drop (k + 1) from hd.2.2)
  clear hd hkk3 hkke
  go_wp2_with fail
  rw [Hwz.out]
  (with_reducible refine (one_any 6 wz).mono ?_)
  rintro e w2 ⟨A, n, q, rfl, hb2, hx2⟩
  obtain rfl : n = [oneX 6 0].length := by obtain ⟨_, _, e, _⟩ := hx2.form; exact (Value.slice.inj e).2.1
  have Hb2 := Lib.hid hb2
  have Hx2 := Lib.hid hx2
  clear hb2 hx2
  go_wp2_with fail
  go_ret
  exact ⟨A, q, [oneX 6 0], k + 1, 0, rfl, Hz.out.below Hb2.out, Fz.out.then (Fr.of_below Hb2.out), Hx2.out.low (Nat.zero_le _), OkX.one _ _, fun e => absurd rfl e, fun _ => ⟨.fin, by rw [Hd.out]; exact Atom.fin, rfl⟩, fun e => absurd rfl e⟩
 have n36 : (c == 36) = false := by simpa using e36
 by_cases e40 : c = 40
 ·subst e40
  have hd := nx_drop Hc.out (by omega) (by omega)
  obtain rfl : kk = k + 1 := by have := hd.2.1; omega
  obtain rfl : nc = 1 := by have h1 := hd.2.1; have := Hnc.out; omega
  have Hd := Lib.hid (show xs.drop k = 40 :: xs.drop (k + 1) from hd.2.2)
  clear hd hkk3 hkke
  go_wp2_with fail
  rw [Hwz.out]
  (with_reducible refine (rgroup_any (k := k + 1) Hz.out (by omega) (by omega) (Ha.out)).mono ?_)
  rintro e w2 ⟨A, q, ys, k2, c2, rfl, h2, hf2, hx2, hok, hn, hg⟩
  have Hok := Lib.hid hok
  have Hn := Lib.hid hn
  have Hneg : Hid (c2 ≠ 0 → NoAtom (xs.drop k)) := Lib.hid (fun h0 => by rw [Hd.out]; exact hg.2 h0)
  have Hg : Hid (c2 = 0 → ∃ r, Atom (xs.drop k) r (xs.drop k2) ∧ ys = r.flat 0) := Lib.hid (fun h0 => by
   obtain ⟨l, h | h, hys⟩ := hg.1 h0
   ·exact ⟨_, by rw [Hd.out]; exact Atom.group h.1 h.2, hys⟩
   ·exact ⟨_, by rw [Hd.out, h.1]; exact Atom.group2 h.2, hys⟩)
  have H2 := Lib.hid h2
  have F2 := Lib.hid (Fz.out.then hf2)
  have Hx2 := Lib.hid hx2
  clear h2 hf2 hx2 hok hn hg
  go_wp2_with fail
  go_ret
  exact ⟨A, q, ys, k2, c2, rfl, H2.out, F2.out, Hx2.out, Hok.out, fun e => by rw [Hn.out e]; simp, Hg.out, Hneg.out⟩
 have n40 : (c == 40) = false := by simpa using e40
 by_cases e91 : c = 91
 ·subst e91
  have hd := nx_drop Hc.out (by omega) (by omega)
  obtain rfl : kk = k + 1 := by have := hd.2.1; omega
  obtain rfl : nc = 1 := by have h1 := hd.2.1; have := Hnc.out; omega
  have Hd := Lib.hid (show xs.drop k = 91 :: xs.drop (k + 1) from hd.2.2)
  clear hd hkk3 hkke
  go_wp2_with fail
  rw [Hwz.out]
  (with_reducible refine (rclass_any (k := k + 1) Hz.out (by omega) (by omega)).mono ?_)
  rintro e w2 ⟨A, q, ys, k2, c2, rfl, h2, hf2, hx2, hn, hg⟩
  have Hn := Lib.hid hn
  have Hneg : Hid (c2 ≠ 0 → NoAtom (xs.drop k)) := Lib.hid (fun h0 => by rw [Hd.out]; exact hg.2 h0)
  have Hg : Hid (c2 = 0 → ∃ r, Atom (xs.drop k) r (xs.drop k2) ∧ ys = r.flat 0) := Lib.hid (fun h0 => by
   obtain ⟨cs, hys, L, h | h⟩ := hg.1 h0
   ·exact ⟨.set cs, by rw [Hd.out]; exact Atom.cls h.1 h.2.1 h.2.2, by rw [hys]; rfl⟩
   ·exact ⟨.set cs, by rw [Hd.out, h.1]; exact Atom.classN h.2.1 h.2.2, by rw [hys]; rfl⟩)
  have Hok : Hid (OkX ys) := Lib.hid (by
   by_cases h0 : c2 = 0
   ·obtain ⟨cs, hys, _⟩ := hg.1 h0
    rw [hys]; exact OkX.flat (.set cs)
   ·rw [hn h0]; exact OkX.nil)
  have H2 := Lib.hid h2
  have F2 := Lib.hid (Fz.out.then hf2)
  have Hx2 := Lib.hid hx2
  clear h2 hf2 hx2 hn hg
  go_wp2_with fail
  go_ret
  exact ⟨A, q, ys, k2, c2, rfl, H2.out, F2.out, Hx2.out, Hok.out, fun e => by rw [Hn.out e]; simp, Hg.out, Hneg.out⟩
 have n91 : (c == 91) = false := by simpa using e91
 by_cases e92 : c = 92
 ·subst e92
  have hd := nx_drop Hc.out (by omega) (by omega)
  obtain rfl : kk = k + 1 := by have := hd.2.1; omega
  obtain rfl : nc = 1 := by have h1 := hd.2.1; have := Hnc.out; omega
  have Hd := Lib.hid (show xs.drop k = 92 :: xs.drop (k + 1) from hd.2.2)
  clear hd hkk3 hkke
  go_wp2_with fail
  rw [Hwz.out]
  (with_reducible refine (rescape_any (k := k + 1) Hz.out (by omega) (by omega)).mono ?_)
  rintro e w3 ⟨x, A, n, q, b, k3, q3, rfl, h3, hf3, ⟨hx1, hx2⟩, hb, hnb, hok⟩
  have H3 := Lib.hid h3
  have F3 := Lib.hid (Fz.out.then hf3)
  have Hb3 := Lib.hid hb
  have Hok := Lib.hid hok
  have hk3 := h3.le
  have Hnb := Lib.hid hnb
  clear h3 hf3 hb hok hnb
  cases b
  case true =>
   obtain rfl := Hb3.out rfl
   obtain ⟨L, hL, hr⟩ : ∃ L, EscS (xs.drop (k + 1)) L (xs.drop k3) ∧ Rns w3 0 (.slice A n q) (flatS L) := by
    rcases Hok.out.1 rfl with ⟨h, _⟩ | ⟨_, h⟩
    ·cases h
    ·exact h
   have hspl := hL.ok
   have HL := Lib.hid hL
   have Hr := Lib.hid hr
   have Hsp := Lib.hid hspl.1
   have hsl := hspl.2
   clear hL hr hspl
   go_wp2_with fail
   (with_reducible refine (rranges_any Hr.out (by omega) Hsp.out false).mono ?_)
   rintro e w5 ⟨cs, rfl, hset, hb5⟩
   have Hset := Lib.hid (show SetOf (inSp L) cs from hset.wk (fun c _ => by unfold butP; simp))
   have Hb5 := Lib.hid hb5
   clear hset hb5
   go_wp2_with fail
   go_ret
   exact ⟨some ⟨w5.heap.size, 0, none⟩, 1, setX cs, k3, 0, rfl, (H3.out.below Hb5.out).below (alloc_below _ _), (F3.out.then (Fr.of_below Hb5.out)).then (Fr.of_below (alloc_below _ _)), exC_row (g := 0), OkX.flat (.set cs), fun e => absurd rfl e, fun _ => ⟨.set cs, by rw [Hd.out]; exact Atom.escS HL.out Hset.out, rfl⟩, fun e => absurd rfl e⟩
  obtain ⟨rfl, rfl, rfl⟩ := Hnb.out rfl
  go_wp2_with fail
  (with_reducible refine (letter_any x w3).mono ?_)
  rintro e w5 ⟨A5, n5, q5, rfl, hb5, hx5⟩
  obtain rfl : n5 = [oneX 2 x].length := by obtain ⟨_, _, e, _⟩ := hx5.form; exact (Value.slice.inj e).2.1
  have Hb5 := Lib.hid hb5
  have Hx5 := Lib.hid hx5
  clear hb5 hx5
  go_wp2_with fail
  go_ret
  refine ⟨A5, q5, [oneX 2 x], k3, q3, rfl, H3.out.below Hb5.out, F3.out.then (Fr.of_below Hb5.out), Hx5.out.low (Nat.zero_le _), OkX.one _ _, fun _ => by simp, fun h0 => ⟨.chr x, ?_, rfl⟩, fun h0 => by rw [Hd.out]; exact noatom_esc (Hok.out.2 h0).1 (Hok.out.2 h0).2⟩
  rcases Hok.out.1 h0 with ⟨_, h⟩ | ⟨h, _⟩
  ·rw [Hd.out]; exact Atom.escC h
  ·cases h
 have n92 : (c == 92) = false := by simpa using e92
 have Hchr := Lib.hid (show Atom (xs.drop k) (.chr c) (xs.drop kk) from by
  have hs := Atom.chr (xs := xs.drop k) (by rw [Hc.out]; omega) (by rw [Hc.out]; exact Hb.out) (by rw [Hc.out]; exact ⟨e46, e94, e36, e40, e91, e92⟩)
  rw [List.drop_drop, hkke, Hc.out] at hs; exact hs)
 clear e46 e94 e36 e40 e91 e92 e1 e2 hkke
 go_wp2_with fail
 rw [Hwz.out]
 (with_reducible refine (lookz_any Hz.out _ k rfl (by omega)).mono ?_)
 rintro e w2 ⟨rfl, hb2⟩
 rw [Hc.out]
 generalize ((nl (xs.drop k) : Nat) : Int) = nd
 have Hb2 := Lib.hid hb2
 clear hb2 c0z c1z c2z f1z
 go_wp2_with fail
 (with_reducible refine (letter_any c w2).mono ?_)
 rintro e w5 ⟨A5, n5, q5, rfl, hb5, hx5⟩
 obtain rfl : n5 = [oneX 2 c].length := by obtain ⟨_, _, e, _⟩ := hx5.form; exact (Value.slice.inj e).2.1
 have Hb5 := Lib.hid hb5
 have Hx5 := Lib.hid hx5
 clear hb5 hx5
 go_wp2_with fail
 go_ret
 exact ⟨A5, q5, [oneX 2 c], kk, 0, rfl, (Hz.out.below Hb2.out).below Hb5.out, (Fz.out.then (Fr.of_below Hb2.out)).then (Fr.of_below Hb5.out), Hx5.out.low (Nat.zero_le _), OkX.one _ _, fun _ => by simp, fun _ => ⟨.chr c, Hchr.out, rfl⟩, fun e => absurd rfl e⟩
end Go.Proofs.YthhnmpkgleelfaaGreatDoor
