import Derived.Test.YthhnmpkgleelfaaGreatDoorM19
import Derived.Deep.Cut
import Derived.Deep.CutBlock
set_option linter.unusedVariables false
set_option linter.unusedSimpArgs false
namespace Go.Proofs.YthhnmpkgleelfaaGreatDoor
open Go.RowKit
def PieceP (xs : List UInt8) (rb k : Nat) (w : World) (e : Ending) (w' : World) : Prop := ∃ (A : Option Addr) (q : Nat) (ys : List Ex) (k' : Nat) (c : Int), e = .returned (.slice A ys.length q) ∧ Rd xs rb w' k' c ∧ Fr rb w w' ∧ XRow w' 0 (.slice A ys.length q) ys ∧ OkX ys ∧ ys.length ≤ 1000 ∧ (c = 0 → ∃ r, Piece (xs.drop k) r (xs.drop k') ∧ ys = r.flat 0) ∧ (c ≠ 0 → NoPiece (xs.drop k))
set_option maxHeartbeats 32000000 in
set_option maxRecDepth 100000 in
theorem rpiece_any {xs : List UInt8} {rb k : Nat} {w : World} (h : Rd xs rb w k 0) (hk : k ≤ xs.length + 1) (hl : xs.length ≤ 400) (ha : AltAt xs (k + 1)) : Calls Tryz.prog 99 #[.pointer (some ⟨rb, 0, none⟩)] w fun e w' => PieceP xs rb k w e w' := by
 have H := Lib.hid h
 have F0 := Lib.hid (Fr.refl rb w)
 obtain ⟨pb, cap, -, c0, c1, c2, f1⟩ := h.cells
 clear h
 go_enter Tryz.func99, Tryz.ntmps99
 go_wp2_with fail
 (with_reducible refine (lookz_any H.out _ (k) (by omega) (by omega)).mono ?_)
 rintro e w1 ⟨rfl, hb⟩
 have F1 := Lib.hid (F0.out.then (Fr.of_below hb))
 have h1 := H.out.below hb
 clear hb c0 c1 c2 f1
 obtain ⟨pb1, cap1, -, c01, c11, c21, f11⟩ := h1.cells
 have H1 := Lib.hid h1
 obtain ⟨c, hc⟩ : ∃ c, nx (xs.drop (k)) = c := ⟨_, rfl⟩
 rw [hc]
 have hbc := nx_le (xs.drop (k))
 rw [hc] at hbc
 obtain ⟨hbc1, hbc2⟩ := hbc
 obtain ⟨nc, hnc⟩ : ∃ n : Int, ((nl (xs.drop (k)) : Nat) : Int) = n := ⟨_, rfl⟩
 rw [hnc]
 have Hc := Lib.hid hc
 have Hnc := Lib.hid hnc
 clear h1 hc hnc
 go_wp2_with fail
 (with_reducible refine (ratom_any H1.out hk hl ha).mono ?_)
 rintro e w2 ⟨A, q, ys, k2, c2, rfl, h2, hf2, hx2, hok2, hn2, hr2⟩
 have H2 := Lib.hid h2
 have F2 := Lib.hid (F1.out.then hf2)
 have Hx2 := Lib.hid hx2
 have Hok2 := Lib.hid hok2
 have Hn2 := Lib.hid hn2
 have Hr2 := Lib.hid hr2
 have hk2 := h2.le
 clear h2 hf2 hx2 hok2 hn2 hr2 c01 c11 c21 f11
 go_wp2_with fail
 (with_reducible refine (good_any H2.out).mono ?_)
 rintro e w' ⟨rfl, rfl⟩
 by_cases hq : c2 = 0
 case neg =>
  have hq' : decide (c2 = 0) = false := by simpa using hq
  have Hq := Lib.hid hq
  clear hq
  go_wp2_with fail
  go_ret
  exact ⟨A, q, ys, k2, c2, rfl, H2.out, F2.out, Hx2.out, Hok2.out, by have := Hn2.out Hq.out; omega, fun e => absurd e Hq.out, fun h => nopiece_atom (Hr2.out.2 h)⟩
 subst hq
 obtain ⟨r, hat, hys⟩ := Hr2.out.1 rfl
 have hyl : ys.length ≤ 800 := by have h1 := hat.size; rw [hys, r.flat_len]; simp only [List.length_drop] at h1; omega
 have H0 := Lib.hid (show ys ≠ [] by intro e; have h1 := congrArg List.length e; rw [hys, r.flat_len] at h1; have := r.size_pos; simp at h1; omega)
 have Hat := Lib.hid hat
 have Hys := Lib.hid hys
 have Hbd := Lib.hid (Hok2.out.bd (by omega))
 clear hat hys Hr2 Hn2
 obtain ⟨pb2, cap2, -, c02, c12, c22, f12⟩ := H2.out.cells
 go_wp2_with fail
 (with_reducible refine (lookz_any H2.out _ (k2) (by omega) (by omega)).mono ?_)
 rintro e w3 ⟨rfl, hb⟩
 have Hx3 := Lib.hid (Hx2.out.below hb)
 have F3 := Lib.hid (F2.out.then (Fr.of_below hb))
 have h3 := H2.out.below hb
 clear hb c02 c12 c22 f12
 obtain ⟨pb3, cap3, -, c03, c13, c23, f13⟩ := h3.cells
 have H3 := Lib.hid h3
 obtain ⟨d, hd⟩ : ∃ c, nx (xs.drop (k2)) = c := ⟨_, rfl⟩
 rw [hd]
 have hbd := nx_le (xs.drop (k2))
 rw [hd] at hbd
 obtain ⟨hbd1, hbd2⟩ := hbd
 obtain ⟨nd, hnd⟩ : ∃ n : Int, ((nl (xs.drop (k2)) : Nat) : Int) = n := ⟨_, rfl⟩
 rw [hnd]
 have Hd := Lib.hid hd
 have Hnd := Lib.hid hnd
 clear h3 hd hnd
 by_cases a94 : c = 94
 ·subst a94
  go_wp2_with fail
  (with_reducible refine (good_any H3.out).mono ?_)
  rintro e w' ⟨rfl, rfl⟩
  go_wp2_with fail
  (with_reducible refine (lookz_any H3.out _ (k2) (by omega) (by omega)).mono ?_)
  rintro e wt ⟨rfl, hb⟩
  have Hxt := Lib.hid (Hx3.out.below hb)
  have Ft := Lib.hid (F3.out.then (Fr.of_below hb))
  have ht := H3.out.below hb
  clear hb c03 c13 c23 f13
  obtain ⟨pbt, capt, -, c0t, c1t, c2t, f1t⟩ := ht.cells
  have Ht := Lib.hid ht
  obtain ⟨g, hg⟩ : ∃ c, nx (xs.drop (k2)) = c := ⟨_, rfl⟩
  rw [hg]
  have hbg := nx_le (xs.drop (k2))
  rw [hg] at hbg
  obtain ⟨hbg1, hbg2⟩ := hbg
  obtain ⟨ng, hng⟩ : ∃ n : Int, ((nl (xs.drop (k2)) : Nat) : Int) = n := ⟨_, rfl⟩
  rw [hng]
  have Hg := Lib.hid hg
  have Hng := Lib.hid hng
  clear ht hg hng
  go_wp2_with fail
  (with_reducible refine (is_rpt g wt).mono ?_)
  rintro e w' ⟨rfl, rfl⟩
  rw [isIn_rpt]
  obtain ⟨b, hb⟩ : ∃ b, rptB g = b := ⟨_, rfl⟩
  rw [hb]
  have Hb := Lib.hid (show rptB (nx (xs.drop (k2))) = b by rw [Hg.out]; exact hb)
  clear hb
  cases b
  case true =>
   go_wp2_with fail
   (with_reducible refine (wrongz_any Ht.out _ (k2) (by omega) (by omega)).mono ?_)
   rintro e wx ⟨rfl, qx, hq, hx, hf⟩
   have hfx := hf
   have Hx := Lib.hid (And.intro hq (And.intro hx (Ft.out.then hf)))
   clear hq hx hf c0t c1t c2t f1t
   go_wp2_with fail
   go_ret
   exact ⟨A, q, ys, _, _, rfl, Hx.out.2.1, Hx.out.2.2, Hxt.out.rd ((Fr.of_below (Below.refl _ _)).then hfx) Ht.out.typed, Hok2.out, by omega, fun e => absurd e Hx.out.1, fun _ => nopiece_bare (.inl Hc.out) Hat.out Hb.out⟩
  go_wp2_with fail
  go_ret
  exact ⟨A, q, ys, k2, 0, rfl, Ht.out, Ft.out, Hxt.out, Hok2.out, by omega, fun _ => ⟨r, Piece.bare Hat.out Hb.out, Hys.out⟩, fun e => absurd rfl e⟩
 have m94 : (c != 94) = true := by simpa using a94
 by_cases a36 : c = 36
 ·subst a36
  go_wp2_with fail
  (with_reducible refine (good_any H3.out).mono ?_)
  rintro e w' ⟨rfl, rfl⟩
  go_wp2_with fail
  (with_reducible refine (lookz_any H3.out _ (k2) (by omega) (by omega)).mono ?_)
  rintro e wt ⟨rfl, hb⟩
  have Hxt := Lib.hid (Hx3.out.below hb)
  have Ft := Lib.hid (F3.out.then (Fr.of_below hb))
  have ht := H3.out.below hb
  clear hb c03 c13 c23 f13
  obtain ⟨pbt, capt, -, c0t, c1t, c2t, f1t⟩ := ht.cells
  have Ht := Lib.hid ht
  obtain ⟨g, hg⟩ : ∃ c, nx (xs.drop (k2)) = c := ⟨_, rfl⟩
  rw [hg]
  have hbg := nx_le (xs.drop (k2))
  rw [hg] at hbg
  obtain ⟨hbg1, hbg2⟩ := hbg
  obtain ⟨ng, hng⟩ : ∃ n : Int, ((nl (xs.drop (k2)) : Nat) : Int) = n := ⟨_, rfl⟩
  rw [hng]
  have Hg := Lib.hid hg
  have Hng := Lib.hid hng
  clear ht hg hng
  go_wp2_with fail
  (with_reducible refine (is_rpt g wt).mono ?_)
  rintro e w' ⟨rfl, rfl⟩
  rw [isIn_rpt]
  obtain ⟨b, hb⟩ : ∃ b, rptB g = b := ⟨_, rfl⟩
  rw [hb]
  have Hb := Lib.hid (show rptB (nx (xs.drop (k2))) = b by rw [Hg.out]; exact hb)
  clear hb
  cases b
  case true =>
   go_wp2_with fail
   (with_reducible refine (wrongz_any Ht.out _ (k2) (by omega) (by omega)).mono ?_)
   rintro e wx ⟨rfl, qx, hq, hx, hf⟩
   have hfx := hf
   have Hx := Lib.hid (And.intro hq (And.intro hx (Ft.out.then hf)))
   clear hq hx hf c0t c1t c2t f1t
   go_wp2_with fail
   go_ret
   exact ⟨A, q, ys, _, _, rfl, Hx.out.2.1, Hx.out.2.2, Hxt.out.rd ((Fr.of_below (Below.refl _ _)).then hfx) Ht.out.typed, Hok2.out, by omega, fun e => absurd e Hx.out.1, fun _ => nopiece_bare (.inr Hc.out) Hat.out Hb.out⟩
  go_wp2_with fail
  go_ret
  exact ⟨A, q, ys, k2, 0, rfl, Ht.out, Ft.out, Hxt.out, Hok2.out, by omega, fun _ => ⟨r, Piece.bare Hat.out Hb.out, Hys.out⟩, fun e => absurd rfl e⟩
 have m36 : (c != 36) = true := by simpa using a36
 have Hna := Lib.hid (show nx (xs.drop k) ≠ 94 ∧ nx (xs.drop k) ≠ 36 by rw [Hc.out]; exact ⟨a94, a36⟩)
 clear a94 a36
 by_cases e42 : d = 42
 ·subst e42
  have hd := nx_drop Hd.out (by omega) (by omega)
  have hk3 : k2 + 1 ≤ xs.length := by have := hd.1; omega
  have Hdd := Lib.hid (show xs.drop k2 = 42 :: xs.drop (k2 + 1) from hd.2.2)
  clear hd
  obtain ⟨wz, hwz⟩ : ∃ wz, w3.setCell ⟨rb, 1, none⟩ (.int .i64 ((k2 : Int) + 1)) = wz := ⟨_, rfl⟩
  have hz := H3.out.setz (z := (k2 : Int) + 1) (m := k2 + 1) (by omega) (by omega)
  have fz2 := Fr.set rb 1 w3 (.int .i64 ((k2 : Int) + 1))
  rw [hwz] at hz fz2
  have fz := F3.out.then fz2
  have Hxz := Lib.hid (Hx3.out.rd fz2 H3.out.typed)
  have Hz := Lib.hid hz
  have Fz := Lib.hid fz
  have Hwz := Lib.hid hwz
  clear hz fz hwz fz2
  go_wp2_with fail
  rw [Hwz.out]
  (with_reducible refine (many_any Hxz.out H0.out Hbd.out (by omega) 0 (-1)).mono ?_)
  rintro e wm ⟨Am, nm, qm, rfl, hbm, hxm⟩
  obtain rfl : nm = (manyX ys 0 (-1)).length := by obtain ⟨_, _, e, _⟩ := hxm.form; exact (Value.slice.inj e).2.1
  have hml : (manyX ys 0 (-1)).length ≤ 900 := by simp [manyX]; omega
  have Hokm := Lib.hid (OkX.many (mn := 0) (mx := (-1)) Hok2.out)
  have Hm := Lib.hid (Hz.out.below hbm)
  have Fm := Lib.hid (Fz.out.then (Fr.of_below hbm))
  have Hxm := Lib.hid (hxm.low (Nat.zero_le _))
  have Hym := Lib.hid (show manyX ys 0 (-1) = (Rx.rep r 0 (-1)).flat 0 by rw [Hys.out, many_flat])
  clear hbm hxm c03 c13 c23 f13
  obtain ⟨pbm, capm, -, c0m, c1m, c2m, f1m⟩ := Hm.out.cells
  generalize manyX ys 0 (-1) = Y at *
  go_wp2_with fail
  (with_reducible refine (good_any Hm.out).mono ?_)
  rintro e w' ⟨rfl, rfl⟩
  go_wp2_with fail
  (with_reducible refine (lookz_any Hm.out _ (k2 + 1) (by omega) (by omega)).mono ?_)
  rintro e wt ⟨rfl, hb⟩
  have Hxt := Lib.hid (Hxm.out.below hb)
  have Ft := Lib.hid (Fm.out.then (Fr.of_below hb))
  have ht := Hm.out.below hb
  clear hb c0m c1m c2m f1m
  obtain ⟨pbt, capt, -, c0t, c1t, c2t, f1t⟩ := ht.cells
  have Ht := Lib.hid ht
  obtain ⟨g, hg⟩ : ∃ c, nx (xs.drop (k2 + 1)) = c := ⟨_, rfl⟩
  rw [hg]
  have hbg := nx_le (xs.drop (k2 + 1))
  rw [hg] at hbg
  obtain ⟨hbg1, hbg2⟩ := hbg
  obtain ⟨ng, hng⟩ : ∃ n : Int, ((nl (xs.drop (k2 + 1)) : Nat) : Int) = n := ⟨_, rfl⟩
  rw [hng]
  have Hg := Lib.hid hg
  have Hng := Lib.hid hng
  clear ht hg hng
  go_wp2_with fail
  (with_reducible refine (is_rpt g wt).mono ?_)
  rintro e w' ⟨rfl, rfl⟩
  rw [isIn_rpt]
  obtain ⟨b, hb⟩ : ∃ b, rptB g = b := ⟨_, rfl⟩
  rw [hb]
  have Hb := Lib.hid (show rptB (nx (xs.drop (k2 + 1))) = b by rw [Hg.out]; exact hb)
  clear hb
  cases b
  case true =>
   go_wp2_with fail
   (with_reducible refine (wrongz_any Ht.out _ (k2 + 1) (by omega) (by omega)).mono ?_)
   rintro e wx ⟨rfl, qx, hq, hx, hf⟩
   have hfx := hf
   have Hx := Lib.hid (And.intro hq (And.intro hx (Ft.out.then hf)))
   clear hq hx hf c0t c1t c2t f1t
   go_wp2_with fail
   go_ret
   exact ⟨Am, qm, Y, _, _, rfl, Hx.out.2.1, Hx.out.2.2, Hxt.out.rd ((Fr.of_below (Below.refl _ _)).then hfx) Ht.out.typed, Hokm.out, by omega, fun e => absurd e Hx.out.1, fun _ => nopiece_again Hat.out (show Quant (xs.drop k2) 0 (-1) (xs.drop (k2 + 1)) by rw [Hdd.out]; exact Quant.star) Hb.out⟩
  go_wp2_with fail
  go_ret
  exact ⟨Am, qm, Y, k2 + 1, 0, rfl, Ht.out, Ft.out, Hxt.out, Hokm.out, by omega, fun _ => ⟨.rep r 0 (-1), Piece.rep Hna.out Hat.out (by rw [Hdd.out]; exact Quant.star) Hb.out, Hym.out⟩, fun e => absurd rfl e⟩
 have n42 : (d == 42) = false := by simpa using e42
 by_cases e43 : d = 43
 ·subst e43
  have hd := nx_drop Hd.out (by omega) (by omega)
  have hk3 : k2 + 1 ≤ xs.length := by have := hd.1; omega
  have Hdd := Lib.hid (show xs.drop k2 = 43 :: xs.drop (k2 + 1) from hd.2.2)
  clear hd
  obtain ⟨wz, hwz⟩ : ∃ wz, w3.setCell ⟨rb, 1, none⟩ (.int .i64 ((k2 : Int) + 1)) = wz := ⟨_, rfl⟩
  have hz := H3.out.setz (z := (k2 : Int) + 1) (m := k2 + 1) (by omega) (by omega)
  have fz2 := Fr.set rb 1 w3 (.int .i64 ((k2 : Int) + 1))
  rw [hwz] at hz fz2
  have fz := F3.out.then fz2
  have Hxz := Lib.hid (Hx3.out.rd fz2 H3.out.typed)
  have Hz := Lib.hid hz
  have Fz := Lib.hid fz
  have Hwz := Lib.hid hwz
  clear hz fz hwz fz2
  go_wp2_with fail
  rw [Hwz.out]
  (with_reducible refine (many_any Hxz.out H0.out Hbd.out (by omega) 1 (-1)).mono ?_)
  rintro e wm ⟨Am, nm, qm, rfl, hbm, hxm⟩
  obtain rfl : nm = (manyX ys 1 (-1)).length := by obtain ⟨_, _, e, _⟩ := hxm.form; exact (Value.slice.inj e).2.1
  have hml : (manyX ys 1 (-1)).length ≤ 900 := by simp [manyX]; omega
  have Hokm := Lib.hid (OkX.many (mn := 1) (mx := (-1)) Hok2.out)
  have Hm := Lib.hid (Hz.out.below hbm)
  have Fm := Lib.hid (Fz.out.then (Fr.of_below hbm))
  have Hxm := Lib.hid (hxm.low (Nat.zero_le _))
  have Hym := Lib.hid (show manyX ys 1 (-1) = (Rx.rep r 1 (-1)).flat 0 by rw [Hys.out, many_flat])
  clear hbm hxm c03 c13 c23 f13
  obtain ⟨pbm, capm, -, c0m, c1m, c2m, f1m⟩ := Hm.out.cells
  generalize manyX ys 1 (-1) = Y at *
  go_wp2_with fail
  (with_reducible refine (good_any Hm.out).mono ?_)
  rintro e w' ⟨rfl, rfl⟩
  go_wp2_with fail
  (with_reducible refine (lookz_any Hm.out _ (k2 + 1) (by omega) (by omega)).mono ?_)
  rintro e wt ⟨rfl, hb⟩
  have Hxt := Lib.hid (Hxm.out.below hb)
  have Ft := Lib.hid (Fm.out.then (Fr.of_below hb))
  have ht := Hm.out.below hb
  clear hb c0m c1m c2m f1m
  obtain ⟨pbt, capt, -, c0t, c1t, c2t, f1t⟩ := ht.cells
  have Ht := Lib.hid ht
  obtain ⟨g, hg⟩ : ∃ c, nx (xs.drop (k2 + 1)) = c := ⟨_, rfl⟩
  rw [hg]
  have hbg := nx_le (xs.drop (k2 + 1))
  rw [hg] at hbg
  obtain ⟨hbg1, hbg2⟩ := hbg
  obtain ⟨ng, hng⟩ : ∃ n : Int, ((nl (xs.drop (k2 + 1)) : Nat) : Int) = n := ⟨_, rfl⟩
  rw [hng]
  have Hg := Lib.hid hg
  have Hng := Lib.hid hng
  clear ht hg hng
  go_wp2_with fail
  (with_reducible refine (is_rpt g wt).mono ?_)
  rintro e w' ⟨rfl, rfl⟩
  rw [isIn_rpt]
  obtain ⟨b, hb⟩ : ∃ b, rptB g = b := ⟨_, rfl⟩
  rw [hb]
  have Hb := Lib.hid (show rptB (nx (xs.drop (k2 + 1))) = b by rw [Hg.out]; exact hb)
  clear hb
  cases b
  case true =>
   go_wp2_with fail
   (with_reducible refine (wrongz_any Ht.out _ (k2 + 1) (by omega) (by omega)).mono ?_)
   rintro e wx ⟨rfl, qx, hq, hx, hf⟩
   have hfx := hf
   have Hx := Lib.hid (And.intro hq (And.intro hx (Ft.out.then hf)))
   clear hq hx hf c0t c1t c2t f1t
   go_wp2_with fail
   go_ret
   exact ⟨Am, qm, Y, _, _, rfl, Hx.out.2.1, Hx.out.2.2, Hxt.out.rd ((Fr.of_below (Below.refl _ _)).then hfx) Ht.out.typed, Hokm.out, by omega, fun e => absurd e Hx.out.1, fun _ => nopiece_again Hat.out (show Quant (xs.drop k2) 1 (-1) (xs.drop (k2 + 1)) by rw [Hdd.out]; exact Quant.plus) Hb.out⟩
  go_wp2_with fail
  go_ret
  exact ⟨Am, qm, Y, k2 + 1, 0, rfl, Ht.out, Ft.out, Hxt.out, Hokm.out, by omega, fun _ => ⟨.rep r 1 (-1), Piece.rep Hna.out Hat.out (by rw [Hdd.out]; exact Quant.plus) Hb.out, Hym.out⟩, fun e => absurd rfl e⟩
 have n43 : (d == 43) = false := by simpa using e43
 by_cases e63 : d = 63
 ·subst e63
  have hd := nx_drop Hd.out (by omega) (by omega)
  have hk3 : k2 + 1 ≤ xs.length := by have := hd.1; omega
  have Hdd := Lib.hid (show xs.drop k2 = 63 :: xs.drop (k2 + 1) from hd.2.2)
  clear hd
  obtain ⟨wz, hwz⟩ : ∃ wz, w3.setCell ⟨rb, 1, none⟩ (.int .i64 ((k2 : Int) + 1)) = wz := ⟨_, rfl⟩
  have hz := H3.out.setz (z := (k2 : Int) + 1) (m := k2 + 1) (by omega) (by omega)
  have fz2 := Fr.set rb 1 w3 (.int .i64 ((k2 : Int) + 1))
  rw [hwz] at hz fz2
  have fz := F3.out.then fz2
  have Hxz := Lib.hid (Hx3.out.rd fz2 H3.out.typed)
  have Hz := Lib.hid hz
  have Fz := Lib.hid fz
  have Hwz := Lib.hid hwz
  clear hz fz hwz fz2
  go_wp2_with fail
  rw [Hwz.out]
  (with_reducible refine (many_any Hxz.out H0.out Hbd.out (by omega) 0 1).mono ?_)
  rintro e wm ⟨Am, nm, qm, rfl, hbm, hxm⟩
  obtain rfl : nm = (manyX ys 0 1).length := by obtain ⟨_, _, e, _⟩ := hxm.form; exact (Value.slice.inj e).2.1
  have hml : (manyX ys 0 1).length ≤ 900 := by simp [manyX]; omega
  have Hokm := Lib.hid (OkX.many (mn := 0) (mx := 1) Hok2.out)
  have Hm := Lib.hid (Hz.out.below hbm)
  have Fm := Lib.hid (Fz.out.then (Fr.of_below hbm))
  have Hxm := Lib.hid (hxm.low (Nat.zero_le _))
  have Hym := Lib.hid (show manyX ys 0 1 = (Rx.rep r 0 1).flat 0 by rw [Hys.out, many_flat])
  clear hbm hxm c03 c13 c23 f13
  obtain ⟨pbm, capm, -, c0m, c1m, c2m, f1m⟩ := Hm.out.cells
  generalize manyX ys 0 1 = Y at *
  go_wp2_with fail
  (with_reducible refine (good_any Hm.out).mono ?_)
  rintro e w' ⟨rfl, rfl⟩
  go_wp2_with fail
  (with_reducible refine (lookz_any Hm.out _ (k2 + 1) (by omega) (by omega)).mono ?_)
  rintro e wt ⟨rfl, hb⟩
  have Hxt := Lib.hid (Hxm.out.below hb)
  have Ft := Lib.hid (Fm.out.then (Fr.of_below hb))
  have ht := Hm.out.below hb
  clear hb c0m c1m c2m f1m
  obtain ⟨pbt, capt, -, c0t, c1t, c2t, f1t⟩ := ht.cells
  have Ht := Lib.hid ht
  obtain ⟨g, hg⟩ : ∃ c, nx (xs.drop (k2 + 1)) = c := ⟨_, rfl⟩
  rw [hg]
  have hbg := nx_le (xs.drop (k2 + 1))
  rw [hg] at hbg
  obtain ⟨hbg1, hbg2⟩ := hbg
  obtain ⟨ng, hng⟩ : ∃ n : Int, ((nl (xs.drop (k2 + 1)) : Nat) : Int) = n := ⟨_, rfl⟩
  rw [hng]
  have Hg := Lib.hid hg
  have Hng := Lib.hid hng
  clear ht hg hng
  go_wp2_with fail
  (with_reducible refine (is_rpt g wt).mono ?_)
  rintro e w' ⟨rfl, rfl⟩
  rw [isIn_rpt]
  obtain ⟨b, hb⟩ : ∃ b, rptB g = b := ⟨_, rfl⟩
  rw [hb]
  have Hb := Lib.hid (show rptB (nx (xs.drop (k2 + 1))) = b by rw [Hg.out]; exact hb)
  clear hb
  cases b
  case true =>
   go_wp2_with fail
   (with_reducible refine (wrongz_any Ht.out _ (k2 + 1) (by omega) (by omega)).mono ?_)
   rintro e wx ⟨rfl, qx, hq, hx, hf⟩
   have hfx := hf
   have Hx := Lib.hid (And.intro hq (And.intro hx (Ft.out.then hf)))
   clear hq hx hf c0t c1t c2t f1t
   go_wp2_with fail
   go_ret
   exact ⟨Am, qm, Y, _, _, rfl, Hx.out.2.1, Hx.out.2.2, Hxt.out.rd ((Fr.of_below (Below.refl _ _)).then hfx) Ht.out.typed, Hokm.out, by omega, fun e => absurd e Hx.out.1, fun _ => nopiece_again Hat.out (show Quant (xs.drop k2) 0 1 (xs.drop (k2 + 1)) by rw [Hdd.out]; exact Quant.quest) Hb.out⟩
  go_wp2_with fail
  go_ret
  exact ⟨Am, qm, Y, k2 + 1, 0, rfl, Ht.out, Ft.out, Hxt.out, Hokm.out, by omega, fun _ => ⟨.rep r 0 1, Piece.rep Hna.out Hat.out (by rw [Hdd.out]; exact Quant.quest) Hb.out, Hym.out⟩, fun e => absurd rfl e⟩
 have n63 : (d == 63) = false := by simpa using e63
 by_cases e123 : d = 123
 ·subst e123
  have hd := nx_drop Hd.out (by omega) (by omega)
  have hk3 : k2 + 1 ≤ xs.length := by have := hd.1; omega
  have Hdd := Lib.hid (show xs.drop k2 = 123 :: xs.drop (k2 + 1) from hd.2.2)
  clear hd
  go_wp2_with fail
  (with_reducible refine (rbraces_any H3.out (by omega) (by omega) Hx3.out H0.out Hok2.out (by omega)).mono ?_)
  rintro e w4 ⟨A4, q4, Y, k4, c4, rfl, h4, hf4, hx4, hn4, hr4⟩
  have H4 := Lib.hid h4
  have F4 := Lib.hid (F3.out.then hf4)
  have Hx4 := Lib.hid hx4
  have Hr4 := Lib.hid hr4
  have Hn4 := Lib.hid hn4
  have hk4 := h4.le
  clear h4 hf4 hx4 hr4 hn4 c03 c13 c23 f13
  by_cases hq : c4 = 0
  case neg =>
   have hq' : decide (c4 = 0) = false := by simpa using hq
   have Hq := Lib.hid hq
   clear hq
   obtain rfl := Hn4.out Hq.out
   go_wp2_with fail
   (with_reducible refine (good_any H4.out).mono ?_)
   rintro e w' ⟨rfl, rfl⟩
   go_wp2_with fail
   go_ret
   exact ⟨A4, q4, Y, k4, c4, rfl, H4.out, F4.out, Hx4.out, Hok2.out, by omega, fun e => absurd e Hq.out, fun h => nopiece_br (x := r) (ys := xs.drop (k2 + 1)) (by rw [← Hdd.out]; exact Hat.out) (Hr4.out.2 h)⟩
  subst hq
  obtain ⟨mn, mx, hbr, hY⟩ := Hr4.out.1 rfl
  have hml : Y.length ≤ 900 := by rw [hY]; simp [manyX]; omega
  have Hokm := Lib.hid (show OkX Y by rw [hY]; exact OkX.many Hok2.out)
  have Hbr := Lib.hid hbr
  have Hym := Lib.hid (show Y = (Rx.rep r mn mx).flat 0 by rw [hY, Hys.out, many_flat])
  clear hbr hY
  obtain ⟨pb4, cap4, -, c04, c14, c24, f14⟩ := H4.out.cells
  go_wp2_with fail
  (with_reducible refine (good_any H4.out).mono ?_)
  rintro e w' ⟨rfl, rfl⟩
  go_wp2_with fail
  (with_reducible refine (lookz_any H4.out _ (k4) (by omega) (by omega)).mono ?_)
  rintro e wt ⟨rfl, hb⟩
  have Hxt := Lib.hid (Hx4.out.below hb)
  have Ft := Lib.hid (F4.out.then (Fr.of_below hb))
  have ht := H4.out.below hb
  clear hb c04 c14 c24 f14
  obtain ⟨pbt, capt, -, c0t, c1t, c2t, f1t⟩ := ht.cells
  have Ht := Lib.hid ht
  obtain ⟨g, hg⟩ : ∃ c, nx (xs.drop (k4)) = c := ⟨_, rfl⟩
  rw [hg]
  have hbg := nx_le (xs.drop (k4))
  rw [hg] at hbg
  obtain ⟨hbg1, hbg2⟩ := hbg
  obtain ⟨ng, hng⟩ : ∃ n : Int, ((nl (xs.drop (k4)) : Nat) : Int) = n := ⟨_, rfl⟩
  rw [hng]
  have Hg := Lib.hid hg
  have Hng := Lib.hid hng
  clear ht hg hng
  go_wp2_with fail
  (with_reducible refine (is_rpt g wt).mono ?_)
  rintro e w' ⟨rfl, rfl⟩
  rw [isIn_rpt]
  obtain ⟨b, hb⟩ : ∃ b, rptB g = b := ⟨_, rfl⟩
  rw [hb]
  have Hb := Lib.hid (show rptB (nx (xs.drop (k4))) = b by rw [Hg.out]; exact hb)
  clear hb
  cases b
  case true =>
   go_wp2_with fail
   (with_reducible refine (wrongz_any Ht.out _ (k4) (by omega) (by omega)).mono ?_)
   rintro e wx ⟨rfl, qx, hq, hx, hf⟩
   have hfx := hf
   have Hx := Lib.hid (And.intro hq (And.intro hx (Ft.out.then hf)))
   clear hq hx hf c0t c1t c2t f1t
   go_wp2_with fail
   go_ret
   exact ⟨A4, q4, Y, _, _, rfl, Hx.out.2.1, Hx.out.2.2, Hxt.out.rd ((Fr.of_below (Below.refl _ _)).then hfx) Ht.out.typed, Hokm.out, by omega, fun e => absurd e Hx.out.1, fun _ => nopiece_again Hat.out (show Quant (xs.drop k2) mn mx (xs.drop k4) by rw [Hdd.out]; exact Quant.braces Hbr.out) Hb.out⟩
  go_wp2_with fail
  go_ret
  exact ⟨A4, q4, Y, k4, 0, rfl, Ht.out, Ft.out, Hxt.out, Hokm.out, by omega, fun _ => ⟨.rep r mn mx, Piece.rep Hna.out Hat.out (by rw [Hdd.out]; exact Quant.braces Hbr.out) Hb.out, Hym.out⟩, fun e => absurd rfl e⟩
 have n123 : (d == 123) = false := by simpa using e123
 have Hnr := Lib.hid (show rptB (nx (xs.drop k2)) = false by rw [Hd.out]; simp only [rptB, decide_eq_false e42, decide_eq_false e43, decide_eq_false e63, decide_eq_false e123, Bool.or_false])
 clear e42 e43 e63 e123
 go_wp2_with fail
 (with_reducible refine (good_any H3.out).mono ?_)
 rintro e w' ⟨rfl, rfl⟩
 go_wp2_with fail
 (with_reducible refine (lookz_any H3.out _ (k2) (by omega) (by omega)).mono ?_)
 rintro e wt ⟨rfl, hb⟩
 have Hxt := Lib.hid (Hx3.out.below hb)
 have Ft := Lib.hid (F3.out.then (Fr.of_below hb))
 have ht := H3.out.below hb
 clear hb c03 c13 c23 f13
 obtain ⟨pbt, capt, -, c0t, c1t, c2t, f1t⟩ := ht.cells
 have Ht := Lib.hid ht
 obtain ⟨g, hg⟩ : ∃ c, nx (xs.drop (k2)) = c := ⟨_, rfl⟩
 rw [hg]
 have hbg := nx_le (xs.drop (k2))
 rw [hg] at hbg
 obtain ⟨hbg1, hbg2⟩ := hbg
 obtain ⟨ng, hng⟩ : ∃ n : Int, ((nl (xs.drop (k2)) : Nat) : Int) = n := ⟨_, rfl⟩
 rw [hng]
 have Hg := Lib.hid hg
 have Hng := Lib.hid hng
 clear ht hg hng
 go_wp2_with fail
 (with_reducible refine (is_rpt g wt).mono ?_)
 rintro e w' ⟨rfl, rfl⟩
 rw [isIn_rpt]
 obtain ⟨b, hb⟩ : ∃ b, rptB g = b := ⟨_, rfl⟩
 rw [hb]
 have Hb := Lib.hid (show rptB (nx (xs.drop (k2))) = b by rw [Hg.out]; exact hb)
 clear hb
 cases b
 case true =>
  go_wp2_with fail
  (with_reducible refine (wrongz_any Ht.out _ (k2) (by omega) (by omega)).mono ?_)
  rintro e wx ⟨rfl, qx, hq, hx, hf⟩
  have hfx := hf
  have Hx := Lib.hid (And.intro hq (And.intro hx (Ft.out.then hf)))
  clear hq hx hf c0t c1t c2t f1t
  go_wp2_with fail
  go_ret
  exact ⟨A, q, ys, _, _, rfl, Hx.out.2.1, Hx.out.2.2, Hxt.out.rd ((Fr.of_below (Below.refl _ _)).then hfx) Ht.out.typed, Hok2.out, by omega, fun e => absurd e Hx.out.1, fun _ => absurd (Hb.out.symm.trans Hnr.out) (by decide)⟩
 go_wp2_with fail
 go_ret
 exact ⟨A, q, ys, k2, 0, rfl, Ht.out, Ft.out, Hxt.out, Hok2.out, by omega, fun _ => ⟨r, Piece.bare Hat.out Hb.out, Hys.out⟩, fun e => absurd rfl e⟩
theorem XRow.grown {w w' : World} {base base2 n2 : Nat} {v v2 : Value} {xs : List Ex} {us2 : List Value} (h : XRow w base v xs) (ho : w.ownsRow base2 26 1 v2 n2 us2) (hg : w.grownBy w' v2.ownBlock) : XRow w' base v xs := by
 refine World.ownsRow.kept h hg ?_
 cases hb : v.ownBlock with
 | none => exact .inl rfl
 | some g' =>
  refine .inr (fun e' => ?_)
  obtain ⟨_, cur, h1⟩ := ownsRow_block h hb
  obtain ⟨_, cur2, h2⟩ := ownsRow_block ho e'.symm
  rw [h1] at h2
  injection h2 with h2
  injection h2 with _ h2 _
  cases h2
theorem ElP.rd {rb : Nat} {w w' : World} {u : Value} {ys : List Ex} (h : ElP w u ys) (hg : Fr rb w w') (ht : Typed w rb 98) : ElP w' u ys := ⟨h.1.rd hg ht, h.2⟩
theorem ElP.slice {w : World} {u : Value} {ys : List Ex} (h : ElP w u ys) : u.oneCell' = true ∧ ∀ x, u ≠ .int .u8 x := by
 obtain ⟨A, q, rfl, _⟩ := h.1.form
 exact ⟨rfl, fun x e => by cases e⟩
theorem us_u8 {w : World} {us : List Value} {Ls : List (List Ex)} (h : All2 (ElP w) us Ls) : ∀ u ∈ us, ∀ x, u ≠ .int .u8 x := by
 intro u hu x e
 obtain ⟨i, hi⟩ := List.getElem?_of_mem hu
 have hlt := (List.getElem?_eq_some_iff.1 hi).1
 obtain ⟨y, hy⟩ : ∃ y, Ls[i]? = some y := ⟨_, List.getElem?_eq_getElem (by have := h.1; omega)⟩
 exact (h.2 i u y hi hy).slice.2 x e
theorem own_rdr {rb base n : Nat} {w w' : World} {v : Value} {us : List Value} (h : w.ownsRow base 26 1 v n us) (hg : Fr rb w w') (ht : Typed w rb 98) : w'.ownsRow base 26 1 v n us := own_rd h hg ht (by decide)
theorem totX_flat (l : List Rx) : totX (l.map fun r => r.flat 0) = tot l := by
 induction l with
 | nil => rfl
 | cons x l ih => rw [List.map_cons, totX_cons, tot_cons, ih, x.flat_len]
theorem AltAt.mono {xs : List UInt8} {K M : Nat} (h : AltAt xs K) (hm : K ≤ M) : AltAt xs M := fun rb k w hk hr => h rb k w (Nat.le_trans hm hk) hr
theorem tot_append (l m : List Rx) : tot (l ++ m) = tot l + tot m := by simp [tot]
def SeqP (xs : List UInt8) (rb k : Nat) (w : World) (e : Ending) (w' : World) : Prop := ∃ (A : Option Addr) (q : Nat) (ys : List Ex) (k' : Nat) (c : Int), e = .returned (.slice A ys.length q) ∧ Rd xs rb w' k' c ∧ Fr rb w w' ∧ XRow w' 0 (.slice A ys.length q) ys ∧ OkX ys ∧ ys.length ≤ 2000 ∧ (c = 0 → k ≤ k' ∧ ∃ l, SeqL (xs.drop k) l (xs.drop k') ∧ ys = (joinR .cat l).flat 0) ∧ (c ≠ 0 → NoSeq (xs.drop k))
def LsRel (w : World) (A : Option Addr) (q : Nat) (us : List Value) (Ls : List (List Ex)) (rb : Nat) (wr : World) : Prop := Fr rb w wr ∧ wr.ownsRow w.heap.size 26 1 (.slice A us.length q) us.length us ∧ All2 (ElP wr) us Ls
theorem LsRel.rd {w wr w' : World} {A : Option Addr} {q rb : Nat} {us : List Value} {Ls : List (List Ex)} (h : LsRel w A q us Ls rb wr) (hg : Fr rb wr w') (ht : Typed wr rb 98) : LsRel w A q us Ls rb w' := ⟨h.1.then hg, own_rdr h.2.1 hg ht, h.2.2.mono fun _ _ x => x.rd hg ht⟩
def SqRel (xs : List UInt8) (rb k : Nat) (w : World) (s3 : Value) (wr : World) : Prop := ∃ (A : Option Addr) (q : Nat) (us : List Value) (Ls : List (List Ex)) (k2 : Nat) (c : Int), s3 = .slice A us.length q ∧ Rd xs rb wr k2 c ∧ LsRel w A q us Ls rb wr ∧ (c = 0 → us.length = 0 → A = none) ∧ totX Ls ≤ 2000 ∧
 (c = 0 → ∃ l : List Rx, Ls = l.map (fun r => r.flat 0) ∧ tot l + 2 * (xs.length - k2) ≤ 2 * (xs.length - k) ∧ k ≤ k2 ∧ ∀ l' zs, SeqL (xs.drop k2) l' zs → SeqL (xs.drop k) (l ++ l') zs) ∧ (c ≠ 0 → NoSeq (xs.drop k)) ∧ (c = 0 → NoSeq (xs.drop k2) → NoSeq (xs.drop k))
theorem LsRel.snoc {w w3 w4 : World} {A A4 : Option Addr} {q q4 rb : Nat} {us : List Value} {Ls : List (List Ex)} {ys : List Ex} {u : Value} (h : LsRel w A q us Ls rb w3) (hu : ElP w3 u ys) (ho : w4.ownsRow w.heap.size 26 1 (.slice A4 (us.length + 1) q4) (us.length + 1) (us ++ [u])) (hg : w3.grownBy w4 (Value.slice A us.length q).ownBlock) : LsRel w A4 q4 (us ++ [u]) (Ls ++ [ys]) rb w4 := by
 refine ⟨h.1.own h.2.1 (Nat.le_refl _) hg, ?_, ?_⟩
 ·rw [List.length_append]; exact ho
 ·exact (h.2.2.mono fun _ _ x => (⟨x.1.grown h.2.1 hg, x.2⟩ : ElP w4 _ _)).snoc ⟨hu.1.grown h.2.1 hg, hu.2⟩
theorem LsRel.below {w wr w' : World} {A : Option Addr} {q rb : Nat} {us : List Value} {Ls : List (List Ex)} (h : LsRel w A q us Ls rb wr) (hb : Below wr.heap.size wr w') : LsRel w A q us Ls rb w' := ⟨h.1.then (Fr.of_below hb), ownsRow_below h.2.1 hb (Nat.le_refl _), h.2.2.mono fun _ _ x => x.below hb⟩
theorem LsRel.rows {w wr : World} {A : Option Addr} {q rb : Nat} {us : List Value} {Ls : List (List Ex)} (h : LsRel w A q us Ls rb wr) : XRows wr 0 (.slice A us.length q) us Ls := ⟨ownsRow_low h.2.1 (Nat.zero_le _), h.2.2⟩
theorem LsRel.ok {w wr : World} {A : Option Addr} {q rb : Nat} {us : List Value} {Ls : List (List Ex)} (h : LsRel w A q us Ls rb wr) : ∀ x ∈ Ls, OkX x := by
 intro x hx
 obtain ⟨i, hi⟩ := List.getElem?_of_mem hx
 obtain ⟨u, _, hr⟩ := h.2.2.get hi
 exact hr.2
theorem len_tot (Ls : List (List Ex)) : Ls.length ≤ totX Ls := by
 induction Ls with
 | nil => simp
 | cons x l ih => rw [totX_cons, List.length_cons]; omega
def SqEnd (xs : List UInt8) (rb k : Nat) (w : World) (s3 : Value) (wr : World) : Prop := ∃ (A : Option Addr) (q : Nat) (us : List Value) (Ls : List (List Ex)) (k2 : Nat) (c : Int), s3 = .slice A us.length q ∧ Rd xs rb wr k2 c ∧ LsRel w A q us Ls rb wr ∧ totX Ls ≤ 2000 ∧ (c = 0 → k ≤ k2 ∧ ∃ l : List Rx, Ls = l.map (fun r => r.flat 0) ∧ SeqL (xs.drop k) l (xs.drop k2)) ∧ (c ≠ 0 → NoSeq (xs.drop k))
def AlRel (xs : List UInt8) (rb k : Nat) (w : World) (s3 : Value) (wr : World) : Prop := ∃ (A : Option Addr) (q : Nat) (us : List Value) (Ls : List (List Ex)) (k2 : Nat) (c : Int), s3 = .slice A us.length q ∧ Rd xs rb wr k2 c ∧ LsRel w A q us Ls rb wr ∧ 0 < us.length ∧ totX Ls ≤ 4000 ∧
 (c = 0 → ∃ l : List Rx, Ls = l.map (fun r => r.flat 0) ∧ tot l + 2 * (xs.length - k2) ≤ 2 * (xs.length - k) + 2 ∧ k ≤ k2 ∧ (nx (xs.drop k2) ≠ 124 → AltL (xs.drop k) l (xs.drop k2)) ∧ ∀ ys m zs, xs.drop k2 = 124 :: ys → AltL ys m zs → AltL (xs.drop k) (l ++ m) zs) ∧ (c ≠ 0 → NoAlt (xs.drop k)) ∧ (c = 0 → ∀ ys, xs.drop k2 = 124 :: ys → NoAlt ys → NoAlt (xs.drop k))
def AlEnd (xs : List UInt8) (rb k : Nat) (w : World) (s3 : Value) (wr : World) : Prop := ∃ (A : Option Addr) (q : Nat) (us : List Value) (Ls : List (List Ex)) (k2 : Nat) (c : Int), s3 = .slice A us.length q ∧ Rd xs rb wr k2 c ∧ LsRel w A q us Ls rb wr ∧ 0 < us.length ∧ totX Ls ≤ 4000 ∧ (c = 0 → ∃ l : List Rx, Ls = l.map (fun r => r.flat 0) ∧ AltL (xs.drop k) l (xs.drop k2)) ∧ (c ≠ 0 → NoAlt (xs.drop k))
set_option maxHeartbeats 16000000 in
set_option maxRecDepth 100000 in
theorem rseq_any {xs : List UInt8} {rb k : Nat} {w : World} (h : Rd xs rb w k 0) (hl : xs.length ≤ 400) (ha : AltAt xs (k + 1)) : Calls Tryz.prog 86 #[.pointer (some ⟨rb, 0, none⟩)] w fun e w' => SeqP xs rb k w e w' := by
 have H := Lib.hid h
 have Ha := Lib.hid ha
 have hk := h.le
 clear h ha
 go_enter Tryz.func86, Tryz.ntmps86
 go_upto_block 0 with fail
 go_cut [3, 4, 5] (fun s3 _ _ wx => SqEnd xs rb k w s3 wx)
 case first =>
  go_wp2_with fail
  go_loopw [3, 4, 5] (fun s3 _ _ wr => SqRel xs rb k w s3 wr) (fun _ _ _ wr => rdMu xs.length rb wr)
  case atStart => exact ⟨none, 0, [], [], k, 0, rfl, H.out, ⟨Fr.refl _ _, ⟨rfl, .inl ⟨rfl, rfl⟩⟩, All2.nil _⟩, fun _ _ => rfl, by simp [totX], fun _ => ⟨[], rfl, by simp [tot], Nat.le_refl _, fun l' zs h => h⟩, fun e => absurd rfl e, fun _ h => h⟩
  case round =>
   obtain ⟨A, q, us, Ls, k2, c9, rfl, hr, hls, hA, htot, hok, hno, hnx⟩ := hrel
   have Hno := Lib.hid hno
   have Hnx := Lib.hid hnx
   clear hno hnx
   have Hr := Lib.hid hr
   have Hls := Lib.hid hls
   have HA := Lib.hid hA
   have Hok := Lib.hid hok
   have Hf := Lib.hid hls.1
   have hk2 := hr.le
   have hul : us.length ≤ 4000 := by have h1 := len_tot Ls; have h2 := hls.2.2.1; omega
   obtain ⟨pbr, capr, -, c0r, c1r, c2r, f1r⟩ := hr.cells
   clear hr hls hA hok
   go_wp2_with fail
   (with_reducible refine (good_any Hr.out).mono ?_)
   rintro e w' ⟨rfl, rfl⟩
   by_cases hq : c9 = 0
   case neg =>
    have hq' : decide (c9 = 0) = false := by simpa using hq
    have Hq := Lib.hid hq
    clear hq
    go_wp2_with fail
    go_meet
    case rel => exact ⟨A, q, us, Ls, k2, c9, rfl, Hr.out, Hls.out, by omega, fun e => absurd e Hq.out, fun h => Hno.out h⟩
   subst hq
   have Hnxx := Lib.hid (Hnx.out rfl)
   clear Hno Hnx
   obtain ⟨l, rfl, htl, hkk, hit⟩ := Hok.out rfl
   rw [totX_flat] at htot
   have Hit := Lib.hid hit
   clear hit Hok
   go_wp2_with fail
   (with_reducible refine (lookz_any Hr.out _ (k2) (by omega) (by omega)).mono ?_)
   rintro e w2 ⟨rfl, hb⟩
   have Hls2 := Lib.hid (Hls.out.below hb)
   have F2 := Lib.hid (Hf.out.then (Fr.of_below hb))
   have h2 := Hr.out.below hb
   clear hb c0r c1r c2r f1r
   obtain ⟨pb2, cap2, -, c02, c12, c22, f12⟩ := h2.cells
   have H2 := Lib.hid h2
   obtain ⟨c, hc⟩ : ∃ c, nx (xs.drop (k2)) = c := ⟨_, rfl⟩
   rw [hc]
   have hbc := nx_le (xs.drop (k2))
   rw [hc] at hbc
   obtain ⟨hbc1, hbc2⟩ := hbc
   obtain ⟨nc, hnc⟩ : ∃ n : Int, ((nl (xs.drop (k2)) : Nat) : Int) = n := ⟨_, rfl⟩
   rw [hnc]
   have Hc := Lib.hid hc
   have Hnc := Lib.hid hnc
   clear h2 hc hnc
   by_cases e1 : c = -1
   ·subst e1
    have Hdone := Lib.hid (Hit.out [] (xs.drop k2) (SeqL.done (.inl Hc.out)))
    rw [List.append_nil] at Hdone
    go_wp2_with fail
    go_meet
    case rel => exact ⟨A, q, us, _, k2, 0, rfl, H2.out, Hls2.out, by rw [totX_flat]; omega, fun _ => ⟨hkk, l, rfl, Hdone.out⟩, fun e => absurd rfl e⟩
   have n1 : (c == -1) = false := by simpa using e1
   by_cases e124 : c = 124
   ·subst e124
    have Hdone := Lib.hid (Hit.out [] (xs.drop k2) (SeqL.done (.inr (.inl Hc.out))))
    rw [List.append_nil] at Hdone
    go_wp2_with fail
    go_meet
    case rel => exact ⟨A, q, us, _, k2, 0, rfl, H2.out, Hls2.out, by rw [totX_flat]; omega, fun _ => ⟨hkk, l, rfl, Hdone.out⟩, fun e => absurd rfl e⟩
   have n124 : (c == 124) = false := by simpa using e124
   by_cases e41 : c = 41
   ·subst e41
    have Hdone := Lib.hid (Hit.out [] (xs.drop k2) (SeqL.done (.inr (.inr Hc.out))))
    rw [List.append_nil] at Hdone
    go_wp2_with fail
    go_meet
    case rel => exact ⟨A, q, us, _, k2, 0, rfl, H2.out, Hls2.out, by rw [totX_flat]; omega, fun _ => ⟨hkk, l, rfl, Hdone.out⟩, fun e => absurd rfl e⟩
   have n41 : (c == 41) = false := by simpa using e41
   have Hne := Lib.hid (show nx (xs.drop k2) ≠ -1 ∧ nx (xs.drop k2) ≠ 124 ∧ nx (xs.drop k2) ≠ 41 by rw [Hc.out]; exact ⟨e1, e124, e41⟩)
   clear e1 e124 e41
   go_wp2_with fail
   (with_reducible refine (rpiece_any H2.out hk2 hl (Ha.out.mono (by omega))).mono ?_)
   rintro e w3 ⟨A3, q3, ys, k3, c3, rfl, h3, hf3, hx3, hok3, hl3, hr3⟩
   have H3 := Lib.hid h3
   have Hls3 := Lib.hid (Hls2.out.rd hf3 H2.out.typed)
   have Hel := Lib.hid (show ElP w3 (.slice A3 ys.length q3) ys from ⟨hx3, hok3⟩)
   have Hr3 := Lib.hid hr3
   clear h3 hf3 hx3 hok3 hr3 c02 c12 c22 f12
   have Hal := Lib.hid (alloc_below w3 (.cells #[.slice A3 ys.length q3] 26))
   have Hcn := Lib.hid (cells_new w3 [.slice A3 ys.length q3] 26)
   have Hlsa := Lib.hid (Hls3.out.below Hal.out)
   have Hoa := Lib.hid Hlsa.out.2.1
   have hsa : w.heap.size ≤ (w3.alloc (.cells #[.slice A3 ys.length q3] 26)).heap.size := Hlsa.out.1.size
   go_wp2_with (at_builtin; refine wpList_append_k elExs rfl (.tmp 27) (.tmp 30) rfl w.heap.size (.slice A us.length q) us.length w3.heap.size 1 1 us [.slice A3 ys.length q3] (by simp [Act.eval]) Hoa.out (by simp [Act.eval]) rfl Hcn.out (by simp [Value.oneCell']) (by unfold maxLen; omega) (by omega) hsa ?_; intro v' w4 h1 h2 h3; have Hp := Lib.hid h1; have Hg := Lib.hid h2; clear h1 h2 h3)
   obtain ⟨A4, q4, rfl, -, -, -⟩ := ownsRow_slice Hp.out
   have hr4 := (H3.out.below Hal.out).own Hoa.out (by decide) (fun h0 => by rw [HA.out (by trivial) h0]; rfl) (us_u8 Hlsa.out.2.2) Hg.out
   have hls4 := Hlsa.out.snoc (Hel.out.below Hal.out) Hp.out Hg.out
   refine ⟨⟨A4, q4, us ++ [.slice A3 ys.length q3], _, k3, c3, by simp, hr4, hls4, fun _ h0 => by simp at h0, ?_, ?_, fun h => Hnxx.out (noseq_piece Hne.out (Hr3.out.2 h)), fun h0 hn => by obtain ⟨r, hp, _⟩ := Hr3.out.1 h0; exact Hnxx.out (noseq_more Hne.out hp hn)⟩, ?_⟩
   ·rw [totX_append, totX_flat, totX_cons]; simp [totX]; omega
   ·intro h0
    obtain ⟨r, hp, rfl⟩ := Hr3.out.1 h0
    have h1 := hp.size
    have h2 := hp.suf.2
    simp only [List.length_drop] at h1 h2
    refine ⟨l ++ [r], by simp, ?_, by omega, fun l' zs hz => ?_⟩
    ·rw [tot_append, tot_cons]; simp only [tot, List.map_nil, List.sum_nil] at htl ⊢; omega
    ·rw [List.append_assoc]; exact Hit.out _ _ (SeqL.more Hne.out hp hz)
   ·rw [hr4.mu, Hr.out.mu]
    have hk3l := hr4.le
    by_cases h0 : c3 = 0
    ·obtain ⟨r, hp, _⟩ := Hr3.out.1 h0
     have h2 := hp.suf.2
     simp only [List.length_drop] at h2
     rw [if_pos h0, if_pos rfl]; omega
    ·rw [if_neg h0, if_pos rfl]; omega
 case rest =>
  obtain ⟨A, q, us, Ls, k2, c9, rfl, hr, hls, htot, hok, hno⟩ := hcut
  have Hno := Lib.hid hno
  clear hno
  have Hr := Lib.hid hr
  have Hls := Lib.hid hls
  have Hok := Lib.hid hok
  have Hlu := Lib.hid hls.2.2.1
  clear hr hls hok
  by_cases h0 : us.length = 0
  case pos =>
   have h0i : ((us.length : Int) == 0) = true := by simp [h0]
   obtain rfl : Ls = [] := List.eq_nil_of_length_eq_zero (by have := Hlu.out; omega)
   go_wp2_with fail
   (with_reducible refine (one_any 1 wc).mono ?_)
   rintro e w2 ⟨A2, n2, q2, rfl, hb2, hx2⟩
   obtain rfl : n2 = [oneX 1 0].length := by obtain ⟨_, _, e, _⟩ := hx2.form; exact (Value.slice.inj e).2.1
   have Hb2 := Lib.hid hb2
   have Hx2 := Lib.hid hx2
   clear hb2 hx2
   go_wp2_with fail
   go_ret
   refine ⟨A2, q2, [oneX 1 0], k2, c9, rfl, Hr.out.below Hb2.out, Hls.out.1.then (Fr.of_below Hb2.out), Hx2.out.low (Nat.zero_le _), OkX.one _ _, by simp, fun e => ?_, Hno.out⟩
   obtain ⟨h1, l, h2, h3⟩ := Hok.out e
   obtain rfl : l = [] := by simpa using h2.symm
   exact ⟨h1, [], h3, rfl⟩
  have hne : Ls ≠ [] := by intro e; have h1 := Hlu.out; rw [e] at h1; exact h0 h1
  have h0i : ((us.length : Int) == 0) = false := by simpa using h0
  have hgl := grpX_len 7 Ls hne
  have Hne := Lib.hid hne
  clear hne h0
  go_wp2_with fail
  (with_reducible refine (grouped_any 7 Hls.out.rows Hne.out (by omega)).mono ?_)
  rintro e w2 ⟨A2, q2, rfl, hb2, hx2⟩
  have Hb2 := Lib.hid hb2
  have Hx2 := Lib.hid hx2
  clear hb2 hx2
  go_wp2_with fail
  go_ret
  refine ⟨A2, q2, grpX 7 Ls, k2, c9, rfl, Hr.out.below Hb2.out, Hls.out.1.then (Fr.of_below Hb2.out), Hx2.out, grpX_ok 7 Ls Hls.out.ok, by omega, fun e => ?_, Hno.out⟩
  obtain ⟨h1, l, rfl, h3⟩ := Hok.out e
  exact ⟨h1, l, h3, grpX_flat 7 .cat (fun a b => two_flat.1) l (fun e => by subst e; exact Hne.out rfl)⟩
end Go.Proofs.YthhnmpkgleelfaaGreatDoor
