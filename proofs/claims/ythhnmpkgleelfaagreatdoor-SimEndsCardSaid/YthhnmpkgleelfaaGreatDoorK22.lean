import Derived.Test.YthhnmpkgleelfaaGreatDoorK21
set_option linter.unusedVariables false
set_option linter.unusedSimpArgs false
namespace Go.Proofs.YthhnmpkgleelfaaGreatDoor
open Go.RowKit
set_option maxHeartbeats 16000000 in
set_option maxRecDepth 100000 in
theorem ratom_any {xs : List UInt8} {rb k : Nat} {w : World} (h : Rd xs rb w k 0) (hk : k ≤ xs.length + 1) (hl : xs.length ≤ 400) (ha : AltAt xs (k + 1)) : Calls Tryz.prog 106 #[.pointer (some ⟨rb, 0, none⟩)] w fun e w' => AtomP xs rb k w e w' := by
 have H := Lib.hid h
 have Ha := Lib.hid ha
 have F0 := Lib.hid (Fr.refl rb w)
 obtain ⟨pb, cap, -, c0, c1, c2, f1⟩ := h.cells
 clear h ha
 go_enter Tryz.func106, Tryz.ntmps106
 go_wp2_with fail
 (with_reducible refine (lookz_any H.out _ (k) (by omega) (by omega)).mono ?_)
 rintro e w1 ⟨rfl, hb⟩
 have F1 := Lib.hid (F0.out.then (Fr.of_below hb))
 have h1 := H.out.below hb
 clear hb c0 c1 c2 f1
 obtain ⟨pb1, cap1, -, c01, c11, c21, f11⟩ := h1.cells
 have H1 := Lib.hid h1
 obtain ⟨c, hc⟩ : ∃ c, nx (xs.drop (k)) = c := ⟨_, rfl⟩
 rw [hc]
 have hbc := nx_le (xs.drop (k))
 rw [hc] at hbc
 obtain ⟨hbc1, hbc2⟩ := hbc
 obtain ⟨nc, hnc⟩ : ∃ n : Int, ((nl (xs.drop (k)) : Nat) : Int) = n := ⟨_, rfl⟩
 rw [hnc]
 have Hc := Lib.hid hc
 have Hnc := Lib.hid hnc
 clear h1 hc hnc
 by_cases e1 : c = -1
 ·subst e1
  go_wp2_with fail
  (with_reducible refine (wrongz_any H1.out _ (k) (by omega) (by omega)).mono ?_)
  rintro e wx ⟨rfl, qx, hq, hx, hf⟩
  have Hx := Lib.hid (And.intro hq (And.intro hx (F1.out.then hf)))
  clear hq hx hf c01 c11 c21 f11
  go_wp2_with fail
  go_ret
  exact ⟨none, 0, [], _, _, rfl, Hx.out.2.1, Hx.out.2.2, XRow.nil _ _, OkX.nil, fun _ => by simp, fun e => absurd e Hx.out.1, fun _ => noatom_bad (.inl (by rw [Hc.out]; decide))⟩
 have n1 : (c == -1) = false := by simpa using e1
 by_cases e2 : c = -2
 ·subst e2
  go_wp2_with fail
  (with_reducible refine (wrongz_any H1.out _ (k) (by omega) (by omega)).mono ?_)
  rintro e wx ⟨rfl, qx, hq, hx, hf⟩
  have Hx := Lib.hid (And.intro hq (And.intro hx (F1.out.then hf)))
  clear hq hx hf c01 c11 c21 f11
  go_wp2_with fail
  go_ret
  exact ⟨none, 0, [], _, _, rfl, Hx.out.2.1, Hx.out.2.2, XRow.nil _ _, OkX.nil, fun _ => by simp, fun e => absurd e Hx.out.1, fun _ => noatom_bad (.inl (by rw [Hc.out]; decide))⟩
 have n2 : (c == -2) = false := by simpa using e2
 have hlt := nx_drop_lt (xs := xs) (k := k) (by rw [Hc.out]; omega)
 have hnc : 1 ≤ nc ∧ (k : Int) + nc ≤ xs.length := by have := Hnc.out; omega
 obtain ⟨hnc1, hnc2⟩ := hnc
 have Hlt := Lib.hid hlt
 clear hlt
 go_wp2_with fail
 (with_reducible refine (is_bad c w1).mono ?_)
 rintro e w' ⟨rfl, rfl⟩
 rw [isIn_bad]
 obtain ⟨b, hb⟩ : ∃ b, badB c = b := ⟨_, rfl⟩
 rw [hb]
 have Hb := Lib.hid hb
 clear hb
 cases b
 case true =>
  go_wp2_with fail
  (with_reducible refine (wrongz_any H1.out _ (k) (by omega) (by omega)).mono ?_)
  rintro e wx ⟨rfl, qx, hq, hx, hf⟩
  have Hx := Lib.hid (And.intro hq (And.intro hx (F1.out.then hf)))
  clear hq hx hf c01 c11 c21 f11
  go_wp2_with fail
  go_ret
  exact ⟨none, 0, [], _, _, rfl, Hx.out.2.1, Hx.out.2.2, XRow.nil _ _, OkX.nil, fun _ => by simp, fun e => absurd e Hx.out.1, fun _ => noatom_bad (.inr (by rw [Hc.out]; exact Hb.out))⟩
 obtain ⟨wz, hwz⟩ : ∃ wz, w1.setCell ⟨rb, 1, none⟩ (.int .i64 ((k : Int) + nc)) = wz := ⟨_, rfl⟩
 obtain ⟨kk, hkke⟩ : ∃ kk, k + nl (xs.drop k) = kk := ⟨_, rfl⟩
 have hkk3 : (kk : Int) = k + nc := by have := Hnc.out; omega
 have hkk : kk ≤ xs.length := by omega
 have hkk1 : k + 1 ≤ kk := by omega
 have hz := H1.out.setz (z := (k : Int) + nc) (m := kk) (by omega) (by omega)
 have fz := F1.out.then (Fr.set rb 1 w1 (.int .i64 ((k : Int) + nc)))
 rw [hwz] at hz fz
 have Hz := Lib.hid hz
 have Fz := Lib.hid fz
 have Hwz := Lib.hid hwz
 obtain ⟨pbz, capz, -, c0z, c1z, c2z, f1z⟩ := hz.cells
 clear hz fz hwz
 by_cases e46 : c = 46
 ·subst e46
  have hd := nx_drop Hc.out (by omega) (by omega)
  obtain rfl : kk = k + 1 := by have := hd.2.1; omega
  obtain rfl : nc = 1 := by have h1 := hd.2.1; have := Hnc.out; omega
  have Hd := Lib.hid (show xs.drop k = 46 :: xs.drop (k + 1) from hd.2.2)
  clear hd hkk3 hkke
  go_wp2_with fail
  rw [Hwz.out]
  (with_reducible refine (one_any 3 wz).mono ?_)
  rintro e w2 ⟨A, n, q, rfl, hb2, hx2⟩
  obtain rfl : n = [oneX 3 0].length := by obtain ⟨_, _, e, _⟩ := hx2.form; exact (Value.slice.inj e).2.1
  have Hb2 := Lib.hid hb2
  have Hx2 := Lib.hid hx2
  clear hb2 hx2
  go_wp2_with fail
  go_ret
  exact ⟨A, q, [oneX 3 0], k + 1, 0, rfl, Hz.out.below Hb2.out, Fz.out.then (Fr.of_below Hb2.out), Hx2.out.low (Nat.zero_le _), OkX.one _ _, fun e => absurd rfl e, fun _ => ⟨.any, by rw [Hd.out]; exact Atom.any, rfl⟩, fun e => absurd rfl e⟩
 have n46 : (c == 46) = false := by simpa using e46
 by_cases e94 : c = 94
 ·subst e94
  have hd := nx_drop Hc.out (by omega) (by omega)
  obtain rfl : kk = k + 1 := by have := hd.2.1; omega
  obtain rfl : nc = 1 := by have h1 := hd.2.1; have := Hnc.out; omega
  have Hd := Lib.hid (show xs.drop k = 94 :: xs.drop (k + 1) from hd.2.2)
  clear hd hkk3 hkke
  go_wp2_with fail
  rw [Hwz.out]
  (with_reducible refine (one_any 5 wz).mono ?_)
  rintro e w2 ⟨A, n, q, rfl, hb2, hx2⟩
  obtain rfl : n = [oneX 5 0].length := by obtain ⟨_, _, e, _⟩ := hx2.form; exact (Value.slice.inj e).2.1
  have Hb2 := Lib.hid hb2
  have Hx2 := Lib.hid hx2
  clear hb2 hx2
  go_wp2_with fail
  go_ret
  exact ⟨A, q, [oneX 5 0], k + 1, 0, rfl, Hz.out.below Hb2.out, Fz.out.then (Fr.of_below Hb2.out), Hx2.out.low (Nat.zero_le _), OkX.one _ _, fun e => absurd rfl e, fun _ => ⟨.beg, by rw [Hd.out]; exact Atom.beg, rfl⟩, fun e => absurd rfl e⟩
 have n94 : (c == 94) = false := by simpa using e94
 by_cases e36 : c = 36
 ·subst e36
  have hd := nx_drop Hc.out (by omega) (by omega)
  obtain rfl : kk = k + 1 := by have := hd.2.1; omega
  obtain rfl : nc = 1 := by have h1 := hd.2.1; have := Hnc.out; omega
  have Hd := Lib.hid (show xs.drop k = 36 :: xs.drop (k + 1) from hd.2.2)
  clear hd hkk3 hkke
  go_wp2_with fail
  rw [Hwz.out]
  (with_reducible refine (one_any 6 wz).mono ?_)
  rintro e w2 ⟨A, n, q, rfl, hb2, hx2⟩
  obtain rfl : n = [oneX 6 0].length := by obtain ⟨_, _, e, _⟩ := hx2.form; exact (Value.slice.inj e).2.1
  have Hb2 := Lib.hid hb2
  have Hx2 := Lib.hid hx2
  clear hb2 hx2
  go_wp2_with fail
  go_ret
  exact ⟨A, q, [oneX 6 0], k + 1, 0, rfl, Hz.out.below Hb2.out, Fz.out.then (Fr.of_below Hb2.out), Hx2.out.low (Nat.zero_le _), OkX.one _ _, fun e => absurd rfl e, fun _ => ⟨.fin, by rw [Hd.out]; exact Atom.fin, rfl⟩, fun e => absurd rfl e⟩
 have n36 : (c == 36) = false := by simpa using e36
 by_cases e40 : c = 40
 ·subst e40
  have hd := nx_drop Hc.out (by omega) (by omega)
  obtain rfl : kk = k + 1 := by have := hd.2.1; omega
  obtain rfl : nc = 1 := by have h1 := hd.2.1; have := Hnc.out; omega
  have Hd := Lib.hid (show xs.drop k = 40 :: xs.drop (k + 1) from hd.2.2)
  clear hd hkk3 hkke
  go_wp2_with fail
  rw [Hwz.out]
  (with_reducible refine (rgroup_any (k := k + 1) Hz.out (by omega) (by omega) (Ha.out)).mono ?_)
  rintro e w2 ⟨A, q, ys, k2, c2, rfl, h2, hf2, hx2, hok, hn, hg⟩
  have Hok := Lib.hid hok
  have Hn := Lib.hid hn
  have Hneg : Hid (c2 ≠ 0 → NoAtom (xs.drop k)) := Lib.hid (fun h0 => by rw [Hd.out]; exact hg.2 h0)
  have Hg : Hid (c2 = 0 → ∃ r, Atom (xs.drop k) r (xs.drop k2) ∧ ys = r.flat 0) := Lib.hid (fun h0 => by
   obtain ⟨l, h | h, hys⟩ := hg.1 h0
   ·exact ⟨_, by rw [Hd.out]; exact Atom.group h.1 h.2, hys⟩
   ·exact ⟨_, by rw [Hd.out, h.1]; exact Atom.group2 h.2, hys⟩)
  have H2 := Lib.hid h2
  have F2 := Lib.hid (Fz.out.then hf2)
  have Hx2 := Lib.hid hx2
  clear h2 hf2 hx2 hok hn hg
  go_wp2_with fail
  go_ret
  exact ⟨A, q, ys, k2, c2, rfl, H2.out, F2.out, Hx2.out, Hok.out, fun e => by rw [Hn.out e]; simp, Hg.out, Hneg.out⟩
 have n40 : (c == 40) = false := by simpa using e40
 by_cases e91 : c = 91
 ·subst e91
  have hd := nx_drop Hc.out (by omega) (by omega)
  obtain rfl : kk = k + 1 := by have := hd.2.1; omega
  obtain rfl : nc = 1 := by have h1 := hd.2.1; have := Hnc.out; omega
  have Hd := Lib.hid (show xs.drop k = 91 :: xs.drop (k + 1) from hd.2.2)
  clear hd hkk3 hkke
  go_wp2_with fail
  rw [Hwz.out]
  (with_reducible refine (rclass_any (k := k + 1) Hz.out (by omega) (by omega)).mono ?_)
  rintro e w2 ⟨A, q, ys, k2, c2, rfl, h2, hf2, hx2, hn, hg⟩
  have Hn := Lib.hid hn
  have Hneg : Hid (c2 ≠ 0 → NoAtom (xs.drop k)) := Lib.hid (fun h0 => by rw [Hd.out]; exact hg.2 h0)
  have Hg : Hid (c2 = 0 → ∃ r, Atom (xs.drop k) r (xs.drop k2) ∧ ys = r.flat 0) := Lib.hid (fun h0 => by
   obtain ⟨cs, hys, L, h | h⟩ := hg.1 h0
   ·exact ⟨.set cs, by rw [Hd.out]; exact Atom.cls h.1 h.2.1 h.2.2, by rw [hys]; rfl⟩
   ·exact ⟨.set cs, by rw [Hd.out, h.1]; exact Atom.classN h.2.1 h.2.2, by rw [hys]; rfl⟩)
  have Hok : Hid (OkX ys) := Lib.hid (by
   by_cases h0 : c2 = 0
   ·obtain ⟨cs, hys, _⟩ := hg.1 h0
    rw [hys]; exact OkX.flat (.set cs)
   ·rw [hn h0]; exact OkX.nil)
  have H2 := Lib.hid h2
  have F2 := Lib.hid (Fz.out.then hf2)
  have Hx2 := Lib.hid hx2
  clear h2 hf2 hx2 hn hg
  go_wp2_with fail
  go_ret
  exact ⟨A, q, ys, k2, c2, rfl, H2.out, F2.out, Hx2.out, Hok.out, fun e => by rw [Hn.out e]; simp, Hg.out, Hneg.out⟩
 have n91 : (c == 91) = false := by simpa using e91
 by_cases e92 : c = 92
 ·subst e92
  have hd := nx_drop Hc.out (by omega) (by omega)
  obtain rfl : kk = k + 1 := by have := hd.2.1; omega
  obtain rfl : nc = 1 := by have h1 := hd.2.1; have := Hnc.out; omega
  have Hd := Lib.hid (show xs.drop k = 92 :: xs.drop (k + 1) from hd.2.2)
  clear hd hkk3 hkke
  go_wp2_with fail
  rw [Hwz.out]
  (with_reducible refine (rescape_any (k := k + 1) Hz.out (by omega) (by omega)).mono ?_)
  rintro e w3 ⟨x, A, n, q, b, k3, q3, rfl, h3, hf3, ⟨hx1, hx2⟩, hb, hnb, hok⟩
  have H3 := Lib.hid h3
  have F3 := Lib.hid (Fz.out.then hf3)
  have Hb3 := Lib.hid hb
  have Hok := Lib.hid hok
  have hk3 := h3.le
  have Hnb := Lib.hid hnb
  clear h3 hf3 hb hok hnb
  cases b
  case true =>
   obtain rfl := Hb3.out rfl
   obtain ⟨L, hL, hr⟩ : ∃ L, EscS (xs.drop (k + 1)) L (xs.drop k3) ∧ Rns w3 0 (.slice A n q) (flatS L) := by
    rcases Hok.out.1 rfl with ⟨h, _⟩ | ⟨_, h⟩
    ·cases h
    ·exact h
   have hspl := hL.ok
   have HL := Lib.hid hL
   have Hr := Lib.hid hr
   have Hsp := Lib.hid hspl.1
   have hsl := hspl.2
   clear hL hr hspl
   go_wp2_with fail
   (with_reducible refine (rranges_any Hr.out (by omega) Hsp.out false).mono ?_)
   rintro e w5 ⟨cs, rfl, hset, hb5⟩
   have Hset := Lib.hid (show SetOf (inSp L) cs from hset.wk (fun c _ => by unfold butP; simp))
   have Hb5 := Lib.hid hb5
   clear hset hb5
   go_wp2_with fail
   go_ret
   exact ⟨some ⟨w5.heap.size, 0, none⟩, 1, setX cs, k3, 0, rfl, (H3.out.below Hb5.out).below (alloc_below _ _), (F3.out.then (Fr.of_below Hb5.out)).then (Fr.of_below (alloc_below _ _)), exC_row (g := 0), OkX.flat (.set cs), fun e => absurd rfl e, fun _ => ⟨.set cs, by rw [Hd.out]; exact Atom.escS HL.out Hset.out, rfl⟩, fun e => absurd rfl e⟩
  obtain ⟨rfl, rfl, rfl⟩ := Hnb.out rfl
  go_wp2_with fail
  (with_reducible refine (letter_any x w3).mono ?_)
  rintro e w5 ⟨A5, n5, q5, rfl, hb5, hx5⟩
  obtain rfl : n5 = [oneX 2 x].length := by obtain ⟨_, _, e, _⟩ := hx5.form; exact (Value.slice.inj e).2.1
  have Hb5 := Lib.hid hb5
  have Hx5 := Lib.hid hx5
  clear hb5 hx5
  go_wp2_with fail
  go_ret
  refine ⟨A5, q5, [oneX 2 x], k3, q3, rfl, H3.out.below Hb5.out, F3.out.then (Fr.of_below Hb5.out), Hx5.out.low (Nat.zero_le _), OkX.one _ _, fun _ => by simp, fun h0 => ⟨.chr x, ?_, rfl⟩, fun h0 => by rw [Hd.out]; exact noatom_esc (Hok.out.2 h0).1 (Hok.out.2 h0).2⟩
  rcases Hok.out.1 h0 with ⟨_, h⟩ | ⟨h, _⟩
  ·rw [Hd.out]; exact Atom.escC h
  ·cases h
 have n92 : (c == 92) = false := by simpa using e92
 have Hchr := Lib.hid (show Atom (xs.drop k) (.chr c) (xs.drop kk) from by
  have hs := Atom.chr (xs := xs.drop k) (by rw [Hc.out]; omega) (by rw [Hc.out]; exact Hb.out) (by rw [Hc.out]; exact ⟨e46, e94, e36, e40, e91, e92⟩)
  rw [List.drop_drop, hkke, Hc.out] at hs; exact hs)
 clear e46 e94 e36 e40 e91 e92 e1 e2 hkke
 go_wp2_with fail
 rw [Hwz.out]
 (with_reducible refine (lookz_any Hz.out _ k rfl (by omega)).mono ?_)
 rintro e w2 ⟨rfl, hb2⟩
 rw [Hc.out]
 generalize ((nl (xs.drop k) : Nat) : Int) = nd
 have Hb2 := Lib.hid hb2
 clear hb2 c0z c1z c2z f1z
 go_wp2_with fail
 (with_reducible refine (letter_any c w2).mono ?_)
 rintro e w5 ⟨A5, n5, q5, rfl, hb5, hx5⟩
 obtain rfl : n5 = [oneX 2 c].length := by obtain ⟨_, _, e, _⟩ := hx5.form; exact (Value.slice.inj e).2.1
 have Hb5 := Lib.hid hb5
 have Hx5 := Lib.hid hx5
 clear hb5 hx5
 go_wp2_with fail
 go_ret
 exact ⟨A5, q5, [oneX 2 c], kk, 0, rfl, (Hz.out.below Hb2.out).below Hb5.out, (Fz.out.then (Fr.of_below Hb2.out)).then (Fr.of_below Hb5.out), Hx5.out.low (Nat.zero_le _), OkX.one _ _, fun _ => by simp, fun _ => ⟨.chr c, Hchr.out, rfl⟩, fun e => absurd rfl e⟩
def PieceP (xs : List UInt8) (rb k : Nat) (w : World) (e : Ending) (w' : World) : Prop := ∃ (A : Option Addr) (q : Nat) (ys : List Ex) (k' : Nat) (c : Int), e = .returned (.slice A ys.length q) ∧ Rd xs rb w' k' c ∧ Fr rb w w' ∧ XRow w' 0 (.slice A ys.length q) ys ∧ OkX ys ∧ ys.length ≤ 1000 ∧ (c = 0 → ∃ r, Piece (xs.drop k) r (xs.drop k') ∧ ys = r.flat 0) ∧ (c ≠ 0 → NoPiece (xs.drop k))
set_option maxHeartbeats 32000000 in
set_option maxRecDepth 100000 in
theorem rpiece_any {xs : List UInt8} {rb k : Nat} {w : World} (h : Rd xs rb w k 0) (hk : k ≤ xs.length + 1) (hl : xs.length ≤ 400) (ha : AltAt xs (k + 1)) : Calls Tryz.prog 99 #[.pointer (some ⟨rb, 0, none⟩)] w fun e w' => PieceP xs rb k w e w' := by
 have H := Lib.hid h
 have F0 := Lib.hid (Fr.refl rb w)
 obtain ⟨pb, cap, -, c0, c1, c2, f1⟩ := h.cells
 clear h
 go_enter Tryz.func99, Tryz.ntmps99
 go_wp2_with fail
 (with_reducible refine (lookz_any H.out _ (k) (by omega) (by omega)).mono ?_)
 rintro e w1 ⟨rfl, hb⟩
 have F1 := Lib.hid (F0.out.then (Fr.of_below hb))
 have h1 := H.out.below hb
 clear hb c0 c1 c2 f1
 obtain ⟨pb1, cap1, -, c01, c11, c21, f11⟩ := h1.cells
 have H1 := Lib.hid h1
 obtain ⟨c, hc⟩ : ∃ c, nx (xs.drop (k)) = c := ⟨_, rfl⟩
 rw [hc]
 have hbc := nx_le (xs.drop (k))
 rw [hc] at hbc
 obtain ⟨hbc1, hbc2⟩ := hbc
 obtain ⟨nc, hnc⟩ : ∃ n : Int, ((nl (xs.drop (k)) : Nat) : Int) = n := ⟨_, rfl⟩
 rw [hnc]
 have Hc := Lib.hid hc
 have Hnc := Lib.hid hnc
 clear h1 hc hnc
 go_wp2_with fail
 (with_reducible refine (ratom_any H1.out hk hl ha).mono ?_)
 rintro e w2 ⟨A, q, ys, k2, c2, rfl, h2, hf2, hx2, hok2, hn2, hr2⟩
 have H2 := Lib.hid h2
 have F2 := Lib.hid (F1.out.then hf2)
 have Hx2 := Lib.hid hx2
 have Hok2 := Lib.hid hok2
 have Hn2 := Lib.hid hn2
 have Hr2 := Lib.hid hr2
 have hk2 := h2.le
 clear h2 hf2 hx2 hok2 hn2 hr2 c01 c11 c21 f11
 go_wp2_with fail
 (with_reducible refine (good_any H2.out).mono ?_)
 rintro e w' ⟨rfl, rfl⟩
 by_cases hq : c2 = 0
 case neg =>
  have hq' : decide (c2 = 0) = false := by simpa using hq
  have Hq := Lib.hid hq
  clear hq
  go_wp2_with fail
  go_ret
  exact ⟨A, q, ys, k2, c2, rfl, H2.out, F2.out, Hx2.out, Hok2.out, by have := Hn2.out Hq.out; omega, fun e => absurd e Hq.out, fun h => nopiece_atom (Hr2.out.2 h)⟩
 subst hq
 obtain ⟨r, hat, hys⟩ := Hr2.out.1 rfl
 have hyl : ys.length ≤ 800 := by have h1 := hat.size; rw [hys, r.flat_len]; simp only [List.length_drop] at h1; omega
 have H0 := Lib.hid (show ys ≠ [] by intro e; have h1 := congrArg List.length e; rw [hys, r.flat_len] at h1; have := r.size_pos; simp at h1; omega)
 have Hat := Lib.hid hat
 have Hys := Lib.hid hys
 have Hbd := Lib.hid (Hok2.out.bd (by omega))
 clear hat hys Hr2 Hn2
 obtain ⟨pb2, cap2, -, c02, c12, c22, f12⟩ := H2.out.cells
 go_wp2_with fail
 (with_reducible refine (lookz_any H2.out _ (k2) (by omega) (by omega)).mono ?_)
 rintro e w3 ⟨rfl, hb⟩
 have Hx3 := Lib.hid (Hx2.out.below hb)
 have F3 := Lib.hid (F2.out.then (Fr.of_below hb))
 have h3 := H2.out.below hb
 clear hb c02 c12 c22 f12
 obtain ⟨pb3, cap3, -, c03, c13, c23, f13⟩ := h3.cells
 have H3 := Lib.hid h3
 obtain ⟨d, hd⟩ : ∃ c, nx (xs.drop (k2)) = c := ⟨_, rfl⟩
 rw [hd]
 have hbd := nx_le (xs.drop (k2))
 rw [hd] at hbd
 obtain ⟨hbd1, hbd2⟩ := hbd
 obtain ⟨nd, hnd⟩ : ∃ n : Int, ((nl (xs.drop (k2)) : Nat) : Int) = n := ⟨_, rfl⟩
 rw [hnd]
 have Hd := Lib.hid hd
 have Hnd := Lib.hid hnd
 clear h3 hd hnd
 by_cases a94 : c = 94
 ·subst a94
  go_wp2_with fail
  (with_reducible refine (good_any H3.out).mono ?_)
  rintro e w' ⟨rfl, rfl⟩
  go_wp2_with fail
  (with_reducible refine (lookz_any H3.out _ (k2) (by omega) (by omega)).mono ?_)
  rintro e wt ⟨rfl, hb⟩
  have Hxt := Lib.hid (Hx3.out.below hb)
  have Ft := Lib.hid (F3.out.then (Fr.of_below hb))
  have ht := H3.out.below hb
  clear hb c03 c13 c23 f13
  obtain ⟨pbt, capt, -, c0t, c1t, c2t, f1t⟩ := ht.cells
  have Ht := Lib.hid ht
  obtain ⟨g, hg⟩ : ∃ c, nx (xs.drop (k2)) = c := ⟨_, rfl⟩
  rw [hg]
  have hbg := nx_le (xs.drop (k2))
  rw [hg] at hbg
  obtain ⟨hbg1, hbg2⟩ := hbg
  obtain ⟨ng, hng⟩ : ∃ n : Int, ((nl (xs.drop (k2)) : Nat) : Int) = n := ⟨_, rfl⟩
  rw [hng]
  have Hg := Lib.hid hg
  have Hng := Lib.hid hng
  clear ht hg hng
  go_wp2_with fail
  (with_reducible refine (is_rpt g wt).mono ?_)
  rintro e w' ⟨rfl, rfl⟩
  rw [isIn_rpt]
  obtain ⟨b, hb⟩ : ∃ b, rptB g = b := ⟨_, rfl⟩
  rw [hb]
  have Hb := Lib.hid (show rptB (nx (xs.drop (k2))) = b by rw [Hg.out]; exact hb)
  clear hb
  cases b
  case true =>
   go_wp2_with fail
   (with_reducible refine (wrongz_any Ht.out _ (k2) (by omega) (by omega)).mono ?_)
   rintro e wx ⟨rfl, qx, hq, hx, hf⟩
   have hfx := hf
   have Hx := Lib.hid (And.intro hq (And.intro hx (Ft.out.then hf)))
   clear hq hx hf c0t c1t c2t f1t
   go_wp2_with fail
   go_ret
   exact ⟨A, q, ys, _, _, rfl, Hx.out.2.1, Hx.out.2.2, Hxt.out.rd ((Fr.of_below (Below.refl _ _)).then hfx) Ht.out.typed, Hok2.out, by omega, fun e => absurd e Hx.out.1, fun _ => nopiece_bare (.inl Hc.out) Hat.out Hb.out⟩
  go_wp2_with fail
  go_ret
  exact ⟨A, q, ys, k2, 0, rfl, Ht.out, Ft.out, Hxt.out, Hok2.out, by omega, fun _ => ⟨r, Piece.bare Hat.out Hb.out, Hys.out⟩, fun e => absurd rfl e⟩
 have m94 : (c != 94) = true := by simpa using a94
 by_cases a36 : c = 36
 ·subst a36
  go_wp2_with fail
  (with_reducible refine (good_any H3.out).mono ?_)
  rintro e w' ⟨rfl, rfl⟩
  go_wp2_with fail
  (with_reducible refine (lookz_any H3.out _ (k2) (by omega) (by omega)).mono ?_)
  rintro e wt ⟨rfl, hb⟩
  have Hxt := Lib.hid (Hx3.out.below hb)
  have Ft := Lib.hid (F3.out.then (Fr.of_below hb))
  have ht := H3.out.below hb
  clear hb c03 c13 c23 f13
  obtain ⟨pbt, capt, -, c0t, c1t, c2t, f1t⟩ := ht.cells
  have Ht := Lib.hid ht
  obtain ⟨g, hg⟩ : ∃ c, nx (xs.drop (k2)) = c := ⟨_, rfl⟩
  rw [hg]
  have hbg := nx_le (xs.drop (k2))
  rw [hg] at hbg
  obtain ⟨hbg1, hbg2⟩ := hbg
  obtain ⟨ng, hng⟩ : ∃ n : Int, ((nl (xs.drop (k2)) : Nat) : Int) = n := ⟨_, rfl⟩
  rw [hng]
  have Hg := Lib.hid hg
  have Hng := Lib.hid hng
  clear ht hg hng
  go_wp2_with fail
  (with_reducible refine (is_rpt g wt).mono ?_)
  rintro e w' ⟨rfl, rfl⟩
  rw [isIn_rpt]
  obtain ⟨b, hb⟩ : ∃ b, rptB g = b := ⟨_, rfl⟩
  rw [hb]
  have Hb := Lib.hid (show rptB (nx (xs.drop (k2))) = b by rw [Hg.out]; exact hb)
  clear hb
  cases b
  case true =>
   go_wp2_with fail
   (with_reducible refine (wrongz_any Ht.out _ (k2) (by omega) (by omega)).mono ?_)
   rintro e wx ⟨rfl, qx, hq, hx, hf⟩
   have hfx := hf
   have Hx := Lib.hid (And.intro hq (And.intro hx (Ft.out.then hf)))
   clear hq hx hf c0t c1t c2t f1t
   go_wp2_with fail
   go_ret
   exact ⟨A, q, ys, _, _, rfl, Hx.out.2.1, Hx.out.2.2, Hxt.out.rd ((Fr.of_below (Below.refl _ _)).then hfx) Ht.out.typed, Hok2.out, by omega, fun e => absurd e Hx.out.1, fun _ => nopiece_bare (.inr Hc.out) Hat.out Hb.out⟩
  go_wp2_with fail
  go_ret
  exact ⟨A, q, ys, k2, 0, rfl, Ht.out, Ft.out, Hxt.out, Hok2.out, by omega, fun _ => ⟨r, Piece.bare Hat.out Hb.out, Hys.out⟩, fun e => absurd rfl e⟩
 have m36 : (c != 36) = true := by simpa using a36
 have Hna := Lib.hid (show nx (xs.drop k) ≠ 94 ∧ nx (xs.drop k) ≠ 36 by rw [Hc.out]; exact ⟨a94, a36⟩)
 clear a94 a36
 by_cases e42 : d = 42
 ·subst e42
  have hd := nx_drop Hd.out (by omega) (by omega)
  have hk3 : k2 + 1 ≤ xs.length := by have := hd.1; omega
  have Hdd := Lib.hid (show xs.drop k2 = 42 :: xs.drop (k2 + 1) from hd.2.2)
  clear hd
  obtain ⟨wz, hwz⟩ : ∃ wz, w3.setCell ⟨rb, 1, none⟩ (.int .i64 ((k2 : Int) + 1)) = wz := ⟨_, rfl⟩
  have hz := H3.out.setz (z := (k2 : Int) + 1) (m := k2 + 1) (by omega) (by omega)
  have fz2 := Fr.set rb 1 w3 (.int .i64 ((k2 : Int) + 1))
  rw [hwz] at hz fz2
  have fz := F3.out.then fz2
  have Hxz := Lib.hid (Hx3.out.rd fz2 H3.out.typed)
  have Hz := Lib.hid hz
  have Fz := Lib.hid fz
  have Hwz := Lib.hid hwz
  clear hz fz hwz fz2
  go_wp2_with fail
  rw [Hwz.out]
  (with_reducible refine (many_any Hxz.out H0.out Hbd.out (by omega) 0 (-1)).mono ?_)
  rintro e wm ⟨Am, nm, qm, rfl, hbm, hxm⟩
  obtain rfl : nm = (manyX ys 0 (-1)).length := by obtain ⟨_, _, e, _⟩ := hxm.form; exact (Value.slice.inj e).2.1
  have hml : (manyX ys 0 (-1)).length ≤ 900 := by simp [manyX]; omega
  have Hokm := Lib.hid (OkX.many (mn := 0) (mx := (-1)) Hok2.out)
  have Hm := Lib.hid (Hz.out.below hbm)
  have Fm := Lib.hid (Fz.out.then (Fr.of_below hbm))
  have Hxm := Lib.hid (hxm.low (Nat.zero_le _))
  have Hym := Lib.hid (show manyX ys 0 (-1) = (Rx.rep r 0 (-1)).flat 0 by rw [Hys.out, many_flat])
  clear hbm hxm c03 c13 c23 f13
  obtain ⟨pbm, capm, -, c0m, c1m, c2m, f1m⟩ := Hm.out.cells
  generalize manyX ys 0 (-1) = Y at *
  go_wp2_with fail
  (with_reducible refine (good_any Hm.out).mono ?_)
  rintro e w' ⟨rfl, rfl⟩
  go_wp2_with fail
  (with_reducible refine (lookz_any Hm.out _ (k2 + 1) (by omega) (by omega)).mono ?_)
  rintro e wt ⟨rfl, hb⟩
  have Hxt := Lib.hid (Hxm.out.below hb)
  have Ft := Lib.hid (Fm.out.then (Fr.of_below hb))
  have ht := Hm.out.below hb
  clear hb c0m c1m c2m f1m
  obtain ⟨pbt, capt, -, c0t, c1t, c2t, f1t⟩ := ht.cells
  have Ht := Lib.hid ht
  obtain ⟨g, hg⟩ : ∃ c, nx (xs.drop (k2 + 1)) = c := ⟨_, rfl⟩
  rw [hg]
  have hbg := nx_le (xs.drop (k2 + 1))
  rw [hg] at hbg
  obtain ⟨hbg1, hbg2⟩ := hbg
  obtain ⟨ng, hng⟩ : ∃ n : Int, ((nl (xs.drop (k2 + 1)) : Nat) : Int) = n := ⟨_, rfl⟩
  rw [hng]
  have Hg := Lib.hid hg
  have Hng := Lib.hid hng
  clear ht hg hng
  go_wp2_with fail
  (with_reducible refine (is_rpt g wt).mono ?_)
  rintro e w' ⟨rfl, rfl⟩
  rw [isIn_rpt]
  obtain ⟨b, hb⟩ : ∃ b, rptB g = b := ⟨_, rfl⟩
  rw [hb]
  have Hb := Lib.hid (show rptB (nx (xs.drop (k2 + 1))) = b by rw [Hg.out]; exact hb)
  clear hb
  cases b
  case true =>
   go_wp2_with fail
   (with_reducible refine (wrongz_any Ht.out _ (k2 + 1) (by omega) (by omega)).mono ?_)
   rintro e wx ⟨rfl, qx, hq, hx, hf⟩
   have hfx := hf
   have Hx := Lib.hid (And.intro hq (And.intro hx (Ft.out.then hf)))
   clear hq hx hf c0t c1t c2t f1t
   go_wp2_with fail
   go_ret
   exact ⟨Am, qm, Y, _, _, rfl, Hx.out.2.1, Hx.out.2.2, Hxt.out.rd ((Fr.of_below (Below.refl _ _)).then hfx) Ht.out.typed, Hokm.out, by omega, fun e => absurd e Hx.out.1, fun _ => nopiece_again Hat.out (show Quant (xs.drop k2) 0 (-1) (xs.drop (k2 + 1)) by rw [Hdd.out]; exact Quant.star) Hb.out⟩
  go_wp2_with fail
  go_ret
  exact ⟨Am, qm, Y, k2 + 1, 0, rfl, Ht.out, Ft.out, Hxt.out, Hokm.out, by omega, fun _ => ⟨.rep r 0 (-1), Piece.rep Hna.out Hat.out (by rw [Hdd.out]; exact Quant.star) Hb.out, Hym.out⟩, fun e => absurd rfl e⟩
 have n42 : (d == 42) = false := by simpa using e42
 by_cases e43 : d = 43
 ·subst e43
  have hd := nx_drop Hd.out (by omega) (by omega)
  have hk3 : k2 + 1 ≤ xs.length := by have := hd.1; omega
  have Hdd := Lib.hid (show xs.drop k2 = 43 :: xs.drop (k2 + 1) from hd.2.2)
  clear hd
  obtain ⟨wz, hwz⟩ : ∃ wz, w3.setCell ⟨rb, 1, none⟩ (.int .i64 ((k2 : Int) + 1)) = wz := ⟨_, rfl⟩
  have hz := H3.out.setz (z := (k2 : Int) + 1) (m := k2 + 1) (by omega) (by omega)
  have fz2 := Fr.set rb 1 w3 (.int .i64 ((k2 : Int) + 1))
  rw [hwz] at hz fz2
  have fz := F3.out.then fz2
  have Hxz := Lib.hid (Hx3.out.rd fz2 H3.out.typed)
  have Hz := Lib.hid hz
  have Fz := Lib.hid fz
  have Hwz := Lib.hid hwz
  clear hz fz hwz fz2
  go_wp2_with fail
  rw [Hwz.out]
  (with_reducible refine (many_any Hxz.out H0.out Hbd.out (by omega) 1 (-1)).mono ?_)
  rintro e wm ⟨Am, nm, qm, rfl, hbm, hxm⟩
  obtain rfl : nm = (manyX ys 1 (-1)).length := by obtain ⟨_, _, e, _⟩ := hxm.form; exact (Value.slice.inj e).2.1
  have hml : (manyX ys 1 (-1)).length ≤ 900 := by simp [manyX]; omega
  have Hokm := Lib.hid (OkX.many (mn := 1) (mx := (-1)) Hok2.out)
  have Hm := Lib.hid (Hz.out.below hbm)
  have Fm := Lib.hid (Fz.out.then (Fr.of_below hbm))
  have Hxm := Lib.hid (hxm.low (Nat.zero_le _))
  have Hym := Lib.hid (show manyX ys 1 (-1) = (Rx.rep r 1 (-1)).flat 0 by rw [Hys.out, many_flat])
  clear hbm hxm c03 c13 c23 f13
  obtain ⟨pbm, capm, -, c0m, c1m, c2m, f1m⟩ := Hm.out.cells
  generalize manyX ys 1 (-1) = Y at *
  go_wp2_with fail
  (with_reducible refine (good_any Hm.out).mono ?_)
  rintro e w' ⟨rfl, rfl⟩
  go_wp2_with fail
  (with_reducible refine (lookz_any Hm.out _ (k2 + 1) (by omega) (by omega)).mono ?_)
  rintro e wt ⟨rfl, hb⟩
  have Hxt := Lib.hid (Hxm.out.below hb)
  have Ft := Lib.hid (Fm.out.then (Fr.of_below hb))
  have ht := Hm.out.below hb
  clear hb c0m c1m c2m f1m
  obtain ⟨pbt, capt, -, c0t, c1t, c2t, f1t⟩ := ht.cells
  have Ht := Lib.hid ht
  obtain ⟨g, hg⟩ : ∃ c, nx (xs.drop (k2 + 1)) = c := ⟨_, rfl⟩
  rw [hg]
  have hbg := nx_le (xs.drop (k2 + 1))
  rw [hg] at hbg
  obtain ⟨hbg1, hbg2⟩ := hbg
  obtain ⟨ng, hng⟩ : ∃ n : Int, ((nl (xs.drop (k2 + 1)) : Nat) : Int) = n := ⟨_, rfl⟩
  rw [hng]
  have Hg := Lib.hid hg
  have Hng := Lib.hid hng
  clear ht hg hng
  go_wp2_with fail
  (with_reducible refine (is_rpt g wt).mono ?_)
  rintro e w' ⟨rfl, rfl⟩
  rw [isIn_rpt]
  obtain ⟨b, hb⟩ : ∃ b, rptB g = b := ⟨_, rfl⟩
  rw [hb]
  have Hb := Lib.hid (show rptB (nx (xs.drop (k2 + 1))) = b by rw [Hg.out]; exact hb)
  clear hb
  cases b
  case true =>
   go_wp2_with fail
   (with_reducible refine (wrongz_any Ht.out _ (k2 + 1) (by omega) (by omega)).mono ?_)
   rintro e wx ⟨rfl, qx, hq, hx, hf⟩
   have hfx := hf
   have Hx := Lib.hid (And.intro hq (And.intro hx (Ft.out.then hf)))
   clear hq hx hf c0t c1t c2t f1t
   go_wp2_with fail
   go_ret
   exact ⟨Am, qm, Y, _, _, rfl, Hx.out.2.1, Hx.out.2.2, Hxt.out.rd ((Fr.of_below (Below.refl _ _)).then hfx) Ht.out.typed, Hokm.out, by omega, fun e => absurd e Hx.out.1, fun _ => nopiece_again Hat.out (show Quant (xs.drop k2) 1 (-1) (xs.drop (k2 + 1)) by rw [Hdd.out]; exact Quant.plus) Hb.out⟩
  go_wp2_with fail
  go_ret
  exact ⟨Am, qm, Y, k2 + 1, 0, rfl, Ht.out, Ft.out, Hxt.out, Hokm.out, by omega, fun _ => ⟨.rep r 1 (-1), Piece.rep Hna.out Hat.out (by rw [Hdd.out]; exact Quant.plus) Hb.out, Hym.out⟩, fun e => absurd rfl e⟩
 have n43 : (d == 43) = false := by simpa using e43
 by_cases e63 : d = 63
 ·subst e63
  have hd := nx_drop Hd.out (by omega) (by omega)
  have hk3 : k2 + 1 ≤ xs.length := by have := hd.1; omega
  have Hdd := Lib.hid (show xs.drop k2 = 63 :: xs.drop (k2 + 1) from hd.2.2)
  clear hd
  obtain ⟨wz, hwz⟩ : ∃ wz, w3.setCell ⟨rb, 1, none⟩ (.int .i64 ((k2 : Int) + 1)) = wz := ⟨_, rfl⟩
  have hz := H3.out.setz (z := (k2 : Int) + 1) (m := k2 + 1) (by omega) (by omega)
  have fz2 := Fr.set rb 1 w3 (.int .i64 ((k2 : Int) + 1))
  rw [hwz] at hz fz2
  have fz := F3.out.then fz2
  have Hxz := Lib.hid (Hx3.out.rd fz2 H3.out.typed)
  have Hz := Lib.hid hz
  have Fz := Lib.hid fz
  have Hwz := Lib.hid hwz
  clear hz fz hwz fz2
  go_wp2_with fail
  rw [Hwz.out]
  (with_reducible refine (many_any Hxz.out H0.out Hbd.out (by omega) 0 1).mono ?_)
  rintro e wm ⟨Am, nm, qm, rfl, hbm, hxm⟩
  obtain rfl : nm = (manyX ys 0 1).length := by obtain ⟨_, _, e, _⟩ := hxm.form; exact (Value.slice.inj e).2.1
  have hml : (manyX ys 0 1).length ≤ 900 := by simp [manyX]; omega
  have Hokm := Lib.hid (OkX.many (mn := 0) (mx := 1) Hok2.out)
  have Hm := Lib.hid (Hz.out.below hbm)
  have Fm := Lib.hid (Fz.out.then (Fr.of_below hbm))
  have Hxm := Lib.hid (hxm.low (Nat.zero_le _))
  have Hym := Lib.hid (show manyX ys 0 1 = (Rx.rep r 0 1).flat 0 by rw [Hys.out, many_flat])
  clear hbm hxm c03 c13 c23 f13
  obtain ⟨pbm, capm, -, c0m, c1m, c2m, f1m⟩ := Hm.out.cells
  generalize manyX ys 0 1 = Y at *
  go_wp2_with fail
  (with_reducible refine (good_any Hm.out).mono ?_)
  rintro e w' ⟨rfl, rfl⟩
  go_wp2_with fail
  (with_reducible refine (lookz_any Hm.out _ (k2 + 1) (by omega) (by omega)).mono ?_)
  rintro e wt ⟨rfl, hb⟩
  have Hxt := Lib.hid (Hxm.out.below hb)
  have Ft := Lib.hid (Fm.out.then (Fr.of_below hb))
  have ht := Hm.out.below hb
  clear hb c0m c1m c2m f1m
  obtain ⟨pbt, capt, -, c0t, c1t, c2t, f1t⟩ := ht.cells
  have Ht := Lib.hid ht
  obtain ⟨g, hg⟩ : ∃ c, nx (xs.drop (k2 + 1)) = c := ⟨_, rfl⟩
  rw [hg]
  have hbg := nx_le (xs.drop (k2 + 1))
  rw [hg] at hbg
  obtain ⟨hbg1, hbg2⟩ := hbg
  obtain ⟨ng, hng⟩ : ∃ n : Int, ((nl (xs.drop (k2 + 1)) : Nat) : Int) = n := ⟨_, rfl⟩
  rw [hng]
  have Hg := Lib.hid hg
  have Hng := Lib.hid hng
  clear ht hg hng
  go_wp2_with fail
  (with_reducible refine (is_rpt g wt).mono ?_)
  rintro e w' ⟨rfl, rfl⟩
  rw [isIn_rpt]
  obtain ⟨b, hb⟩ : ∃ b, rptB g = b := ⟨_, rfl⟩
  rw [hb]
  have Hb := Lib.hid (show rptB (nx (xs.drop (k2 + 1))) = b by rw [Hg.out]; exact hb)
  clear hb
  cases b
  case true =>
   go_wp2_with fail
   (with_reducible refine (wrongz_any Ht.out _ (k2 + 1) (by omega) (by omega)).mono ?_)
   rintro e wx ⟨rfl, qx, hq, hx, hf⟩
   have hfx := hf
   have Hx := Lib.hid (And.intro hq (And.intro hx (Ft.out.then hf)))
   clear hq hx hf c0t c1t c2t f1t
   go_wp2_with fail
   go_ret
   exact ⟨Am, qm, Y, _, _, rfl, Hx.out.2.1, Hx.out.2.2, Hxt.out.rd ((Fr.of_below (Below.refl _ _)).then hfx) Ht.out.typed, Hokm.out, by omega, fun e => absurd e Hx.out.1, fun _ => nopiece_again Hat.out (show Quant (xs.drop k2) 0 1 (xs.drop (k2 + 1)) by rw [Hdd.out]; exact Quant.quest) Hb.out⟩
  go_wp2_with fail
  go_ret
  exact ⟨Am, qm, Y, k2 + 1, 0, rfl, Ht.out, Ft.out, Hxt.out, Hokm.out, by omega, fun _ => ⟨.rep r 0 1, Piece.rep Hna.out Hat.out (by rw [Hdd.out]; exact Quant.quest) Hb.out, Hym.out⟩, fun e => absurd rfl e⟩
 have n63 : (d == 63) = false := by simpa using e63
 by_cases e123 : d = 123
 ·subst e123
  have hd := nx_drop Hd.out (by omega) (by omega)
  have hk3 : k2 + 1 ≤ xs.length := by have := hd.1; omega
  have Hdd := Lib.hid (show xs.drop k2 = 123 :: xs.drop (k2 + 1) from hd.2.2)
  clear hd
  go_wp2_with fail
  (with_reducible refine (rbraces_any H3.out (by omega) (by omega) Hx3.out H0.out Hok2.out (by omega)).mono ?_)
  rintro e w4 ⟨A4, q4, Y, k4, c4, rfl, h4, hf4, hx4, hn4, hr4⟩
  have H4 := Lib.hid h4
  have F4 := Lib.hid (F3.out.then hf4)
  have Hx4 := Lib.hid hx4
  have Hr4 := Lib.hid hr4
  have Hn4 := Lib.hid hn4
  have hk4 := h4.le
  clear h4 hf4 hx4 hr4 hn4 c03 c13 c23 f13
  by_cases hq : c4 = 0
  case neg =>
   have hq' : decide (c4 = 0) = false := by simpa using hq
   have Hq := Lib.hid hq
   clear hq
   obtain rfl := Hn4.out Hq.out
   go_wp2_with fail
   (with_reducible refine (good_any H4.out).mono ?_)
   rintro e w' ⟨rfl, rfl⟩
   go_wp2_with fail
   go_ret
   exact ⟨A4, q4, Y, k4, c4, rfl, H4.out, F4.out, Hx4.out, Hok2.out, by omega, fun e => absurd e Hq.out, fun h => nopiece_br (x := r) (ys := xs.drop (k2 + 1)) (by rw [← Hdd.out]; exact Hat.out) (Hr4.out.2 h)⟩
  subst hq
  obtain ⟨mn, mx, hbr, hY⟩ := Hr4.out.1 rfl
  have hml : Y.length ≤ 900 := by rw [hY]; simp [manyX]; omega
  have Hokm := Lib.hid (show OkX Y by rw [hY]; exact OkX.many Hok2.out)
  have Hbr := Lib.hid hbr
  have Hym := Lib.hid (show Y = (Rx.rep r mn mx).flat 0 by rw [hY, Hys.out, many_flat])
  clear hbr hY
  obtain ⟨pb4, cap4, -, c04, c14, c24, f14⟩ := H4.out.cells
  go_wp2_with fail
  (with_reducible refine (good_any H4.out).mono ?_)
  rintro e w' ⟨rfl, rfl⟩
  go_wp2_with fail
  (with_reducible refine (lookz_any H4.out _ (k4) (by omega) (by omega)).mono ?_)
  rintro e wt ⟨rfl, hb⟩
  have Hxt := Lib.hid (Hx4.out.below hb)
  have Ft := Lib.hid (F4.out.then (Fr.of_below hb))
  have ht := H4.out.below hb
  clear hb c04 c14 c24 f14
  obtain ⟨pbt, capt, -, c0t, c1t, c2t, f1t⟩ := ht.cells
  have Ht := Lib.hid ht
  obtain ⟨g, hg⟩ : ∃ c, nx (xs.drop (k4)) = c := ⟨_, rfl⟩
  rw [hg]
  have hbg := nx_le (xs.drop (k4))
  rw [hg] at hbg
  obtain ⟨hbg1, hbg2⟩ := hbg
  obtain ⟨ng, hng⟩ : ∃ n : Int, ((nl (xs.drop (k4)) : Nat) : Int) = n := ⟨_, rfl⟩
  rw [hng]
  have Hg := Lib.hid hg
  have Hng := Lib.hid hng
  clear ht hg hng
  go_wp2_with fail
  (with_reducible refine (is_rpt g wt).mono ?_)
  rintro e w' ⟨rfl, rfl⟩
  rw [isIn_rpt]
  obtain ⟨b, hb⟩ : ∃ b, rptB g = b := ⟨_, rfl⟩
  rw [hb]
  have Hb := Lib.hid (show rptB (nx (xs.drop (k4))) = b by rw [Hg.out]; exact hb)
  clear hb
  cases b
  case true =>
   go_wp2_with fail
   (with_reducible refine (wrongz_any Ht.out _ (k4) (by omega) (by omega)).mono ?_)
   rintro e wx ⟨rfl, qx, hq, hx, hf⟩
   have hfx := hf
   have Hx := Lib.hid (And.intro hq (And.intro hx (Ft.out.then hf)))
   clear hq hx hf c0t c1t c2t f1t
   go_wp2_with fail
   go_ret
   exact ⟨A4, q4, Y, _, _, rfl, Hx.out.2.1, Hx.out.2.2, Hxt.out.rd ((Fr.of_below (Below.refl _ _)).then hfx) Ht.out.typed, Hokm.out, by omega, fun e => absurd e Hx.out.1, fun _ => nopiece_again Hat.out (show Quant (xs.drop k2) mn mx (xs.drop k4) by rw [Hdd.out]; exact Quant.braces Hbr.out) Hb.out⟩
  go_wp2_with fail
  go_ret
  exact ⟨A4, q4, Y, k4, 0, rfl, Ht.out, Ft.out, Hxt.out, Hokm.out, by omega, fun _ => ⟨.rep r mn mx, Piece.rep Hna.out Hat.out (by rw [Hdd.out]; exact Quant.braces Hbr.out) Hb.out, Hym.out⟩, fun e => absurd rfl e⟩
 have n123 : (d == 123) = false := by simpa using e123
 have Hnr := Lib.hid (show rptB (nx (xs.drop k2)) = false by rw [Hd.out]; simp only [rptB, decide_eq_false e42, decide_eq_false e43, decide_eq_false e63, decide_eq_false e123, Bool.or_false])
 clear e42 e43 e63 e123
 go_wp2_with fail
 (with_reducible refine (good_any H3.out).mono ?_)
 rintro e w' ⟨rfl, rfl⟩
 go_wp2_with fail
 (with_reducible refine (lookz_any H3.out _ (k2) (by omega) (by omega)).mono ?_)
 rintro e wt ⟨rfl, hb⟩
 have Hxt := Lib.hid (Hx3.out.below hb)
 have Ft := Lib.hid (F3.out.then (Fr.of_below hb))
 have ht := H3.out.below hb
 clear hb c03 c13 c23 f13
 obtain ⟨pbt, capt, -, c0t, c1t, c2t, f1t⟩ := ht.cells
 have Ht := Lib.hid ht
 obtain ⟨g, hg⟩ : ∃ c, nx (xs.drop (k2)) = c := ⟨_, rfl⟩
 rw [hg]
 have hbg := nx_le (xs.drop (k2))
 rw [hg] at hbg
 obtain ⟨hbg1, hbg2⟩ := hbg
 obtain ⟨ng, hng⟩ : ∃ n : Int, ((nl (xs.drop (k2)) : Nat) : Int) = n := ⟨_, rfl⟩
 rw [hng]
 have Hg := Lib.hid hg
 have Hng := Lib.hid hng
 clear ht hg hng
 go_wp2_with fail
 (with_reducible refine (is_rpt g wt).mono ?_)
 rintro e w' ⟨rfl, rfl⟩
 rw [isIn_rpt]
 obtain ⟨b, hb⟩ : ∃ b, rptB g = b := ⟨_, rfl⟩
 rw [hb]
 have Hb := Lib.hid (show rptB (nx (xs.drop (k2))) = b by rw [Hg.out]; exact hb)
 clear hb
 cases b
 case true =>
  go_wp2_with fail
  (with_reducible refine (wrongz_any Ht.out _ (k2) (by omega) (by omega)).mono ?_)
  rintro e wx ⟨rfl, qx, hq, hx, hf⟩
  have hfx := hf
  have Hx := Lib.hid (And.intro hq (And.intro hx (Ft.out.then hf)))
  clear hq hx hf c0t c1t c2t f1t
  go_wp2_with fail
  go_ret
  exact ⟨A, q, ys, _, _, rfl, Hx.out.2.1, Hx.out.2.2, Hxt.out.rd ((Fr.of_below (Below.refl _ _)).then hfx) Ht.out.typed, Hok2.out, by omega, fun e => absurd e Hx.out.1, fun _ => absurd (Hb.out.symm.trans Hnr.out) (by decide)⟩
 go_wp2_with fail
 go_ret
 exact ⟨A, q, ys, k2, 0, rfl, Ht.out, Ft.out, Hxt.out, Hok2.out, by omega, fun _ => ⟨r, Piece.bare Hat.out Hb.out, Hys.out⟩, fun e => absurd rfl e⟩
end Go.Proofs.YthhnmpkgleelfaaGreatDoor
