import Derived.Test.YthhnmpkgleelfaaGreatDoorM17
set_option linter.unusedVariables false
set_option linter.unusedSimpArgs false
namespace Go.Proofs.YthhnmpkgleelfaaGreatDoor
open Go.RowKit
def BrP (xs : List UInt8) (rb k : Nat) (w : World) (X : List Ex) (e : Ending) (w' : World) : Prop := ∃ (A : Option Addr) (q : Nat) (ys : List Ex) (k' : Nat) (c : Int), e = .returned (.slice A ys.length q) ∧ Rd xs rb w' k' c ∧ Fr rb w w' ∧ XRow w' 0 (.slice A ys.length q) ys ∧ (c ≠ 0 → ys = X) ∧ (c = 0 → ∃ n m : Int, Braces (xs.drop (k + 1)) n m (xs.drop k') ∧ ys = manyX X n m) ∧ (c ≠ 0 → NoBr (xs.drop (k + 1)))
set_option maxHeartbeats 16000000 in
set_option maxRecDepth 100000 in
theorem rbraces_any {xs : List UInt8} {rb k : Nat} {w : World} {A : Option Addr} {q : Nat} {X : List Ex} (h : Rd xs rb w k 0) (hk : k + 1 ≤ xs.length) (hl : xs.length ≤ 1000000) (hx : XRow w 0 (.slice A X.length q) X) (h0 : X ≠ []) (hok : OkX X) (hX : X.length ≤ 1000000) : Calls Tryz.prog 108 #[.pointer (some ⟨rb, 0, none⟩), .slice A X.length q] w fun e w' => BrP xs rb k w X e w' := by
 have Hbd := Lib.hid (hok.bd hX)
 have HX := Lib.hid (fun (w' : World) (hf : Fr rb w w') => hx.rd hf h.typed)
 have H0 := Lib.hid h0
 have Hs := Lib.hid (h.setz (z := (k : Int) + 1) (m := k + 1) (by omega) (by omega))
 have F0 := Lib.hid (Fr.set rb 1 w (.int .i64 ((k : Int) + 1)))
 obtain ⟨pb, cap, -, c0, c1, c2, f1⟩ := h.cells
 clear h hx hok h0
 go_enter Tryz.func108, Tryz.ntmps108
 go_wp2_with fail
 (with_reducible refine (rnumber_any (k := k + 1) Hs.out hl).mono ?_)
 rintro e w1 ⟨k1, n, rfl, ⟨hn1, hn2⟩, hk1, h1, hf, he⟩
 have F1 := Lib.hid (F0.out.then hf)
 have E1 := Lib.hid he
 have hkl1 := h1.le
 obtain ⟨b1, hb⟩ : ∃ b, hasDig (xs.drop (k + 1)) = b := ⟨_, rfl⟩
 rw [hb]
 have Hb1 := Lib.hid hb
 clear hf he hb c0 c1 c2 f1
 obtain ⟨pb1, cap1, -, c01, c11, c21, f11⟩ := h1.cells
 have H1 := Lib.hid h1
 clear h1
 cases b1
 case false =>
  go_wp2_with fail
  (with_reducible refine (wrongz_any H1.out _ (k1) (by omega) (by omega)).mono ?_)
  rintro e wx ⟨rfl, qx, hq, hx, hf⟩
  have Hx := Lib.hid (And.intro hq (And.intro hx (F1.out.then hf)))
  clear hq hx hf c01 c11 c21 f11
  go_wp2_with fail
  go_ret
  exact ⟨A, q, X, _, _, rfl, Hx.out.2.1, Hx.out.2.2, HX.out _ Hx.out.2.2, fun _ => rfl, fun e => absurd e Hx.out.1, fun _ => nobr_dig Hb1.out⟩
 go_wp2_with fail
 (with_reducible refine (lookz_any H1.out _ (k1) (by omega) (by omega)).mono ?_)
 rintro e w2 ⟨rfl, hb⟩
 have F2 := Lib.hid (F1.out.then (Fr.of_below hb))
 have h2 := H1.out.below hb
 clear hb c01 c11 c21 f11
 obtain ⟨pb2, cap2, -, c02, c12, c22, f12⟩ := h2.cells
 have H2 := Lib.hid h2
 obtain ⟨c, hc⟩ : ∃ c, nx (xs.drop (k1)) = c := ⟨_, rfl⟩
 rw [hc]
 have hbc := nx_le (xs.drop (k1))
 rw [hc] at hbc
 obtain ⟨hbc1, hbc2⟩ := hbc
 obtain ⟨nc, hnc⟩ : ∃ n : Int, ((nl (xs.drop (k1)) : Nat) : Int) = n := ⟨_, rfl⟩
 rw [hnc]
 have Hc := Lib.hid hc
 have Hnc := Lib.hid hnc
 clear h2 hc hnc
 by_cases e44 : c = 44
 case neg =>
  have n44 : (c == 44) = false := by simpa using e44
  by_cases e125 : c = 125
  case neg =>
   have n125 : (c != 125) = true := by simpa using e125
   go_wp2_with fail
   (with_reducible refine (wrongz_any H2.out _ (k1) (by omega) (by omega)).mono ?_)
   rintro e wx ⟨rfl, qx, hq, hx, hf⟩
   have Hx := Lib.hid (And.intro hq (And.intro hx (F2.out.then hf)))
   clear hq hx hf c02 c12 c22 f12
   go_wp2_with fail
   go_ret
   exact ⟨A, q, X, _, _, rfl, Hx.out.2.1, Hx.out.2.2, HX.out _ Hx.out.2.2, fun _ => rfl, fun e => absurd e Hx.out.1, fun _ => nobr_one E1.out (by rw [Hc.out]; exact e44) (.inl (by rw [Hc.out]; exact e125))⟩
  subst e125
  have hd := nx_drop Hc.out (by omega) (by omega)
  have hkd : k1 + 1 ≤ xs.length := by have := hd.1; omega
  have Hd := Lib.hid hd.2.2
  clear hd
  obtain ⟨wz, hwz⟩ : ∃ wz, w2.setCell ⟨rb, 1, none⟩ (.int .i64 ((k1 : Int) + 1)) = wz := ⟨_, rfl⟩
  have hz := H2.out.setz (z := (k1 : Int) + 1) (m := k1 + 1) (by omega) (by omega)
  have fz := F2.out.then (Fr.set rb 1 w2 (.int .i64 ((k1 : Int) + 1)))
  rw [hwz] at hz fz
  have Hz := Lib.hid hz
  have Fz := Lib.hid fz
  have Hwz := Lib.hid hwz
  clear hz fz hwz
  by_cases b1 : 1000 < n
  ·skip
   go_wp2_with fail
   rw [Hwz.out]
   (with_reducible refine (refplaced_any 119 k wz).mono ?_)
   rintro e wf ⟨hh, ll, Af, nf, qf, rfl, hbf⟩
   obtain ⟨old, new, g1, g2, g3, g4, g5⟩ := (Hz.out.below hbf).flt 119 hh ll Af nf qf
   have G1 := Lib.hid g1
   have G2 := Lib.hid g2
   have G3 := Lib.hid g3
   have G4 := Lib.hid g4
   have G5 := Lib.hid ((Fz.out.then (Fr.of_below hbf)).then g5)
   clear g1 g2 g3 g4 g5 hbf
   unfold fltV
   go_wp2_with (refine wpList_store_tail rfl 52 (.tmp 109) (.tmp 107) rfl rfl rb 2 #[.int .i64 119, .int .i64 hh, .int .i64 ll, .slice Af nf qf] new (by simp [Act.eval]) (by simp [Act.eval]) 98 old G1.out infoFault G2.out (flt_one 119 hh ll rfl) G3.out ?_)
   go_ret
   exact ⟨A, q, X, _, 119, rfl, G4.out, G5.out, HX.out _ G5.out, fun _ => rfl, fun e => (by cases e), fun _ => nobr_one E1.out (by rw [Hc.out]; exact e44) (.inr b1)⟩
  have Hbr := Lib.hid (show Braces (xs.drop (k + 1)) n n (xs.drop (k1 + 1)) from Braces.same Hb1.out (by rw [E1.out, Hd.out]; rfl) (by omega))
  go_wp2_with fail
  rw [Hwz.out]
  (with_reducible refine (many_any (HX.out _ Fz.out) H0.out Hbd.out hX n n).mono ?_)
  rintro e wm ⟨Am, nm, qm, rfl, hbm, hxm⟩
  obtain rfl : nm = (manyX X n n).length := by obtain ⟨_, _, e, _⟩ := hxm.form; exact (Value.slice.inj e).2.1
  have Hbm := Lib.hid hbm
  have Hxm := Lib.hid hxm
  clear hbm hxm
  go_wp2_with fail
  go_ret
  exact ⟨Am, qm, manyX X n n, _, 0, rfl, Hz.out.below Hbm.out, Fz.out.then (Fr.of_below Hbm.out), Hxm.out.low (Nat.zero_le _), fun e => absurd rfl e, fun _ => ⟨n, n, Hbr.out, rfl⟩, fun e => absurd rfl e⟩
 subst e44
 have hd1 := nx_drop Hc.out (by omega) (by omega)
 have hk1l : k1 + 1 ≤ xs.length := by have := hd1.1; omega
 have Hd1 := Lib.hid hd1.2.2
 clear hd1
 have Ht := Lib.hid (H2.out.setz (z := (k1 : Int) + 1) (m := k1 + 1) (by omega) (by omega))
 have Ft := Lib.hid (F2.out.then (Fr.set rb 1 w2 (.int .i64 ((k1 : Int) + 1))))
 go_wp2_with fail
 (with_reducible refine (rnumber_any (k := k1 + 1) Ht.out hl).mono ?_)
 rintro e w3 ⟨k3, m, rfl, ⟨hm1, hm2⟩, hk3, h3, hf, he⟩
 have F3 := Lib.hid (Ft.out.then hf)
 have E3 := Lib.hid he
 have hkl3 := h3.le
 obtain ⟨b3, hb⟩ : ∃ b, hasDig (xs.drop (k1 + 1)) = b := ⟨_, rfl⟩
 rw [hb]
 have Hb3 := Lib.hid hb
 clear hf he hb c02 c12 c22 f12
 obtain ⟨pb3, cap3, -, c03, c13, c23, f13⟩ := h3.cells
 have H3 := Lib.hid h3
 clear h3
 cases b3
 case false =>
  go_wp2_with fail
  (with_reducible refine (lookz_any H3.out _ (k3) (by omega) (by omega)).mono ?_)
  rintro e w4 ⟨rfl, hb⟩
  have F4 := Lib.hid (F3.out.then (Fr.of_below hb))
  have h4 := H3.out.below hb
  clear hb c03 c13 c23 f13
  obtain ⟨pb4, cap4, -, c04, c14, c24, f14⟩ := h4.cells
  have H4 := Lib.hid h4
  obtain ⟨d, hd⟩ : ∃ c, nx (xs.drop (k3)) = c := ⟨_, rfl⟩
  rw [hd]
  have hbd := nx_le (xs.drop (k3))
  rw [hd] at hbd
  obtain ⟨hbd1, hbd2⟩ := hbd
  obtain ⟨nd, hnd⟩ : ∃ n : Int, ((nl (xs.drop (k3)) : Nat) : Int) = n := ⟨_, rfl⟩
  rw [hnd]
  have Hd := Lib.hid hd
  have Hnd := Lib.hid hnd
  clear h4 hd hnd
  by_cases e125 : d = 125
  case neg =>
   have n125 : (d != 125) = true := by simpa using e125
   go_wp2_with fail
   (with_reducible refine (wrongz_any H4.out _ (k3) (by omega) (by omega)).mono ?_)
   rintro e wx ⟨rfl, qx, hq, hx, hf⟩
   have Hx := Lib.hid (And.intro hq (And.intro hx (F4.out.then hf)))
   clear hq hx hf c04 c14 c24 f14
   go_wp2_with fail
   go_ret
   exact ⟨A, q, X, _, _, rfl, Hx.out.2.1, Hx.out.2.2, HX.out _ Hx.out.2.2, fun _ => rfl, fun e => absurd e Hx.out.1, fun _ => nobr_more (u := xs.drop (k1 + 1)) (by rw [E1.out, Hd1.out]; rfl) Hb3.out (.inl (by have h9 := E3.out; rw [numF_stop Hb3.out] at h9; rw [(Prod.mk.inj h9).2, Hd.out]; exact e125))⟩
  subst e125
  have hd := nx_drop Hd.out (by omega) (by omega)
  have hkd : k3 + 1 ≤ xs.length := by have := hd.1; omega
  have Hd := Lib.hid hd.2.2
  clear hd
  obtain ⟨wz, hwz⟩ : ∃ wz, w4.setCell ⟨rb, 1, none⟩ (.int .i64 ((k3 : Int) + 1)) = wz := ⟨_, rfl⟩
  have hz := H4.out.setz (z := (k3 : Int) + 1) (m := k3 + 1) (by omega) (by omega)
  have fz := F4.out.then (Fr.set rb 1 w4 (.int .i64 ((k3 : Int) + 1)))
  rw [hwz] at hz fz
  have Hz := Lib.hid hz
  have Fz := Lib.hid fz
  have Hwz := Lib.hid hwz
  clear hz fz hwz
  by_cases b1 : 1000 < n
  ·skip
   go_wp2_with fail
   rw [Hwz.out]
   (with_reducible refine (refplaced_any 119 k wz).mono ?_)
   rintro e wf ⟨hh, ll, Af, nf, qf, rfl, hbf⟩
   obtain ⟨old, new, g1, g2, g3, g4, g5⟩ := (Hz.out.below hbf).flt 119 hh ll Af nf qf
   have G1 := Lib.hid g1
   have G2 := Lib.hid g2
   have G3 := Lib.hid g3
   have G4 := Lib.hid g4
   have G5 := Lib.hid ((Fz.out.then (Fr.of_below hbf)).then g5)
   clear g1 g2 g3 g4 g5 hbf
   unfold fltV
   go_wp2_with (refine wpList_store_tail rfl 52 (.tmp 109) (.tmp 107) rfl rfl rb 2 #[.int .i64 119, .int .i64 hh, .int .i64 ll, .slice Af nf qf] new (by simp [Act.eval]) (by simp [Act.eval]) 98 old G1.out infoFault G2.out (flt_one 119 hh ll rfl) G3.out ?_)
   go_ret
   exact ⟨A, q, X, _, 119, rfl, G4.out, G5.out, HX.out _ G5.out, fun _ => rfl, fun e => (by cases e), fun _ => nobr_more (u := xs.drop (k1 + 1)) (by rw [E1.out, Hd1.out]; rfl) Hb3.out (.inr b1)⟩
  have Hbr := Lib.hid (show Braces (xs.drop (k + 1)) n (-1) (xs.drop (k3 + 1)) from Braces.more Hb1.out (by rw [E1.out, Hd1.out]; have h9 := E3.out; rw [numF_stop Hb3.out] at h9; have h9 := (Prod.mk.inj h9).2; rw [h9, Hd.out]; rfl) (by omega))
  go_wp2_with fail
  rw [Hwz.out]
  (with_reducible refine (many_any (HX.out _ Fz.out) H0.out Hbd.out hX n (-1)).mono ?_)
  rintro e wm ⟨Am, nm, qm, rfl, hbm, hxm⟩
  obtain rfl : nm = (manyX X n (-1)).length := by obtain ⟨_, _, e, _⟩ := hxm.form; exact (Value.slice.inj e).2.1
  have Hbm := Lib.hid hbm
  have Hxm := Lib.hid hxm
  clear hbm hxm
  go_wp2_with fail
  go_ret
  exact ⟨Am, qm, manyX X n (-1), _, 0, rfl, Hz.out.below Hbm.out, Fz.out.then (Fr.of_below Hbm.out), Hxm.out.low (Nat.zero_le _), fun e => absurd rfl e, fun _ => ⟨n, (-1), Hbr.out, rfl⟩, fun e => absurd rfl e⟩
 go_wp2_with fail
 (with_reducible refine (lookz_any H3.out _ (k3) (by omega) (by omega)).mono ?_)
 rintro e w4 ⟨rfl, hb⟩
 have F4 := Lib.hid (F3.out.then (Fr.of_below hb))
 have h4 := H3.out.below hb
 clear hb c03 c13 c23 f13
 obtain ⟨pb4, cap4, -, c04, c14, c24, f14⟩ := h4.cells
 have H4 := Lib.hid h4
 obtain ⟨d, hd⟩ : ∃ c, nx (xs.drop (k3)) = c := ⟨_, rfl⟩
 rw [hd]
 have hbd := nx_le (xs.drop (k3))
 rw [hd] at hbd
 obtain ⟨hbd1, hbd2⟩ := hbd
 obtain ⟨nd, hnd⟩ : ∃ n : Int, ((nl (xs.drop (k3)) : Nat) : Int) = n := ⟨_, rfl⟩
 rw [hnd]
 have Hd := Lib.hid hd
 have Hnd := Lib.hid hnd
 clear h4 hd hnd
 by_cases e125 : d = 125
 case neg =>
  have n125 : (d != 125) = true := by simpa using e125
  go_wp2_with fail
  (with_reducible refine (wrongz_any H4.out _ (k3) (by omega) (by omega)).mono ?_)
  rintro e wx ⟨rfl, qx, hq, hx, hf⟩
  have Hx := Lib.hid (And.intro hq (And.intro hx (F4.out.then hf)))
  clear hq hx hf c04 c14 c24 f14
  go_wp2_with fail
  go_ret
  exact ⟨A, q, X, _, _, rfl, Hx.out.2.1, Hx.out.2.2, HX.out _ Hx.out.2.2, fun _ => rfl, fun e => absurd e Hx.out.1, fun _ => nobr_upto (u := xs.drop (k1 + 1)) (by rw [E1.out, Hd1.out]; rfl) Hb3.out E3.out (.inl (by rw [Hd.out]; exact e125))⟩
 subst e125
 have hd := nx_drop Hd.out (by omega) (by omega)
 have hkd : k3 + 1 ≤ xs.length := by have := hd.1; omega
 have Hd := Lib.hid hd.2.2
 clear hd
 obtain ⟨wz, hwz⟩ : ∃ wz, w4.setCell ⟨rb, 1, none⟩ (.int .i64 ((k3 : Int) + 1)) = wz := ⟨_, rfl⟩
 have hz := H4.out.setz (z := (k3 : Int) + 1) (m := k3 + 1) (by omega) (by omega)
 have fz := F4.out.then (Fr.set rb 1 w4 (.int .i64 ((k3 : Int) + 1)))
 rw [hwz] at hz fz
 have Hz := Lib.hid hz
 have Fz := Lib.hid fz
 have Hwz := Lib.hid hwz
 clear hz fz hwz
 by_cases b1 : 1000 < n
 ·skip
  go_wp2_with fail
  rw [Hwz.out]
  (with_reducible refine (refplaced_any 119 k wz).mono ?_)
  rintro e wf ⟨hh, ll, Af, nf, qf, rfl, hbf⟩
  obtain ⟨old, new, g1, g2, g3, g4, g5⟩ := (Hz.out.below hbf).flt 119 hh ll Af nf qf
  have G1 := Lib.hid g1
  have G2 := Lib.hid g2
  have G3 := Lib.hid g3
  have G4 := Lib.hid g4
  have G5 := Lib.hid ((Fz.out.then (Fr.of_below hbf)).then g5)
  clear g1 g2 g3 g4 g5 hbf
  unfold fltV
  go_wp2_with (refine wpList_store_tail rfl 52 (.tmp 109) (.tmp 107) rfl rfl rb 2 #[.int .i64 119, .int .i64 hh, .int .i64 ll, .slice Af nf qf] new (by simp [Act.eval]) (by simp [Act.eval]) 98 old G1.out infoFault G2.out (flt_one 119 hh ll rfl) G3.out ?_)
  go_ret
  exact ⟨A, q, X, _, 119, rfl, G4.out, G5.out, HX.out _ G5.out, fun _ => rfl, fun e => (by cases e), fun _ => nobr_upto (u := xs.drop (k1 + 1)) (by rw [E1.out, Hd1.out]; rfl) Hb3.out E3.out (.inr (.inr (.inr b1)))⟩
 by_cases b2 : 1000 < m
 ·skip
  go_wp2_with fail
  rw [Hwz.out]
  (with_reducible refine (refplaced_any 119 k wz).mono ?_)
  rintro e wf ⟨hh, ll, Af, nf, qf, rfl, hbf⟩
  obtain ⟨old, new, g1, g2, g3, g4, g5⟩ := (Hz.out.below hbf).flt 119 hh ll Af nf qf
  have G1 := Lib.hid g1
  have G2 := Lib.hid g2
  have G3 := Lib.hid g3
  have G4 := Lib.hid g4
  have G5 := Lib.hid ((Fz.out.then (Fr.of_below hbf)).then g5)
  clear g1 g2 g3 g4 g5 hbf
  unfold fltV
  go_wp2_with (refine wpList_store_tail rfl 52 (.tmp 109) (.tmp 107) rfl rfl rb 2 #[.int .i64 119, .int .i64 hh, .int .i64 ll, .slice Af nf qf] new (by simp [Act.eval]) (by simp [Act.eval]) 98 old G1.out infoFault G2.out (flt_one 119 hh ll rfl) G3.out ?_)
  go_ret
  exact ⟨A, q, X, _, 119, rfl, G4.out, G5.out, HX.out _ G5.out, fun _ => rfl, fun e => (by cases e), fun _ => nobr_upto (u := xs.drop (k1 + 1)) (by rw [E1.out, Hd1.out]; rfl) Hb3.out E3.out (.inr (.inr (.inl b2)))⟩
 by_cases b4 : m < n
 ·skip
  go_wp2_with fail
  rw [Hwz.out]
  (with_reducible refine (refplaced_any 119 k wz).mono ?_)
  rintro e wf ⟨hh, ll, Af, nf, qf, rfl, hbf⟩
  obtain ⟨old, new, g1, g2, g3, g4, g5⟩ := (Hz.out.below hbf).flt 119 hh ll Af nf qf
  have G1 := Lib.hid g1
  have G2 := Lib.hid g2
  have G3 := Lib.hid g3
  have G4 := Lib.hid g4
  have G5 := Lib.hid ((Fz.out.then (Fr.of_below hbf)).then g5)
  clear g1 g2 g3 g4 g5 hbf
  unfold fltV
  go_wp2_with (refine wpList_store_tail rfl 52 (.tmp 109) (.tmp 107) rfl rfl rb 2 #[.int .i64 119, .int .i64 hh, .int .i64 ll, .slice Af nf qf] new (by simp [Act.eval]) (by simp [Act.eval]) 98 old G1.out infoFault G2.out (flt_one 119 hh ll rfl) G3.out ?_)
  go_ret
  exact ⟨A, q, X, _, 119, rfl, G4.out, G5.out, HX.out _ G5.out, fun _ => rfl, fun e => (by cases e), fun _ => nobr_upto (u := xs.drop (k1 + 1)) (by rw [E1.out, Hd1.out]; rfl) Hb3.out E3.out (.inr (.inl b4))⟩
 have Hbr := Lib.hid (show Braces (xs.drop (k + 1)) n m (xs.drop (k3 + 1)) from Braces.upto Hb1.out (by rw [E1.out, Hd1.out]; rfl) Hb3.out (by rw [E3.out, Hd.out]; rfl) (by omega) (by omega))
 go_wp2_with fail
 rw [Hwz.out]
 (with_reducible refine (many_any (HX.out _ Fz.out) H0.out Hbd.out hX n m).mono ?_)
 rintro e wm ⟨Am, nm, qm, rfl, hbm, hxm⟩
 obtain rfl : nm = (manyX X n m).length := by obtain ⟨_, _, e, _⟩ := hxm.form; exact (Value.slice.inj e).2.1
 have Hbm := Lib.hid hbm
 have Hxm := Lib.hid hxm
 clear hbm hxm
 go_wp2_with fail
 go_ret
 exact ⟨Am, qm, manyX X n m, _, 0, rfl, Hz.out.below Hbm.out, Fz.out.then (Fr.of_below Hbm.out), Hxm.out.low (Nat.zero_le _), fun e => absurd rfl e, fun _ => ⟨n, m, Hbr.out, rfl⟩, fun e => absurd rfl e⟩
theorem Rd.own {xs : List UInt8} {rb k n base : Nat} {w w' : World} {c : Int} {e : TypeId} {v : Value} {us : List Value} (h : Rd xs rb w k c) (ho : w.ownsRow base e 1 v n us) (he : e ≠ 98) (hn : n = 0 → v.ownBlock = none) (hu : ∀ u ∈ us, ∀ x, u ≠ .int .u8 x) (hg : w.grownBy w' v.ownBlock) : Rd xs rb w' k c := by
 obtain ⟨pb, cap, b3, b4, b5, b6, b7, h1, h2, h3, h4⟩ := h
 have hrb : v.ownBlock ≠ some rb := by
  intro e1
  obtain ⟨_, cur, h5⟩ := ownsRow_block ho e1
  rw [h5] at h4
  injection h4 with h4
  injection h4 with _ h4 _
  exact he h4
 refine ⟨pb, cap, b3, b4, b5, b6, b7, h1, h2, ?_, (hg.block rb (lt_of_heap h4) (fun e1 => hrb e1.symm)).trans h4⟩
 by_cases hx : xs = []
 ·subst hx
  obtain ⟨hm, A, c, e1, hc, _⟩ := h3
  exact ⟨hm, A, c, e1, hc, fun h0 => absurd h0 (by simp)⟩
 ·refine h3.grown hg (fun e1 => ?_)
  have hlx : 0 < xs.length := List.length_pos_iff.2 hx
  obtain ⟨_, A, c, e2, _, hcell⟩ := h3
  obtain ⟨b, o, e3, hcl⟩ := hcell hlx
  have e4 := (Value.slice.inj e2).1.trans e3
  injection e4 with e4
  injection e4 with e5 e6
  subst e5 e6
  have hc0 := hcl 0 hlx
  rcases Nat.eq_zero_or_pos n with h0 | h0
  ·rw [hn h0] at e1; cases e1
  ·obtain ⟨A', cap', e7, _, _, hA⟩ := ownsRow_slice ho
   obtain ⟨g, e8⟩ := hA h0
   subst e8
   subst e7
   obtain rfl : g = pb := by
    have : (Value.slice (some ⟨g, 0, none⟩) n cap').ownBlock = some g := rfl
    rw [this] at e1
    exact Option.some.inj e1
   have h9 := ownsRow_cell ho rfl 0 (by omega)
   rw [Nat.add_zero] at hc0
   rw [hc0] at h9
   exact hu _ (List.mem_of_getElem? h9.symm) _ rfl
theorem Fr.own {rb n base k : Nat} {w w1 w2 : World} {e : TypeId} {v : Value} {us : List Value} (h : Fr rb w w1) (ho : w1.ownsRow base e k v n us) (hb : w.heap.size ≤ base) (hg : w1.grownBy w2 v.ownBlock) : Fr rb w w2 :=
 ⟨hg.os.trans h.os, hg.tape.trans h.tape, hg.output.trans h.output, Nat.le_trans h.size hg.size, fun i hi hr => (hg.block i (Nat.lt_of_lt_of_le hi h.size) (fun e1 => by have := (ownsRow_block ho e1.symm).1; omega)).trans (h.block i hi hr)⟩
def rdMu (len rb : Nat) (w : World) : Nat := match w.cell? ⟨rb, 2, none⟩ with | some (.int _ n) => if n = 0 then len + 2 - rdAt rb w else 0 | _ => 0
theorem Rd.mu {xs : List UInt8} {rb k : Nat} {w : World} {c : Int} (h : Rd xs rb w k c) : rdMu xs.length rb w = if c = 0 then xs.length + 2 - k else 0 := by
 have h1 := rdAt_of h
 obtain ⟨_, _, _, _, _, h2, _⟩ := h.cells
 unfold rdMu
 rw [h1, h2]
theorem Item.ne {f : Bool} {xs ys : List UInt8} {l : Spans} (h : Item f xs l ys) : 0 < l.length := by
 cases h with
 | cls h => cases h <;> decide
 | one => simp
 | two => simp
theorem OkSp.append {l m : Spans} (h : OkSp l) (k : OkSp m) : OkSp (l ++ m) := fun p hp => by
 rcases List.mem_append.1 hp with hp | hp
 ·exact h p hp
 ·exact k p hp
def setX (cs : List Int) : List Ex := [⟨4, 0, rngB cs, 0, 0, 0, 0⟩]
def ClG (xs : List UInt8) (k k' : Nat) (cs : List Int) : Prop := ∃ L : Spans, (nx (xs.drop k) ≠ 94 ∧ Items true (xs.drop k) L (xs.drop k') ∧ SetOf (inSp L) cs) ∨ (xs.drop k = 94 :: xs.drop (k + 1) ∧ Items true (xs.drop (k + 1)) L (xs.drop k') ∧ SetOf (fun c => ¬ inSp L c) cs)
def ClP (xs : List UInt8) (rb k : Nat) (w : World) (e : Ending) (w' : World) : Prop := ∃ (A : Option Addr) (q : Nat) (ys : List Ex) (k' : Nat) (c : Int), e = .returned (.slice A ys.length q) ∧ Rd xs rb w' k' c ∧ Fr rb w w' ∧ XRow w' 0 (.slice A ys.length q) ys ∧ (c ≠ 0 → ys = []) ∧ (c = 0 → ∃ cs, ys = setX cs ∧ ClG xs k k' cs) ∧ (c ≠ 0 → NoAtom (91 :: xs.drop k))
def ClRel (xs : List UInt8) (rb m : Nat) (w : World) (s6 s7 : Value) (wr : World) : Prop := ∃ (A : Option Addr) (q : Nat) (l : List Int) (k2 : Nat) (c : Int) (first : Bool), s6 = .slice A l.length q ∧ s7 = .bool first ∧ Rd xs rb wr k2 c ∧ Fr rb w wr ∧ Rns wr w.heap.size (.slice A l.length q) l ∧ (c = 0 → l.length = 0 → A = none) ∧
 (c = 0 → ∃ L : Spans, l = flatS L ∧ OkSp L ∧ L.length + 20 * m ≤ 20 * k2 ∧ ∀ L' zs, Items first (xs.drop k2) L' zs → Items true (xs.drop m) (L ++ L') zs) ∧ (c ≠ 0 → NoItems true (xs.drop m)) ∧ (c = 0 → NoItems first (xs.drop k2) → NoItems true (xs.drop m))
theorem rne_u8 (l : List Int) : ∀ u ∈ l.map runeV, ∀ x, u ≠ .int .u8 x := by
 intro u hu x e
 obtain ⟨c, _, rfl⟩ := List.mem_map.1 hu
 unfold runeV at e
 injection e with e _
 cases e
theorem exC_row {w : World} {g : Nat} {cs : List Int} : XRow (w.alloc (.cells #[.int .i64 4, .int .i32 0, .string (rngB cs), .int .i64 0, .int .i64 0, .int .i64 0, .int .i64 0] 60)) 0 (.slice (some ⟨w.heap.size, 0, none⟩) 1 1) (setX cs) := row_lit (x := ⟨4, 0, rngB cs, 0, 0, 0, 0⟩) (heap_alloc_new w _) (Nat.zero_le _)
set_option maxHeartbeats 16000000 in
set_option maxRecDepth 100000 in
theorem rclass_any {xs : List UInt8} {rb k : Nat} {w : World} (h : Rd xs rb w k 0) (hk : k ≤ xs.length + 1) (hl : xs.length ≤ 400) : Calls Tryz.prog 119 #[.pointer (some ⟨rb, 0, none⟩)] w fun e w' => ClP xs rb k w e w' := by
 have H := Lib.hid h
 have F0 := Lib.hid (Fr.refl rb w)
 obtain ⟨pb, cap, -, c0, c1, c2, f1⟩ := h.cells
 clear h
 go_enter Tryz.func119, Tryz.ntmps119
 go_wp2_with fail
 (with_reducible refine (lookz_any H.out _ (k) (by omega) (by omega)).mono ?_)
 rintro e w1 ⟨rfl, hb⟩
 have F1 := Lib.hid (F0.out.then (Fr.of_below hb))
 have h1 := H.out.below hb
 clear hb c0 c1 c2 f1
 obtain ⟨pb1, cap1, -, c01, c11, c21, f11⟩ := h1.cells
 have H1 := Lib.hid h1
 obtain ⟨cc, hcc⟩ : ∃ c, nx (xs.drop (k)) = c := ⟨_, rfl⟩
 rw [hcc]
 have hbcc := nx_le (xs.drop (k))
 rw [hcc] at hbcc
 obtain ⟨hbcc1, hbcc2⟩ := hbcc
 obtain ⟨ncc, hncc⟩ : ∃ n : Int, ((nl (xs.drop (k)) : Nat) : Int) = n := ⟨_, rfl⟩
 rw [hncc]
 have Hcc := Lib.hid hcc
 have Hncc := Lib.hid hncc
 clear h1 hcc hncc
 by_cases e94 : cc = 94
 case neg =>
  have n94 : (cc == 94) = false := by simpa using e94
  have Hn94 := Lib.hid e94
  clear e94
  go_wp2_with fail
  go_loopw [6, 7, 3] (fun s6 s7 _ wr => ClRel xs rb (k) w s6 s7 wr) (fun _ _ _ wr => rdMu xs.length rb wr)
  case atStart => exact ⟨none, 0, [], k, 0, true, rfl, rfl, H1.out, F1.out, Rns.nil _ _, fun _ _ => rfl, fun _ => ⟨[], rfl, by simp [OkSp], by simp, fun L' zs h => h⟩, fun e => absurd rfl e, fun _ h => h⟩
  case round =>
   obtain ⟨A, q, l, k2, c9, first, rfl, rfl, hr, hf, ho, hA, hok, hno, hnx⟩ := hrel
   have Hr := Lib.hid hr
   have Hf := Lib.hid hf
   have Ho := Lib.hid ho
   have HA := Lib.hid hA
   have Hok := Lib.hid hok
   have Hno := Lib.hid hno
   have Hnx := Lib.hid hnx
   have hk2 := hr.le
   obtain ⟨pbr, capr, -, c0r, c1r, c2r, f1r⟩ := hr.cells
   clear hr hf ho hA hok hno hnx
   go_wp2_with fail
   (with_reducible refine (good_any Hr.out).mono ?_)
   rintro e w' ⟨rfl, rfl⟩
   by_cases hq : c9 = 0
   case neg =>
    have hq' : decide (c9 = 0) = false := by simpa using hq
    have Hq := Lib.hid hq
    clear hq
    go_wp2_with fail
    go_ret
    exact ⟨none, 0, [], k2, c9, rfl, Hr.out, Hf.out, XRow.nil _ _, fun _ => rfl, fun e => absurd e Hq.out, fun _ => noatom_cls1 (by rw [Hcc.out]; exact Hn94.out) (Hno.out Hq.out)⟩
   subst hq
   have Hnxx := Lib.hid (Hnx.out rfl)
   clear Hno Hnx
   obtain ⟨L, rfl, hsp, hLl, hit⟩ := Hok.out rfl
   have Hsp := Lib.hid hsp
   have Hit := Lib.hid hit
   clear hsp hit Hok
   go_wp2_with fail
   (with_reducible refine (lookz_any Hr.out _ (k2) (by omega) (by omega)).mono ?_)
   rintro e w2 ⟨rfl, hb⟩
   have hb2 := hb
   have F2 := Lib.hid (Hf.out.then (Fr.of_below hb))
   have h2 := Hr.out.below hb
   clear hb c0r c1r c2r f1r
   obtain ⟨pb2, cap2, -, c02, c12, c22, f12⟩ := h2.cells
   have H2 := Lib.hid h2
   obtain ⟨c, hc⟩ : ∃ c, nx (xs.drop (k2)) = c := ⟨_, rfl⟩
   rw [hc]
   have hbc := nx_le (xs.drop (k2))
   rw [hc] at hbc
   obtain ⟨hbc1, hbc2⟩ := hbc
   obtain ⟨nc, hnc⟩ : ∃ n : Int, ((nl (xs.drop (k2)) : Nat) : Int) = n := ⟨_, rfl⟩
   rw [hnc]
   have Hc := Lib.hid hc
   have Hnc := Lib.hid hnc
   clear h2 hc hnc
   by_cases e93 : c = 93
   ·skip
    subst e93
    have hd := nx_drop Hc.out (by omega) (by omega)
    have Hd := Lib.hid hd.2.2
    have hk3 : k2 + 1 ≤ xs.length := by have := hd.1; omega
    clear hd
    obtain ⟨wz, hwz⟩ : ∃ wz, w2.setCell ⟨rb, 1, none⟩ (.int .i64 ((k2 : Int) + 1)) = wz := ⟨_, rfl⟩
    have hz := H2.out.setz (z := (k2 : Int) + 1) (m := k2 + 1) (by omega) (by omega)
    have fz2 := Fr.set rb 1 w2 (.int .i64 ((k2 : Int) + 1))
    rw [hwz] at hz fz2
    have fz := F2.out.then fz2
    have Hz := Lib.hid hz
    have Fz := Lib.hid fz
    have Hwz := Lib.hid hwz
    have hb9 : Rns wz w.heap.size (.slice A (flatS L).length q) (flatS L) := (Ho.out.rd (Fr.of_below hb2) Hr.out.typed).rd fz2 H2.out.typed
    have Ho9 := Lib.hid (hb9.low (Nat.zero_le _))
    have Hdone := Lib.hid (Hit.out [] (xs.drop (k2 + 1)) (by rw [Hd.out]; exact Items.done))
    clear hz fz hwz fz2 hb9 hb2
    go_wp2_with fail
    rw [Hwz.out]
    (with_reducible refine (rranges_any Ho9.out (by omega) Hsp.out false).mono ?_)
    rintro e w5 ⟨cs, rfl, hset, hb5⟩
    have Hset := Lib.hid hset
    have Hb5 := Lib.hid hb5
    clear hset hb5
    go_wp2_with fail
    go_ret
    refine ⟨some ⟨w5.heap.size, 0, none⟩, 1, setX cs, k2 + 1, 0, rfl, (Hz.out.below Hb5.out).below (alloc_below _ _), (Fz.out.then (Fr.of_below Hb5.out)).then (Fr.of_below (alloc_below _ _)), exC_row (g := 0), fun e => absurd rfl e, fun _ => ⟨cs, rfl, L, ?_⟩, fun e => absurd rfl e⟩
    have hdn := Hdone.out
    rw [List.append_nil] at hdn
    exact .inl ⟨by rw [Hcc.out]; exact Hn94.out, hdn, Hset.out.wk (fun c _ => by unfold butP; simp)⟩
   have n93 : (c == 93) = false := by simpa using e93
   have Hn93 := Lib.hid e93
   clear e93
   have Ho2 := Lib.hid (Ho.out.rd (Fr.of_below hb2) Hr.out.typed)
   clear hb2
   go_wp2_with fail
   (with_reducible refine (ritem_any first H2.out hk2 (by omega) (by rw [Hc.out]; exact Hn93.out)).mono ?_)
   rintro e w3 ⟨A3, q3, l3, k3, c3, rfl, h3, hf3, hl3, ho3, hok3⟩
   have H3 := Lib.hid h3
   have F3 := Lib.hid (F2.out.then hf3)
   have Ho3 := Lib.hid (Ho2.out.rd hf3 H2.out.typed)
   have Hn3 := Lib.hid ho3.slk
   have Hok3 := Lib.hid hok3
   have hmx : (flatS L).length ≤ maxLen := by obtain ⟨_, _, _, _, h, _⟩ := ownsRow_slice Ho.out; exact h
   have hfl : (flatS L).length ≤ 17000 := by rw [flatS_len]; omega
   have hs3 : w.heap.size ≤ w3.heap.size := F3.out.size
   clear h3 hf3 ho3 hok3 hmx c02 c12 c22 f12
   go_wp2_with (at_builtin; refine wpList_append_slo elRune rfl (.tmp 60) (.tmp 63) rfl w.heap.size (.slice A (flatS L).length q) (flatS L).length A3 q3 l3.length ((flatS L).map runeV) (l3.map runeV) (by simp [Act.eval]) Ho3.out (by simp [Act.eval]) Hn3.out (runeVs_one l3) (by unfold maxLen; omega) (by omega) hs3 ?_; intro v' w4 h1 h2 h3; have Hp := Lib.hid h1; have Hg := Lib.hid h2; have Hv := Lib.hid h3; clear h1 h2 h3)
   have hr4 := H3.out.own Ho3.out (by decide) (fun h0 => by rw [HA.out (by trivial) h0]; rfl) (rne_u8 _) Hg.out
   have hf4 := F3.out.own Ho3.out (Nat.le_refl _) Hg.out
   have hp := Hp.out
   rw [← List.map_append, ← List.length_append] at hp
   obtain ⟨A4, q4, rfl, -, -, hA4⟩ := ownsRow_slice hp
   refine ⟨⟨A4, q4, flatS L ++ l3, k3, c3, false, rfl, rfl, hr4, hf4, by unfold Rns; exact hp, ?_, ?_, fun h => Hnxx.out (noitems_of (by rw [Hc.out]; exact Hn93.out) (Hok3.out.2 h)), fun h0 hn => by obtain ⟨L3, _, hi⟩ := Hok3.out.1 h0; exact Hnxx.out (noitems_more (by rw [Hc.out]; exact Hn93.out) hi hn)⟩, ?_⟩
   ·intro h0 h1
    obtain ⟨L3, rfl, hi⟩ := Hok3.out.1 h0
    have h2 := hi.ne
    rw [List.length_append, flatS_len, flatS_len] at h1; omega
   ·intro h0
    obtain ⟨L3, rfl, hi⟩ := Hok3.out.1 h0
    refine ⟨L ++ L3, by rw [flatS_append], Hsp.out.append hi.ok.1, ?_, fun L' zs hz => ?_⟩
    ·have h1 := hi.ok.2
     have h2 := hi.suf.2
     rw [List.length_drop, List.length_drop] at h2
     rw [List.length_append]; omega
    ·rw [List.append_assoc]
     exact Hit.out _ _ (Items.more (by rw [Hc.out]; exact Hn93.out) hi hz)
   ·rw [hr4.mu, Hr.out.mu]
    have hk3l := hr4.le
    by_cases h0 : c3 = 0
    ·obtain ⟨L3, _, hi⟩ := Hok3.out.1 h0
     have h2 := hi.suf.2
     rw [List.length_drop, List.length_drop] at h2
     rw [if_pos h0, if_pos rfl]; omega
    ·rw [if_neg h0, if_pos rfl]; omega
 subst e94
 have hd0 := nx_drop Hcc.out (by omega) (by omega)
 have Hd0 := Lib.hid hd0.2.2
 have hk1 : k + 1 ≤ xs.length := by have := hd0.1; omega
 clear hd0
 have Ht := Lib.hid (H1.out.setz (z := (k : Int) + 1) (m := k + 1) (by omega) (by omega))
 have Ft := Lib.hid (F1.out.then (Fr.set rb 1 w1 (.int .i64 ((k : Int) + 1))))
 go_wp2_with fail
 go_loopw [6, 7, 3] (fun s6 s7 _ wr => ClRel xs rb (k + 1) w s6 s7 wr) (fun _ _ _ wr => rdMu xs.length rb wr)
 case atStart => exact ⟨none, 0, [], k + 1, 0, true, rfl, rfl, Ht.out, Ft.out, Rns.nil _ _, fun _ _ => rfl, fun _ => ⟨[], rfl, by simp [OkSp], by simp, fun L' zs h => h⟩, fun e => absurd rfl e, fun _ h => h⟩
 case round =>
  obtain ⟨A, q, l, k2, c9, first, rfl, rfl, hr, hf, ho, hA, hok, hno, hnx⟩ := hrel
  have Hr := Lib.hid hr
  have Hf := Lib.hid hf
  have Ho := Lib.hid ho
  have HA := Lib.hid hA
  have Hok := Lib.hid hok
  have Hno := Lib.hid hno
  have Hnx := Lib.hid hnx
  have hk2 := hr.le
  obtain ⟨pbr, capr, -, c0r, c1r, c2r, f1r⟩ := hr.cells
  clear hr hf ho hA hok hno hnx
  go_wp2_with fail
  (with_reducible refine (good_any Hr.out).mono ?_)
  rintro e w' ⟨rfl, rfl⟩
  by_cases hq : c9 = 0
  case neg =>
   have hq' : decide (c9 = 0) = false := by simpa using hq
   have Hq := Lib.hid hq
   clear hq
   go_wp2_with fail
   go_ret
   exact ⟨none, 0, [], k2, c9, rfl, Hr.out, Hf.out, XRow.nil _ _, fun _ => rfl, fun e => absurd e Hq.out, fun _ => by rw [Hd0.out]; exact noatom_cls2 (Hno.out Hq.out)⟩
  subst hq
  have Hnxx := Lib.hid (Hnx.out rfl)
  clear Hno Hnx
  obtain ⟨L, rfl, hsp, hLl, hit⟩ := Hok.out rfl
  have Hsp := Lib.hid hsp
  have Hit := Lib.hid hit
  clear hsp hit Hok
  go_wp2_with fail
  (with_reducible refine (lookz_any Hr.out _ (k2) (by omega) (by omega)).mono ?_)
  rintro e w2 ⟨rfl, hb⟩
  have hb2 := hb
  have F2 := Lib.hid (Hf.out.then (Fr.of_below hb))
  have h2 := Hr.out.below hb
  clear hb c0r c1r c2r f1r
  obtain ⟨pb2, cap2, -, c02, c12, c22, f12⟩ := h2.cells
  have H2 := Lib.hid h2
  obtain ⟨c, hc⟩ : ∃ c, nx (xs.drop (k2)) = c := ⟨_, rfl⟩
  rw [hc]
  have hbc := nx_le (xs.drop (k2))
  rw [hc] at hbc
  obtain ⟨hbc1, hbc2⟩ := hbc
  obtain ⟨nc, hnc⟩ : ∃ n : Int, ((nl (xs.drop (k2)) : Nat) : Int) = n := ⟨_, rfl⟩
  rw [hnc]
  have Hc := Lib.hid hc
  have Hnc := Lib.hid hnc
  clear h2 hc hnc
  by_cases e93 : c = 93
  ·skip
   subst e93
   have hd := nx_drop Hc.out (by omega) (by omega)
   have Hd := Lib.hid hd.2.2
   have hk3 : k2 + 1 ≤ xs.length := by have := hd.1; omega
   clear hd
   obtain ⟨wz, hwz⟩ : ∃ wz, w2.setCell ⟨rb, 1, none⟩ (.int .i64 ((k2 : Int) + 1)) = wz := ⟨_, rfl⟩
   have hz := H2.out.setz (z := (k2 : Int) + 1) (m := k2 + 1) (by omega) (by omega)
   have fz2 := Fr.set rb 1 w2 (.int .i64 ((k2 : Int) + 1))
   rw [hwz] at hz fz2
   have fz := F2.out.then fz2
   have Hz := Lib.hid hz
   have Fz := Lib.hid fz
   have Hwz := Lib.hid hwz
   have hb9 : Rns wz w.heap.size (.slice A (flatS L).length q) (flatS L) := (Ho.out.rd (Fr.of_below hb2) Hr.out.typed).rd fz2 H2.out.typed
   have Ho9 := Lib.hid (hb9.low (Nat.zero_le _))
   have Hdone := Lib.hid (Hit.out [] (xs.drop (k2 + 1)) (by rw [Hd.out]; exact Items.done))
   clear hz fz hwz fz2 hb9 hb2
   go_wp2_with fail
   rw [Hwz.out]
   (with_reducible refine (rranges_any Ho9.out (by omega) Hsp.out true).mono ?_)
   rintro e w5 ⟨cs, rfl, hset, hb5⟩
   have Hset := Lib.hid hset
   have Hb5 := Lib.hid hb5
   clear hset hb5
   go_wp2_with fail
   go_ret
   refine ⟨some ⟨w5.heap.size, 0, none⟩, 1, setX cs, k2 + 1, 0, rfl, (Hz.out.below Hb5.out).below (alloc_below _ _), (Fz.out.then (Fr.of_below Hb5.out)).then (Fr.of_below (alloc_below _ _)), exC_row (g := 0), fun e => absurd rfl e, fun _ => ⟨cs, rfl, L, ?_⟩, fun e => absurd rfl e⟩
   have hdn := Hdone.out
   rw [List.append_nil] at hdn
   exact .inr ⟨Hd0.out, hdn, Hset.out.wk (fun c _ => by unfold butP; simp)⟩
  have n93 : (c == 93) = false := by simpa using e93
  have Hn93 := Lib.hid e93
  clear e93
  have Ho2 := Lib.hid (Ho.out.rd (Fr.of_below hb2) Hr.out.typed)
  clear hb2
  go_wp2_with fail
  (with_reducible refine (ritem_any first H2.out hk2 (by omega) (by rw [Hc.out]; exact Hn93.out)).mono ?_)
  rintro e w3 ⟨A3, q3, l3, k3, c3, rfl, h3, hf3, hl3, ho3, hok3⟩
  have H3 := Lib.hid h3
  have F3 := Lib.hid (F2.out.then hf3)
  have Ho3 := Lib.hid (Ho2.out.rd hf3 H2.out.typed)
  have Hn3 := Lib.hid ho3.slk
  have Hok3 := Lib.hid hok3
  have hmx : (flatS L).length ≤ maxLen := by obtain ⟨_, _, _, _, h, _⟩ := ownsRow_slice Ho.out; exact h
  have hfl : (flatS L).length ≤ 17000 := by rw [flatS_len]; omega
  have hs3 : w.heap.size ≤ w3.heap.size := F3.out.size
  clear h3 hf3 ho3 hok3 hmx c02 c12 c22 f12
  go_wp2_with (at_builtin; refine wpList_append_slo elRune rfl (.tmp 60) (.tmp 63) rfl w.heap.size (.slice A (flatS L).length q) (flatS L).length A3 q3 l3.length ((flatS L).map runeV) (l3.map runeV) (by simp [Act.eval]) Ho3.out (by simp [Act.eval]) Hn3.out (runeVs_one l3) (by unfold maxLen; omega) (by omega) hs3 ?_; intro v' w4 h1 h2 h3; have Hp := Lib.hid h1; have Hg := Lib.hid h2; have Hv := Lib.hid h3; clear h1 h2 h3)
  have hr4 := H3.out.own Ho3.out (by decide) (fun h0 => by rw [HA.out (by trivial) h0]; rfl) (rne_u8 _) Hg.out
  have hf4 := F3.out.own Ho3.out (Nat.le_refl _) Hg.out
  have hp := Hp.out
  rw [← List.map_append, ← List.length_append] at hp
  obtain ⟨A4, q4, rfl, -, -, hA4⟩ := ownsRow_slice hp
  refine ⟨⟨A4, q4, flatS L ++ l3, k3, c3, false, rfl, rfl, hr4, hf4, by unfold Rns; exact hp, ?_, ?_, fun h => Hnxx.out (noitems_of (by rw [Hc.out]; exact Hn93.out) (Hok3.out.2 h)), fun h0 hn => by obtain ⟨L3, _, hi⟩ := Hok3.out.1 h0; exact Hnxx.out (noitems_more (by rw [Hc.out]; exact Hn93.out) hi hn)⟩, ?_⟩
  ·intro h0 h1
   obtain ⟨L3, rfl, hi⟩ := Hok3.out.1 h0
   have h2 := hi.ne
   rw [List.length_append, flatS_len, flatS_len] at h1; omega
  ·intro h0
   obtain ⟨L3, rfl, hi⟩ := Hok3.out.1 h0
   refine ⟨L ++ L3, by rw [flatS_append], Hsp.out.append hi.ok.1, ?_, fun L' zs hz => ?_⟩
   ·have h1 := hi.ok.2
    have h2 := hi.suf.2
    rw [List.length_drop, List.length_drop] at h2
    rw [List.length_append]; omega
   ·rw [List.append_assoc]
    exact Hit.out _ _ (Items.more (by rw [Hc.out]; exact Hn93.out) hi hz)
  ·rw [hr4.mu, Hr.out.mu]
   have hk3l := hr4.le
   by_cases h0 : c3 = 0
   ·obtain ⟨L3, _, hi⟩ := Hok3.out.1 h0
    have h2 := hi.suf.2
    rw [List.length_drop, List.length_drop] at h2
    rw [if_pos h0, if_pos rfl]; omega
   ·rw [if_neg h0, if_pos rfl]; omega
end Go.Proofs.YthhnmpkgleelfaaGreatDoor
