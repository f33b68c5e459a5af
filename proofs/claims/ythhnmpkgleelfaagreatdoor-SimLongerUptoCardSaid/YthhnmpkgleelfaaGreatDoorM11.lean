import Derived.Test.YthhnmpkgleelfaaGreatDoorM10
set_option linter.unusedVariables false
set_option linter.unusedSimpArgs false
namespace Go.Proofs.YthhnmpkgleelfaaGreatDoor
open Go.RowKit
def UniP (xs : List UInt8) (rb k : Nat) (w : World) (e : Ending) (w' : World) : Prop := ∃ (z : Int) (k' : Nat) (c : Int), e = .returned (.int .i32 z) ∧ Rd xs rb w' k' c ∧ Fr rb w w' ∧ (0 ≤ z ∧ z ≤ 1200000) ∧
 (c = 0 → (z = 0 ∧ k' = k + 4 ∧ ∃ x f, FrOk false xs k 4 x f ∧ (x < 55296 ∨ 56319 < x)) ∨ (0 < z ∧ k' = k + 10 ∧ ∃ x f y g, FrOk false xs k 4 x f ∧ (55296 ≤ x ∧ x ≤ 56319) ∧ nx (xs.drop (k + 4)) = 92 ∧ nx (xs.drop (k + 5)) = 117 ∧ FrOk true xs (k + 6) 4 y g ∧ z = 65536 + (x - 55296) * 1024 + y - 56320)) ∧ (c ≠ 0 → NoEscC (117 :: xs.drop k))
theorem noesc_fr {xs : List UInt8} {k : Nat} {x f : Int} (h : FrOk false xs k 4 x f) (hx : 55296 ≤ x ∧ x ≤ 56319) (h2 : nx (xs.drop (k + 4)) ≠ 92 ∨ nx (xs.drop (k + 5)) ≠ 117 ∨ NF true (xs.drop (k + 6))) : NoEscC (117 :: xs.drop k) := by
 obtain ⟨a, b, c, d, _, e, _, hv, _, _, _⟩ := h.done
 rw [e]
 refine noesc_pair (by rw [← hv]; omega) ?_
 rw [List.drop_drop, List.drop_drop]
 exact h2
def UniRel (xs : List UInt8) (rb k : Nat) (w : World) (s5 : Value) (wr : World) : Prop := ∃ j : Nat, j ≤ 2 ∧ s5 = .int .i64 j ∧ Rd xs rb wr (k + 4 + j) 0 ∧ Fr rb w wr ∧ (0 < j → nx (xs.drop (k + 4)) = 92) ∧ (1 < j → nx (xs.drop (k + 5)) = 117)
set_option maxHeartbeats 4000000 in
set_option maxRecDepth 100000 in
theorem runicode_any {xs : List UInt8} {rb k : Nat} {w : World} (h : Rd xs rb w k 0) (hl : xs.length ≤ 1000000) : Calls Tryz.prog 164 #[.pointer (some ⟨rb, 0, none⟩)] w fun e w' => UniP xs rb k w e w' := by
 have H := Lib.hid h
 have hkl := h.le
 clear h
 go_enter Tryz.func164, Tryz.ntmps164
 go_wp2_with fail
 (with_reducible refine (rfour_false H.out hl).mono ?_)
 rintro e w1 ⟨x, k1, q1, rfl, h1, hf1, ⟨hx1, hx2⟩, hok⟩
 have H1 := Lib.hid h1
 have F1 := Lib.hid hf1
 have Hok := Lib.hid hok
 clear h1 hf1 hok
 by_cases hq : q1 = 0
 case neg =>
  have hq' : decide (q1 = 0) = false := by simpa using hq
  have Hq := Lib.hid hq
  clear hq
  go_wp2_with fail
  (with_reducible refine (good_any H1.out).mono ?_)
  rintro e w2 ⟨rfl, rfl⟩
  go_wp2_with fail
  go_ret
  exact ⟨0, k1, q1, rfl, H1.out, F1.out, by omega, fun e => absurd e Hq.out, fun h => noesc_four (Hok.out.2 h)⟩
 subst hq
 obtain ⟨rfl, f, hfr⟩ := Hok.out.1 rfl
 have Hfr := Lib.hid hfr
 have hk4 : k + 4 ≤ xs.length := by obtain ⟨_, _, _, _, h, _⟩ := hfr.done; exact h
 clear hfr Hok
 go_wp2_with fail
 (with_reducible refine (good_any H1.out).mono ?_)
 rintro e w2 ⟨rfl, rfl⟩
 by_cases hlo : x < 55296
 ·go_wp2_with fail
  go_ret
  exact ⟨0, _, 0, rfl, H1.out, F1.out, by omega, fun _ => .inl ⟨rfl, rfl, x, f, Hfr.out, .inl hlo⟩, fun e => absurd rfl e⟩
 by_cases hhi : 56319 < x
 ·go_wp2_with fail
  go_ret
  exact ⟨0, _, 0, rfl, H1.out, F1.out, by omega, fun _ => .inl ⟨rfl, rfl, x, f, Hfr.out, .inr hhi⟩, fun e => absurd rfl e⟩
 go_wp2_with fail
 go_loopw [5] (fun s5 wr => UniRel xs rb k w s5 wr) (fun v _ => 2 - (intOf v).toNat)
 case atStart => exact ⟨0, by omega, rfl, H1.out, F1.out, fun h => by omega, fun h => by omega⟩
 case round =>
  obtain ⟨j, hj, rfl, h3, hf3, hp1, hp2⟩ := hrel
  have H3 := Lib.hid h3
  have F3 := Lib.hid hf3
  have P1 := Lib.hid hp1
  have P2 := Lib.hid hp2
  obtain ⟨pb3, cap3, -, c03, c13, c23, f13⟩ := h3.cells
  have hk3 := h3.le
  clear h3 hf3 hp1 hp2
  by_cases h2 : j < 2
  ·rcases (by omega : j = 0 ∨ j = 1) with rfl | rfl
   ·skip
    go_wp2_with fail
    (with_reducible refine (lookz_any H3.out _ (k + 4 + 0) (by omega) (by omega)).mono ?_)
    rintro e w4 ⟨rfl, hb⟩
    have F4 := Lib.hid (F3.out.then (Fr.of_below hb))
    have h4 := H3.out.below hb
    clear hb c03 c13 c23 f13
    obtain ⟨pb4, cap4, -, c04, c14, c24, f14⟩ := h4.cells
    have H4 := Lib.hid h4
    obtain ⟨cc, hcc⟩ : ∃ c, nx (xs.drop (k + 4 + 0)) = c := ⟨_, rfl⟩
    rw [hcc]
    have hbcc := nx_le (xs.drop (k + 4 + 0))
    rw [hcc] at hbcc
    obtain ⟨hbcc1, hbcc2⟩ := hbcc
    obtain ⟨ncc, hncc⟩ : ∃ n : Int, ((nl (xs.drop (k + 4 + 0)) : Nat) : Int) = n := ⟨_, rfl⟩
    rw [hncc]
    have Hcc := Lib.hid hcc
    have Hncc := Lib.hid hncc
    clear h4 hcc hncc
    by_cases hcc : cc = 92
    ·subst hcc
     have hlt := nx_drop (xs := xs) (k := k + 4 + 0) Hcc.out (by omega) (by omega)
     obtain ⟨hlt1, -, -⟩ := hlt
     have ib : ((⟨#[92, 117]⟩ : ByteArray)[0]'(by decide)).toNat = 92 := rfl
     have H5 := Lib.hid (fun (z : Int) (hz : z = ((k + 4 + (0 + 1) : Nat) : Int)) => H4.out.setz hz (by omega))
     go_wp2_with fail
     exact ⟨⟨0 + 1, by omega, by go_num, H5.out _ (by omega), F4.out.then (Fr.set _ _ _ _), fun _ => Hcc.out, fun h => by omega⟩, by simp [intOf]⟩
    ·have hcc' : (cc != 92) = true := by simpa using hcc
     have ib : ((⟨#[92, 117]⟩ : ByteArray)[0]'(by decide)).toNat = 92 := rfl
     go_wp2_with fail
     (with_reducible refine (wrongz_any H4.out _ (k + 4 + 0) (by omega) (by omega)).mono ?_)
     rintro e w5 ⟨rfl, q5, hq, h5, hf⟩
     have H5 := Lib.hid (And.intro hq (And.intro h5 (F4.out.then hf)))
     clear hq h5 hf
     go_wp2_with fail
     go_ret
     exact ⟨0, _, q5, rfl, H5.out.2.1, H5.out.2.2, by omega, fun e => absurd e H5.out.1, fun _ => noesc_fr Hfr.out ⟨by omega, by omega⟩ (.inl (fun e => hcc (Hcc.out.symm.trans e)))⟩
   ·skip
    go_wp2_with fail
    (with_reducible refine (lookz_any H3.out _ (k + 4 + 1) (by omega) (by omega)).mono ?_)
    rintro e w4 ⟨rfl, hb⟩
    have F4 := Lib.hid (F3.out.then (Fr.of_below hb))
    have h4 := H3.out.below hb
    clear hb c03 c13 c23 f13
    obtain ⟨pb4, cap4, -, c04, c14, c24, f14⟩ := h4.cells
    have H4 := Lib.hid h4
    obtain ⟨cc, hcc⟩ : ∃ c, nx (xs.drop (k + 4 + 1)) = c := ⟨_, rfl⟩
    rw [hcc]
    have hbcc := nx_le (xs.drop (k + 4 + 1))
    rw [hcc] at hbcc
    obtain ⟨hbcc1, hbcc2⟩ := hbcc
    obtain ⟨ncc, hncc⟩ : ∃ n : Int, ((nl (xs.drop (k + 4 + 1)) : Nat) : Int) = n := ⟨_, rfl⟩
    rw [hncc]
    have Hcc := Lib.hid hcc
    have Hncc := Lib.hid hncc
    clear h4 hcc hncc
    by_cases hcc : cc = 117
    ·subst hcc
     have hlt := nx_drop (xs := xs) (k := k + 4 + 1) Hcc.out (by omega) (by omega)
     obtain ⟨hlt1, -, -⟩ := hlt
     have ib : ((⟨#[92, 117]⟩ : ByteArray)[1]'(by decide)).toNat = 117 := rfl
     have H5 := Lib.hid (fun (z : Int) (hz : z = ((k + 4 + (1 + 1) : Nat) : Int)) => H4.out.setz hz (by omega))
     go_wp2_with fail
     exact ⟨⟨1 + 1, by omega, by go_num, H5.out _ (by omega), F4.out.then (Fr.set _ _ _ _), fun _ => P1.out (by omega), fun _ => Hcc.out⟩, by simp [intOf]⟩
    ·have hcc' : (cc != 117) = true := by simpa using hcc
     have ib : ((⟨#[92, 117]⟩ : ByteArray)[1]'(by decide)).toNat = 117 := rfl
     go_wp2_with fail
     (with_reducible refine (wrongz_any H4.out _ (k + 4 + 1) (by omega) (by omega)).mono ?_)
     rintro e w5 ⟨rfl, q5, hq, h5, hf⟩
     have H5 := Lib.hid (And.intro hq (And.intro h5 (F4.out.then hf)))
     clear hq h5 hf
     go_wp2_with fail
     go_ret
     exact ⟨0, _, q5, rfl, H5.out.2.1, H5.out.2.2, by omega, fun e => absurd e H5.out.1, fun _ => noesc_fr Hfr.out ⟨by omega, by omega⟩ (.inr <| .inl (fun e => hcc (Hcc.out.symm.trans e)))⟩
  ·obtain rfl : j = 2 := by omega
   go_wp2_with fail
   (with_reducible refine (rfour_true H3.out hl).mono ?_)
   rintro e w5 ⟨y, k5, q5, rfl, h5, hf5, ⟨hy1, hy2⟩, hok⟩
   have H5 := Lib.hid h5
   have F5 := Lib.hid (F3.out.then hf5)
   have Hok := Lib.hid hok
   clear h5 hf5 hok c03 c13 c23 f13
   go_wp2_with fail
   go_ret
   refine ⟨65536 + (x - 55296) * 1024 + y - 56320, k5, q5, rfl, H5.out, F5.out, by omega, fun e => .inr ⟨by omega, ?_, x, f, y, ?_⟩, fun h => noesc_fr Hfr.out ⟨by omega, by omega⟩ (.inr (.inr (Hok.out.2 h)))⟩
   ·have := (Hok.out.1 e).1; omega
   ·obtain ⟨_, g, hg⟩ := Hok.out.1 e
    exact ⟨g, Hfr.out, ⟨by omega, by omega⟩, P1.out (by omega), P2.out (by omega), hg, rfl⟩
def PtP (xs : List UInt8) (rb k : Nat) (w : World) (e : Ending) (w' : World) : Prop := ∃ (z : Int) (k' : Nat) (c : Int), e = .returned (.int .i32 z) ∧ Rd xs rb w' k' c ∧ Fr rb w w' ∧ (0 ≤ z ∧ z ≤ 1200000) ∧ (c = 0 → EscC (117 :: xs.drop k) z (xs.drop k')) ∧ (c ≠ 0 → NoEscC (117 :: xs.drop k))
def PtRel (xs : List UInt8) (rb k : Nat) (w : World) (s5 s6 : Value) (wr : World) : Prop := ∃ (i : Nat) (x : Int), i ≤ 4 ∧ s5 = .int .i64 x ∧ s6 = .int .i64 i ∧ x = XF xs k i ∧ Rd xs rb wr (k + 4) 0 ∧ Fr rb w wr
theorem XF_bd {low : Bool} {xs : List UInt8} {k : Nat} {y f : Int} (h : FrOk low xs k 4 y f) (i : Nat) (hi : i ≤ 4) : 0 ≤ XF xs k i ∧ XF xs k i ≤ 65535 := by
 have p0 := h.pos 0 (by omega); have p1 := h.pos 1 (by omega); have p2 := h.pos 2 (by omega); have p3 := h.pos 3 (by omega)
 have q0 := (hexI_bd (nx (xs.drop (k + 0)))).2; have q1 := (hexI_bd (nx (xs.drop (k + 1)))).2; have q2 := (hexI_bd (nx (xs.drop (k + 2)))).2; have q3 := (hexI_bd (nx (xs.drop (k + 3)))).2
 unfold hx at p0 p1 p2 p3
 rcases (by omega : i = 0 ∨ i = 1 ∨ i = 2 ∨ i = 3 ∨ i = 4) with rfl | rfl | rfl | rfl | rfl <;> simp only [XF, hx] <;> omega
theorem esc_u {xs : List UInt8} {k : Nat} {x f : Int} (h : FrOk false xs k 4 x f) (hx : x < 55296 ∨ 56319 < x) : EscC (117 :: xs.drop k) x (xs.drop (k + 4)) := by
 obtain ⟨a, b, c, d, _, e, hh, hv, _, h2, _⟩ := h.done
 rw [e]
 have h2 := h2 rfl
 rw [hv]
 rw [hv] at hx h2
 exact EscC.u hh (by omega)
theorem esc_uu {xs : List UInt8} {k : Nat} {x f y g : Int} (h : FrOk false xs k 4 x f) (hx : 55296 ≤ x ∧ x ≤ 56319) (h1 : nx (xs.drop (k + 4)) = 92) (h2 : nx (xs.drop (k + 5)) = 117) (h' : FrOk true xs (k + 6) 4 y g) : EscC (117 :: xs.drop k) (65536 + (x - 55296) * 1024 + y - 56320) (xs.drop (k + 10)) := by
 obtain ⟨a, b, c, d, _, e, hh, hv, _, _, _⟩ := h.done
 obtain ⟨a', b', c', d', _, e', hh', hv', h3, _, _⟩ := h'.done
 obtain ⟨_, _, e1⟩ := nx_drop h1 (by omega) (by omega)
 obtain ⟨_, _, e2⟩ := nx_drop h2 (by omega) (by omega)
 rw [e, e1, e2, e', hv, hv']
 rw [hv] at hx
 have h3 := h3 rfl
 rw [hv'] at h3
 exact EscC.uu hh (by omega) hh' h3
set_option maxHeartbeats 4000000 in
set_option maxRecDepth 100000 in
theorem rpoint_any {xs : List UInt8} {rb k : Nat} {w : World} (h : Rd xs rb w k 0) (hl : xs.length ≤ 1000000) : Calls Tryz.prog 148 #[.pointer (some ⟨rb, 0, none⟩)] w fun e w' => PtP xs rb k w e w' := by
 have H := Lib.hid h
 have hkl := h.le
 obtain ⟨pb, cap, -, c0, c1, c2, f1⟩ := h.cells
 clear h
 go_enter Tryz.func148, Tryz.ntmps148
 go_wp2_with fail
 (with_reducible refine (runicode_any H.out hl).mono ?_)
 rintro e w1 ⟨z, k1, q1, rfl, h1, hf1, ⟨hz1, hz2⟩, hok⟩
 have H1 := Lib.hid h1
 have F1 := Lib.hid hf1
 have Hok := Lib.hid hok
 clear h1 hf1 hok c0 c1 c2 f1
 by_cases hz : z = 0
 case neg =>
  have hz' : (z != 0) = true := by simpa using hz
  have Hz := Lib.hid hz
  clear hz
  go_wp2_with fail
  go_ret
  refine ⟨z, k1, q1, rfl, H1.out, F1.out, by omega, fun e => ?_, Hok.out.2⟩
  rcases Hok.out.1 e with ⟨a, _⟩ | ⟨_, rfl, x, f, y, g, a, b, c, d, e', rfl⟩
  ·exact absurd a Hz.out
  ·exact esc_uu a b c d e'
 subst hz
 by_cases hq : q1 = 0
 case neg =>
  have hq' : decide (q1 = 0) = false := by simpa using hq
  have Hq := Lib.hid hq
  clear hq
  go_wp2_with fail
  (with_reducible refine (good_any H1.out).mono ?_)
  rintro e w2 ⟨rfl, rfl⟩
  go_wp2_with fail
  go_ret
  exact ⟨0, k1, q1, rfl, H1.out, F1.out, by omega, fun e => absurd e Hq.out, Hok.out.2⟩
 subst hq
 obtain ⟨rfl, y, f, hfr, hy⟩ : k1 = k + 4 ∧ ∃ x f, FrOk false xs k 4 x f ∧ (x < 55296 ∨ 56319 < x) := by
  rcases Hok.out.1 rfl with ⟨_, a, b⟩ | ⟨a, _⟩
  ·exact ⟨a, b⟩
  ·omega
 have Hfr := Lib.hid hfr
 have Hy := Lib.hid hy
 have hk4 : k + 4 ≤ xs.length := by obtain ⟨_, _, _, _, h, _⟩ := hfr.done; exact h
 clear hfr Hok hy
 go_wp2_with fail
 (with_reducible refine (good_any H1.out).mono ?_)
 rintro e w2 ⟨rfl, rfl⟩
 go_wp2_with fail
 go_loopw [5, 6] (fun s5 s6 wr => PtRel xs rb k w s5 s6 wr) (fun _ v _ => 4 - (intOf v).toNat)
 case atStart => exact ⟨0, 0, by omega, rfl, rfl, rfl, H1.out, F1.out⟩
 case round =>
  obtain ⟨i, x, hi, rfl, rfl, hx, h3, hf3⟩ := hrel
  have hxb := XF_bd Hfr.out i hi
  rw [← hx] at hxb
  obtain ⟨hxb1, hxb2⟩ := hxb
  have Hx := Lib.hid hx
  have H3 := Lib.hid h3
  have F3 := Lib.hid hf3
  obtain ⟨pb3, cap3, -, c03, c13, c23, f13⟩ := h3.cells
  clear h3 hf3 hx
  by_cases h4 : i < 4
  ·have hki : (k : Int) + i ≤ 9223372036854775807 := by omega
   go_wp2_with fail
   (with_reducible refine (lookz_any H3.out _ (k + i) (by omega) (by omega)).mono ?_)
   rintro e w4 ⟨rfl, hb⟩
   have F4 := Lib.hid (F3.out.then (Fr.of_below hb))
   have h4 := H3.out.below hb
   clear hb c03 c13 c23 f13
   obtain ⟨pb4, cap4, -, c04, c14, c24, f14⟩ := h4.cells
   have H4 := Lib.hid h4
   obtain ⟨cc, hcc⟩ : ∃ c, nx (xs.drop (k + i)) = c := ⟨_, rfl⟩
   rw [hcc]
   have hbcc := nx_le (xs.drop (k + i))
   rw [hcc] at hbcc
   obtain ⟨hbcc1, hbcc2⟩ := hbcc
   obtain ⟨ncc, hncc⟩ : ∃ n : Int, ((nl (xs.drop (k + i)) : Nat) : Int) = n := ⟨_, rfl⟩
   rw [hncc]
   have Hcc := Lib.hid hcc
   have Hncc := Lib.hid hncc
   clear h4 hcc hncc
   go_wp2_with fail
   (with_reducible refine (rhex_any cc hbcc1 hbcc2 w4).mono ?_)
   rintro e w5 ⟨rfl, rfl⟩
   have hdb := hexI_bd cc
   obtain ⟨d, hd⟩ : ∃ d, hexI cc = d := ⟨_, rfl⟩
   rw [hd] at hdb ⊢
   obtain ⟨hdb1, hdb2⟩ := hdb
   have Hd := Lib.hid (show hx xs k i = d by unfold hx; rw [Hcc.out, hd])
   clear hd
   go_wp2_with fail
   exact ⟨⟨i + 1, x * 16 + d, by omega, rfl, by go_num, by rw [Hx.out]; show _ = XF xs k i * 16 + hx xs k i; rw [Hd.out], H4.out, F4.out⟩, by simp [intOf]; omega⟩
  ·obtain rfl : i = 4 := by omega
   have hxy : x = y := by rw [Hx.out, Hfr.out.val]
   go_wp2_with fail
   go_ret
   exact ⟨y, _, 0, rfl, H3.out, F3.out, by omega, fun _ => esc_u Hfr.out Hy.out, fun e => absurd rfl e⟩
theorem Rns.low {w : World} {base b : Nat} {v : Value} {l : List Int} (h : Rns w base v l) (hb : b ≤ base) : Rns w b v l := ownsRow_low h hb
theorem is_special (c : Int) (w : World) : Calls Tryz.prog 109 #[.string ⟨#[94, 36, 92, 46, 42, 43, 63, 40, 41, 91, 93, 123, 125, 124, 47, 45]⟩, .int .i32 c] w fun e w' => IsInP special c w e w' := is_any ⟨#[94, 36, 92, 46, 42, 43, 63, 40, 41, 91, 93, 123, 125, 124, 47, 45]⟩ (by decide) c w
theorem isIn_some {s : List UInt8} {c : Int} (h : isIn s c = true) : ∃ b ∈ s, (b.toNat : Int) = c := by
 unfold isIn at h
 rw [List.any_eq_true] at h
 obtain ⟨b, hb, h⟩ := h
 exact ⟨b, hb, by simpa using h⟩
theorem isIn_no {s : List UInt8} {c : Int} (h : isIn s c = false) : ∀ b ∈ s, (b.toNat : Int) ≠ c := fun b hb e => by
 have : isIn s c = true := by unfold isIn; rw [List.any_eq_true]; exact ⟨b, hb, by simpa using e⟩
 rw [h] at this; cases this
theorem special_lt : ∀ b ∈ special, b.toNat < 128 := by decide
def EscP (xs : List UInt8) (rb k : Nat) (w : World) (e : Ending) (w' : World) : Prop := ∃ (x : Int) (A : Option Addr) (n q : Nat) (b : Bool) (k' : Nat) (c : Int), e = .returned (.tuple #[.int .i32 x, .slice A n q, .bool b]) ∧ Rd xs rb w' k' c ∧ Fr rb w w' ∧ (-2 ≤ x ∧ x ≤ 1200000) ∧ (b = true → c = 0) ∧ (b = false → A = none ∧ n = 0 ∧ q = 0) ∧
 (c = 0 → (b = false ∧ EscC (xs.drop k) x (xs.drop k')) ∨ (b = true ∧ ∃ L, EscS (xs.drop k) L (xs.drop k') ∧ Rns w' 0 (.slice A n q) (flatS L))) ∧ (c ≠ 0 → NoEscC (xs.drop k) ∧ NoEscS (xs.drop k))
theorem spDig_bd : ∀ p ∈ spDig, (0 : Int) ≤ p.1 ∧ p.1 ≤ 1114111 ∧ 0 ≤ p.2 ∧ p.2 ≤ 1114111 := by decide
theorem spWord_bd : ∀ p ∈ spWord, (0 : Int) ≤ p.1 ∧ p.1 ≤ 1114111 ∧ 0 ≤ p.2 ∧ p.2 ≤ 1114111 := by decide
theorem spBlank_bd : ∀ p ∈ spBlank, (0 : Int) ≤ p.1 ∧ p.1 ≤ 1114111 ∧ 0 ≤ p.2 ∧ p.2 ≤ 1114111 := by decide
set_option maxHeartbeats 8000000 in
set_option maxRecDepth 100000 in
theorem rescape_any {xs : List UInt8} {rb k : Nat} {w : World} (h : Rd xs rb w k 0) (hk : k ≤ xs.length) (hl : xs.length ≤ 1000000) : Calls Tryz.prog 120 #[.pointer (some ⟨rb, 0, none⟩)] w fun e w' => EscP xs rb k w e w' := by
 have H := Lib.hid h
 have F0 := Lib.hid (Fr.refl rb w)
 obtain ⟨pb, cap, -, c0, c1, c2, f1⟩ := h.cells
 clear h
 go_enter Tryz.func120, Tryz.ntmps120
 go_wp2_with fail
 (with_reducible refine (lookz_any H.out _ (k) (by omega) (by omega)).mono ?_)
 rintro e w1 ⟨rfl, hb⟩
 have F1 := Lib.hid (F0.out.then (Fr.of_below hb))
 have h1 := H.out.below hb
 clear hb c0 c1 c2 f1
 obtain ⟨pb1, cap1, -, c01, c11, c21, f11⟩ := h1.cells
 have H1 := Lib.hid h1
 obtain ⟨c, hc⟩ : ∃ c, nx (xs.drop (k)) = c := ⟨_, rfl⟩
 rw [hc]
 have hbc := nx_le (xs.drop (k))
 rw [hc] at hbc
 obtain ⟨hbc1, hbc2⟩ := hbc
 obtain ⟨nc, hnc⟩ : ∃ n : Int, ((nl (xs.drop (k)) : Nat) : Int) = n := ⟨_, rfl⟩
 rw [hnc]
 have Hc := Lib.hid hc
 have Hnc := Lib.hid hnc
 clear h1 hc hnc
 go_wp2_with fail
 (with_reducible refine (is_special c w1).mono ?_)
 rintro e w2 ⟨rfl, rfl⟩
 have H2 := Lib.hid (fun (z : Int) (hz : z = ((k + 1 : Nat) : Int)) => H1.out.setz hz (by omega))
 have F2 := Lib.hid (fun (z : Int) => F1.out.then (Fr.set rb 1 w1 (.int .i64 z)))
 by_cases hsp : isIn special c = true
 ·have Hsp := Lib.hid (isIn_some hsp)
  go_wp2_with fail
  go_ret3
  refine ⟨c, none, 0, 0, false, k + 1, 0, rfl, H2.out _ (by omega), F2.out _, by omega, by simp, by simp, fun _ => .inl ⟨rfl, ?_⟩, fun e => absurd rfl e⟩
  obtain ⟨b, hb, hbc⟩ := Hsp.out
  have hlt := special_lt b hb
  obtain ⟨_, _, e⟩ := nx_drop Hc.out (by omega) (by omega)
  rw [e, ← hbc]
  have e2 : UInt8.ofNat ((b.toNat : Nat) : Int).toNat = b := by rw [Int.toNat_natCast, UInt8.ofNat_toNat]
  rw [e2]
  exact EscC.plain hb
 have hsp' : isIn special c = false := by simpa using hsp
 clear hsp
 by_cases e116 : c = 116
 ·subst e116
  go_wp2_with fail
  go_ret3
  refine ⟨9, none, 0, 0, false, k + 1, 0, rfl, H2.out _ (by omega), F2.out _, by omega, by simp, by simp, fun _ => .inl ⟨rfl, ?_⟩, fun e => absurd rfl e⟩
  obtain ⟨_, _, e⟩ := nx_drop Hc.out (by omega) (by omega)
  rw [e]
  exact EscC.t
 have n116 : (c == 116) = false := by simpa using e116
 clear e116
 by_cases e110 : c = 110
 ·subst e110
  go_wp2_with fail
  go_ret3
  refine ⟨10, none, 0, 0, false, k + 1, 0, rfl, H2.out _ (by omega), F2.out _, by omega, by simp, by simp, fun _ => .inl ⟨rfl, ?_⟩, fun e => absurd rfl e⟩
  obtain ⟨_, _, e⟩ := nx_drop Hc.out (by omega) (by omega)
  rw [e]
  exact EscC.n
 have n110 : (c == 110) = false := by simpa using e110
 clear e110
 by_cases e118 : c = 118
 ·subst e118
  go_wp2_with fail
  go_ret3
  refine ⟨11, none, 0, 0, false, k + 1, 0, rfl, H2.out _ (by omega), F2.out _, by omega, by simp, by simp, fun _ => .inl ⟨rfl, ?_⟩, fun e => absurd rfl e⟩
  obtain ⟨_, _, e⟩ := nx_drop Hc.out (by omega) (by omega)
  rw [e]
  exact EscC.v
 have n118 : (c == 118) = false := by simpa using e118
 clear e118
 by_cases e102 : c = 102
 ·subst e102
  go_wp2_with fail
  go_ret3
  refine ⟨12, none, 0, 0, false, k + 1, 0, rfl, H2.out _ (by omega), F2.out _, by omega, by simp, by simp, fun _ => .inl ⟨rfl, ?_⟩, fun e => absurd rfl e⟩
  obtain ⟨_, _, e⟩ := nx_drop Hc.out (by omega) (by omega)
  rw [e]
  exact EscC.f
 have n102 : (c == 102) = false := by simpa using e102
 clear e102
 by_cases e114 : c = 114
 ·subst e114
  go_wp2_with fail
  go_ret3
  refine ⟨13, none, 0, 0, false, k + 1, 0, rfl, H2.out _ (by omega), F2.out _, by omega, by simp, by simp, fun _ => .inl ⟨rfl, ?_⟩, fun e => absurd rfl e⟩
  obtain ⟨_, _, e⟩ := nx_drop Hc.out (by omega) (by omega)
  rw [e]
  exact EscC.r
 have n114 : (c == 114) = false := by simpa using e114
 clear e114
 by_cases e100 : c = 100
 ·subst e100
  go_wp2_with fail
  (with_reducible refine (rdigits_any _).mono ?_)
  rintro e w3 ⟨A, q, rfl, hb3, hr3⟩
  have Hb3 := Lib.hid hb3
  have Hr3 := Lib.hid hr3
  clear hb3 hr3
  go_wp2_with fail
  go_ret3
  refine ⟨0, A, _, q, true, k + 1, 0, rfl, (H2.out _ (by omega)).below Hb3.out, (F2.out _).then (Fr.of_below Hb3.out), by omega, fun _ => rfl, by simp, fun _ => .inr ⟨rfl, spDig, ?_, Hr3.out.low (Nat.zero_le _)⟩, fun e => absurd rfl e⟩
  obtain ⟨_, _, e⟩ := nx_drop Hc.out (by omega) (by omega)
  rw [e]
  exact EscS.d
 have n100 : (c == 100) = false := by simpa using e100
 clear e100
 by_cases e119 : c = 119
 ·subst e119
  go_wp2_with fail
  (with_reducible refine (rwordy_any _).mono ?_)
  rintro e w3 ⟨A, q, rfl, hb3, hr3⟩
  have Hb3 := Lib.hid hb3
  have Hr3 := Lib.hid hr3
  clear hb3 hr3
  go_wp2_with fail
  go_ret3
  refine ⟨0, A, _, q, true, k + 1, 0, rfl, (H2.out _ (by omega)).below Hb3.out, (F2.out _).then (Fr.of_below Hb3.out), by omega, fun _ => rfl, by simp, fun _ => .inr ⟨rfl, spWord, ?_, Hr3.out.low (Nat.zero_le _)⟩, fun e => absurd rfl e⟩
  obtain ⟨_, _, e⟩ := nx_drop Hc.out (by omega) (by omega)
  rw [e]
  exact EscS.w
 have n119 : (c == 119) = false := by simpa using e119
 clear e119
 by_cases e115 : c = 115
 ·subst e115
  go_wp2_with fail
  (with_reducible refine (rblanks_any _).mono ?_)
  rintro e w3 ⟨A, q, rfl, hb3, hr3⟩
  have Hb3 := Lib.hid hb3
  have Hr3 := Lib.hid hr3
  clear hb3 hr3
  go_wp2_with fail
  go_ret3
  refine ⟨0, A, _, q, true, k + 1, 0, rfl, (H2.out _ (by omega)).below Hb3.out, (F2.out _).then (Fr.of_below Hb3.out), by omega, fun _ => rfl, by simp, fun _ => .inr ⟨rfl, spBlank, ?_, Hr3.out.low (Nat.zero_le _)⟩, fun e => absurd rfl e⟩
  obtain ⟨_, _, e⟩ := nx_drop Hc.out (by omega) (by omega)
  rw [e]
  exact EscS.s
 have n115 : (c == 115) = false := by simpa using e115
 clear e115
 by_cases e68 : c = 68
 ·subst e68
  go_wp2_with fail
  (with_reducible refine (rdigits_any _).mono ?_)
  rintro e w3 ⟨A, q, rfl, hb3, hr3⟩
  have Hb3 := Lib.hid hb3
  have Hr3 := Lib.hid hr3
  clear hb3 hr3
  go_wp2_with fail
  (with_reducible refine (rothers_any (l := spDig) (Hr3.out.low (Nat.zero_le _)) spDig_bd (by decide)).mono ?_)
  rintro e w4 ⟨A4, q4, rfl, hb4, hr4⟩
  have Hb4 := Lib.hid hb4
  have Hr4 := Lib.hid hr4
  clear hb4 hr4
  go_wp2_with fail
  go_ret3
  refine ⟨0, A4, _, q4, true, k + 1, 0, rfl, ((H2.out _ (by omega)).below Hb3.out).below Hb4.out, ((F2.out _).then (Fr.of_below Hb3.out)).then (Fr.of_below Hb4.out), by omega, fun _ => rfl, by simp, fun _ => .inr ⟨rfl, spOther spDig, ?_, Hr4.out.low (Nat.zero_le _)⟩, fun e => absurd rfl e⟩
  obtain ⟨_, _, e⟩ := nx_drop Hc.out (by omega) (by omega)
  rw [e]
  exact EscS.D
 have n68 : (c == 68) = false := by simpa using e68
 clear e68
 by_cases e87 : c = 87
 ·subst e87
  go_wp2_with fail
  (with_reducible refine (rwordy_any _).mono ?_)
  rintro e w3 ⟨A, q, rfl, hb3, hr3⟩
  have Hb3 := Lib.hid hb3
  have Hr3 := Lib.hid hr3
  clear hb3 hr3
  go_wp2_with fail
  (with_reducible refine (rothers_any (l := spWord) (Hr3.out.low (Nat.zero_le _)) spWord_bd (by decide)).mono ?_)
  rintro e w4 ⟨A4, q4, rfl, hb4, hr4⟩
  have Hb4 := Lib.hid hb4
  have Hr4 := Lib.hid hr4
  clear hb4 hr4
  go_wp2_with fail
  go_ret3
  refine ⟨0, A4, _, q4, true, k + 1, 0, rfl, ((H2.out _ (by omega)).below Hb3.out).below Hb4.out, ((F2.out _).then (Fr.of_below Hb3.out)).then (Fr.of_below Hb4.out), by omega, fun _ => rfl, by simp, fun _ => .inr ⟨rfl, spOther spWord, ?_, Hr4.out.low (Nat.zero_le _)⟩, fun e => absurd rfl e⟩
  obtain ⟨_, _, e⟩ := nx_drop Hc.out (by omega) (by omega)
  rw [e]
  exact EscS.W
 have n87 : (c == 87) = false := by simpa using e87
 clear e87
 by_cases e83 : c = 83
 ·subst e83
  go_wp2_with fail
  (with_reducible refine (rblanks_any _).mono ?_)
  rintro e w3 ⟨A, q, rfl, hb3, hr3⟩
  have Hb3 := Lib.hid hb3
  have Hr3 := Lib.hid hr3
  clear hb3 hr3
  go_wp2_with fail
  (with_reducible refine (rothers_any (l := spBlank) (Hr3.out.low (Nat.zero_le _)) spBlank_bd (by decide)).mono ?_)
  rintro e w4 ⟨A4, q4, rfl, hb4, hr4⟩
  have Hb4 := Lib.hid hb4
  have Hr4 := Lib.hid hr4
  clear hb4 hr4
  go_wp2_with fail
  go_ret3
  refine ⟨0, A4, _, q4, true, k + 1, 0, rfl, ((H2.out _ (by omega)).below Hb3.out).below Hb4.out, ((F2.out _).then (Fr.of_below Hb3.out)).then (Fr.of_below Hb4.out), by omega, fun _ => rfl, by simp, fun _ => .inr ⟨rfl, spOther spBlank, ?_, Hr4.out.low (Nat.zero_le _)⟩, fun e => absurd rfl e⟩
  obtain ⟨_, _, e⟩ := nx_drop Hc.out (by omega) (by omega)
  rw [e]
  exact EscS.S
 have n83 : (c == 83) = false := by simpa using e83
 clear e83
 by_cases e117 : c = 117
 ·subst e117
  go_wp2_with fail
  (with_reducible refine (rpoint_any (k := k + 1) (H2.out _ (by omega)) hl).mono ?_)
  rintro e w3 ⟨z, k3, q3, rfl, h3, hf3, ⟨hz1, hz2⟩, hok⟩
  have H3 := Lib.hid h3
  have F3 := Lib.hid ((F2.out _).then hf3)
  have Hok := Lib.hid hok
  clear h3 hf3 hok
  go_wp2_with fail
  go_ret3
  refine ⟨z, none, 0, 0, false, k3, q3, rfl, H3.out, F3.out, by omega, by simp, by simp, fun e => .inl ⟨rfl, ?_⟩, fun e => ?_⟩
  ·obtain ⟨_, _, e'⟩ := nx_drop Hc.out (by omega) (by omega)
   rw [e']
   exact Hok.out.1 e
  ·obtain ⟨_, _, e'⟩ := nx_drop Hc.out (by omega) (by omega)
   rw [e']
   exact ⟨Hok.out.2 e, nocls_u⟩
 have n117 : (c == 117) = false := by simpa using e117
 clear e117
 have z116 : c ≠ 116 := by simpa using n116
 have z110 : c ≠ 110 := by simpa using n110
 have z118 : c ≠ 118 := by simpa using n118
 have z102 : c ≠ 102 := by simpa using n102
 have z114 : c ≠ 114 := by simpa using n114
 have z117 : c ≠ 117 := by simpa using n117
 have z100 : c ≠ 100 := by simpa using n100
 have z119 : c ≠ 119 := by simpa using n119
 have z115 : c ≠ 115 := by simpa using n115
 have z68 : c ≠ 68 := by simpa using n68
 have z87 : c ≠ 87 := by simpa using n87
 have z83 : c ≠ 83 := by simpa using n83
 have Hno := Lib.hid (show NoEscC (xs.drop k) ∧ NoEscS (xs.drop k) from ⟨noesc_none (fun b hb he => isIn_no hsp' b hb (he.trans Hc.out)) (by rw [Hc.out]; exact ⟨z116, z110, z118, z102, z114, z117⟩), nocls_none (by rw [Hc.out]; exact ⟨z100, z119, z115, z68, z87, z83⟩)⟩)
 clear z116 z110 z118 z102 z114 z117 z100 z119 z115 z68 z87 z83
 have H2' := Lib.hid (fun (z y : Int) (hz : z = ((k + 1 : Nat) : Int)) (hy : y = (k : Int)) => (H2.out z hz).setz hy (by omega))
 go_wp2_with fail
 (with_reducible refine (wrongz_any (H2'.out _ _ (by omega) rfl) _ k (by omega) (by omega)).mono ?_)
 rintro e w3 ⟨rfl, q3, hq, h3, hf3⟩
 have H3 := Lib.hid (And.intro hq (And.intro h3 (((F2.out _).then (Fr.set _ _ _ _)).then hf3)))
 clear hq h3 hf3
 go_wp2_with fail
 go_ret3
 exact ⟨0, none, 0, 0, false, k, q3, rfl, H3.out.2.1, H3.out.2.2, by omega, by simp, by simp, fun e => absurd e H3.out.1, fun _ => Hno.out⟩
theorem hexv_le (b : UInt8) : hexv b ≤ 15 := by
 unfold hexv; split; (· omega); split; (· omega); split <;> omega
theorem EscC.isR {xs ys : List UInt8} {c : Int} (h : EscC xs c ys) : isR c = true := by
 cases h with
 | plain h => have := special_lt _ h; rw [isR_nat]; simp; omega
 | @u a b c d t h h2 => obtain ⟨_, _, _, _⟩ := h; have := hexv_le a; have := hexv_le b; have := hexv_le c; have := hexv_le d; unfold four at h2 ⊢; unfold YthhnmpkgleelfaaGreatDoor.isR; simp; omega
 | uu h h2 h' h3 => unfold YthhnmpkgleelfaaGreatDoor.isR; simp; omega
 | _ => decide
theorem nx_isR {xs : List UInt8} (h : 0 ≤ nx xs) : isR (nx xs) = true := by
 rcases nx_cases xs with ⟨_, h1, _⟩ | ⟨_, _, _, _, hr⟩ | ⟨_, _, h1, _⟩
 ·omega
 ·exact hr
 ·omega
theorem Single.isR {f : Bool} {xs ys : List UInt8} {c : Int} (h : Single f xs c ys) : isR c = true := by
 cases h with
 | esc h => exact h.isR
 | dash h => decide
 | dash1 => decide
 | chr h0 => exact nx_isR h0
def OkSp (l : Spans) : Prop := ∀ p ∈ l, isR p.1 = true ∧ isR p.2 = true ∧ p.1 ≤ p.2
theorem EscS.ok {xs ys : List UInt8} {l : Spans} (h : EscS xs l ys) : OkSp l ∧ l.length ≤ 20 := by
 unfold OkSp
 cases h <;> refine ⟨?_, by decide⟩ <;> decide
theorem Item.ok {f : Bool} {xs ys : List UInt8} {l : Spans} (h : Item f xs l ys) : OkSp l ∧ l.length ≤ 20 := by
 cases h with
 | cls h => exact h.ok
 | one h h2 => exact ⟨fun p hp => by simp at hp; subst hp; exact ⟨h.isR, h.isR, Int.le_refl _⟩, by simp⟩
 | two h h2 h3 h4 => exact ⟨fun p hp => by simp at hp; subst hp; exact ⟨h.isR, h3.isR, h4⟩, by simp⟩
theorem Rd.flt {xs : List UInt8} {rb k : Nat} {w : World} {c : Int} (hr : Rd xs rb w k c) (c' h l : Int) (A : Option Addr) (n q : Nat) : ∃ old new : Array Value, w.heap[rb]? = some (.cells old 98 (0, 0)) ∧ 2 + 4 = old.size ∧ (old.toList.take 2 ++ [Value.int .i64 c', Value.int .i64 h, Value.int .i64 l, Value.slice A n q]).toArray = new ∧ Rd xs rb (w.setRow rb new) k c' ∧ Fr rb w (w.setRow rb new) := by
 obtain ⟨a, b, d, e, f, g, i, h1, h2, h3, h4⟩ := hr
 exact ⟨_, _, h4, rfl, rfl, ⟨a, b, h, l, A, n, q, h1, h2, h3.grown (Fr.row _ _ _) (fun e => h1 (Option.some.inj e).symm), setRow_heap _ _ _ _ _ _ h4⟩, Fr.row _ _ _⟩
def SglP (xs : List UInt8) (rb k : Nat) (w : World) (e : Ending) (w' : World) : Prop := ∃ (x : Int) (k' : Nat) (c : Int), e = .returned (.int .i32 x) ∧ Rd xs rb w' k' c ∧ Fr rb w w' ∧ (-2 ≤ x ∧ x ≤ 1200000) ∧ (c = 0 → Single false (xs.drop k) x (xs.drop k')) ∧ (c ≠ 0 → NoSgl false (xs.drop k))
set_option maxHeartbeats 8000000 in
set_option maxRecDepth 100000 in
theorem rsingle_any {xs : List UInt8} {rb k : Nat} {w : World} (h : Rd xs rb w k 0) (hk : k ≤ xs.length) (hl : xs.length ≤ 1000000) (h93 : nx (xs.drop k) ≠ 93) : Calls Tryz.prog 163 #[.pointer (some ⟨rb, 0, none⟩)] w fun e w' => SglP xs rb k w e w' := by
 have H := Lib.hid h
 have F0 := Lib.hid (Fr.refl rb w)
 have H93 := Lib.hid h93
 obtain ⟨pb, cap, -, c0, c1, c2, f1⟩ := h.cells
 clear h h93
 go_enter Tryz.func163, Tryz.ntmps163
 go_wp2_with fail
 (with_reducible refine (lookz_any H.out _ (k) (by omega) (by omega)).mono ?_)
 rintro e w1 ⟨rfl, hb⟩
 have F1 := Lib.hid (F0.out.then (Fr.of_below hb))
 have h1 := H.out.below hb
 clear hb c0 c1 c2 f1
 obtain ⟨pb1, cap1, -, c01, c11, c21, f11⟩ := h1.cells
 have H1 := Lib.hid h1
 obtain ⟨c, hc⟩ : ∃ c, nx (xs.drop (k)) = c := ⟨_, rfl⟩
 rw [hc]
 have hbc := nx_le (xs.drop (k))
 rw [hc] at hbc
 obtain ⟨hbc1, hbc2⟩ := hbc
 obtain ⟨nc, hnc⟩ : ∃ n : Int, ((nl (xs.drop (k)) : Nat) : Int) = n := ⟨_, rfl⟩
 rw [hnc]
 have Hc := Lib.hid hc
 have Hnc := Lib.hid hnc
 clear h1 hc hnc
 have F1s := Lib.hid (fun (z : Int) => F1.out.then (Fr.set rb 1 w1 (.int .i64 z)))
 by_cases e45 : c = 45
 ·subst e45
  have hlt := nx_drop Hc.out (by omega) (by omega)
  have hk1 : k + 1 ≤ xs.length := by have := hlt.1; omega
  have Hlt := Lib.hid hlt
  clear hlt
  go_wp2_with fail
  (with_reducible refine (lookz_any H1.out _ (k + 1) (by omega) (by omega)).mono ?_)
  rintro e w2 ⟨rfl, hb⟩
  have F2 := Lib.hid (F1.out.then (Fr.of_below hb))
  have h2 := H1.out.below hb
  clear hb c01 c11 c21 f11
  obtain ⟨pb2, cap2, -, c02, c12, c22, f12⟩ := h2.cells
  have H2 := Lib.hid h2
  obtain ⟨d, hd⟩ : ∃ c, nx (xs.drop (k + 1)) = c := ⟨_, rfl⟩
  rw [hd]
  have hbd := nx_le (xs.drop (k + 1))
  rw [hd] at hbd
  obtain ⟨hbd1, hbd2⟩ := hbd
  obtain ⟨nd, hnd⟩ : ∃ n : Int, ((nl (xs.drop (k + 1)) : Nat) : Int) = n := ⟨_, rfl⟩
  rw [hnd]
  have Hd := Lib.hid hd
  have Hnd := Lib.hid hnd
  clear h2 hd hnd
  by_cases e93 : d = 93
  ·subst e93
   have H3 := Lib.hid (fun (z : Int) (hz : z = ((k + 1 : Nat) : Int)) => H2.out.setz hz (by omega))
   go_wp2_with fail
   go_ret
   exact ⟨45, k + 1, 0, rfl, H3.out _ (by omega), F2.out.then (Fr.set _ _ _ _), by omega, fun _ => by rw [Hlt.out.2.2]; exact Single.dash Hd.out, fun e => absurd rfl e⟩
  ·have e93' : (d != 93) = true := by simpa using e93
   go_wp2_with fail
   (with_reducible refine (wrongz_any H2.out _ (k + 1) (by omega) (by omega)).mono ?_)
   rintro e w3 ⟨rfl, q3, hq, h3, hf⟩
   have H3 := Lib.hid (And.intro hq (And.intro h3 (F2.out.then hf)))
   clear hq h3 hf c02 c12 c22 f12
   obtain ⟨pb3, cap3, -, c03, c13, c23, f13⟩ := H3.out.2.1.cells
   have H4 := Lib.hid (fun (z : Int) (hz : z = ((k + 1 : Nat) : Int)) => H3.out.2.1.setz hz (by omega))
   go_wp2_with fail
   go_ret
   exact ⟨45, k + 1, q3, rfl, H4.out _ (by omega), H3.out.2.2.then (Fr.set _ _ _ _), by omega, fun e => absurd e H3.out.1, fun _ => by rw [Hlt.out.2.2]; exact nosgl_dash (by rw [Hd.out]; exact e93)⟩
 have n45 : (c == 45) = false := by simpa using e45
 by_cases e1 : c = -1
 ·subst e1
  go_wp2_with fail
  (with_reducible refine (wrongz_any H1.out _ (k) (by omega) (by omega)).mono ?_)
  rintro e w2 ⟨rfl, q2, hq, h2, hf⟩
  have H2 := Lib.hid (And.intro hq (And.intro h2 (F1.out.then hf)))
  clear hq h2 hf c01 c11 c21 f11
  go_wp2_with fail
  go_ret
  exact ⟨0, _, q2, rfl, H2.out.2.1, H2.out.2.2, by omega, fun e => absurd e H2.out.1, fun _ => nosgl_neg (by rw [Hc.out]; decide)⟩
 have n1 : (c == -1) = false := by simpa using e1
 by_cases e2 : c = -2
 ·subst e2
  go_wp2_with fail
  (with_reducible refine (wrongz_any H1.out _ (k) (by omega) (by omega)).mono ?_)
  rintro e w2 ⟨rfl, q2, hq, h2, hf⟩
  have H2 := Lib.hid (And.intro hq (And.intro h2 (F1.out.then hf)))
  clear hq h2 hf c01 c11 c21 f11
  go_wp2_with fail
  go_ret
  exact ⟨0, _, q2, rfl, H2.out.2.1, H2.out.2.2, by omega, fun e => absurd e H2.out.1, fun _ => nosgl_neg (by rw [Hc.out]; decide)⟩
 have n2 : (c == -2) = false := by simpa using e2
 have hlt := nx_drop_lt (xs := xs) (k := k) (by rw [Hc.out]; omega)
 have hnc : 1 ≤ nc ∧ (k : Int) + nc ≤ xs.length := by have := Hnc.out; omega
 obtain ⟨hnc1, hnc2⟩ := hnc
 have Hlt := Lib.hid hlt
 clear hlt
 by_cases e92 : c = 92
 case neg =>
  have n92 : (c != 92) = true := by simpa using e92
  have H2 := Lib.hid (fun (z : Int) (hz : z = ((k + nl (xs.drop k) : Nat) : Int)) => H1.out.setz hz (by have := Hlt.out; omega))
  have Hsg : Hid (Single false (xs.drop k) c (xs.drop (k + nl (xs.drop k)))) := Lib.hid (by
   have hs := Single.chr (f := false) (xs := xs.drop k) (by rw [Hc.out]; omega) (by rw [Hc.out]; exact e92) H93.out (by rw [Hc.out]; exact e45)
   rw [List.drop_drop] at hs; rw [Hc.out] at hs; exact hs)
  clear e92 e45 e1 e2
  go_wp2_with fail
  go_ret
  exact ⟨c, k + nl (xs.drop k), 0, rfl, H2.out _ (by have := Hnc.out; omega), F1s.out _, by omega, fun _ => Hsg.out, fun e => absurd rfl e⟩
 subst e92
 have hd1 := nx_drop Hc.out (by omega) (by omega)
 have Hd1 := Lib.hid hd1
 have hk1 : k + 1 ≤ xs.length := by have := hd1.1; omega
 clear hd1
 go_wp2_with fail
 (with_reducible refine (rescape_any (k := k + 1) (H1.out.setz (by omega) (by omega)) (by omega) hl).mono ?_)
 rintro e w3 ⟨x, A, n, q, b, k3, q3, rfl, h3, hf3, ⟨hx1, hx2⟩, hb, hnb, hok⟩
 have H3 := Lib.hid h3
 have F3 := Lib.hid ((F1s.out _).then hf3)
 have Hb := Lib.hid hb
 have Hok := Lib.hid hok
 have hk3 := h3.le
 clear h3 hf3 hb hnb hok
 cases b
 ·go_wp2_with fail
  go_ret
  refine ⟨x, k3, q3, rfl, H3.out, F3.out, by omega, fun e => ?_, fun h => by rw [Hd1.out.2.2]; exact nosgl_esc (Hok.out.2 h).1⟩
  rcases Hok.out.1 e with ⟨_, h⟩ | ⟨h, _⟩
  ·rw [Hd1.out.2.2]; exact Single.esc h
  ·cases h
 ·obtain rfl := Hb.out rfl
  have Hcl : Hid (NoSgl false (xs.drop k)) := Lib.hid (by
   rcases Hok.out.1 rfl with ⟨h, _⟩ | ⟨_, L, hL, _⟩
   ·cases h
   ·rw [Hd1.out.2.2]; exact nosgl_cls hL)
  go_wp2_with fail
  (with_reducible refine (wrongz_any H3.out _ (k + 1) (by omega) (by omega)).mono ?_)
  rintro e w4 ⟨rfl, q4, hq, h4, hf⟩
  have H4 := Lib.hid (And.intro hq (And.intro h4 (F3.out.then hf)))
  clear hq h4 hf
  go_wp2_with fail
  go_ret
  exact ⟨x, _, q4, rfl, H4.out.2.1, H4.out.2.2, by omega, fun e => absurd e H4.out.1, fun _ => Hcl.out⟩
end Go.Proofs.YthhnmpkgleelfaaGreatDoor
