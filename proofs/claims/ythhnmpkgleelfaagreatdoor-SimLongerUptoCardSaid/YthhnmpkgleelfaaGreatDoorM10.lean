import Derived.Test.YthhnmpkgleelfaaGreatDoorM9
import Derived.Test.YthhnmpkgleelfaaGreatDoorM4
set_option linter.unusedVariables false
set_option linter.unusedSimpArgs false
namespace Go.Proofs.YthhnmpkgleelfaaGreatDoor
open Go.RowKit
def hx (xs : List UInt8) (k j : Nat) : Int := hexI (nx (xs.drop (k + j)))
def XF (xs : List UInt8) (k : Nat) : Nat → Int
 | 0 => 0
 | i + 1 => XF xs k i * 16 + hx xs k i
theorem hexI_bd (c : Int) : -1 ≤ hexI c ∧ hexI c ≤ 15 := by
 unfold hexI; split; (· omega); split; (· omega); split <;> omega
theorem hx_byte {xs : List UInt8} {k : Nat} (h : 0 ≤ hexI (nx (xs.drop k))) : ∃ b, k < xs.length ∧ nl (xs.drop k) = 1 ∧ xs.drop k = b :: xs.drop (k + 1) ∧ hexv b = hexI (nx (xs.drop k)) := by
 have hb : 0 ≤ nx (xs.drop k) ∧ nx (xs.drop k) < 128 := by
  unfold hexI at h
  split at h; (· omega); split at h; (· omega); split at h; (· omega)
  omega
 obtain ⟨h1, h2, h3⟩ := nx_drop rfl hb.1 hb.2
 refine ⟨_, h1, h2, h3, ?_⟩
 unfold hexv hexI
 rw [ofNat8 _ (by omega), show (((nx (xs.drop k)).toNat : Nat) : Int) = nx (xs.drop k) by omega]
 by_cases a : 48 ≤ nx (xs.drop k) ∧ nx (xs.drop k) ≤ 57
 ·rw [if_pos a, if_pos (by omega)]
 ·rw [if_neg a, if_neg (by omega)]
  by_cases b : 97 ≤ nx (xs.drop k) ∧ nx (xs.drop k) ≤ 102
  ·rw [if_pos b, if_pos (by omega)]
  ·rw [if_neg b, if_neg (by omega)]
   by_cases d : 65 ≤ nx (xs.drop k) ∧ nx (xs.drop k) ≤ 70
   ·rw [if_pos d, if_pos (by omega)]
   ·rw [if_neg d, if_neg (by omega)]
structure FrOk (low : Bool) (xs : List UInt8) (k i : Nat) (x f : Int) : Prop where
 pos : ∀ j, j < i → 0 ≤ hx xs k j
 val : x = XF xs k i
 fst : 0 < i → f = hx xs k 0
 hi : 0 < i → low = true → f = 13
 lo : 1 < i → f = 13 → (12 ≤ hx xs k 1 ↔ low = true)
 bd : (i = 0 → x = 0) ∧ (i = 1 → 0 ≤ x ∧ x ≤ 15) ∧ (i = 2 → 0 ≤ x ∧ x ≤ 255) ∧ (i = 3 → 0 ≤ x ∧ x ≤ 4095) ∧ (i = 4 → 0 ≤ x ∧ x ≤ 65535)
theorem FrOk.next {low : Bool} {xs : List UInt8} {k i : Nat} {x f d f' : Int} (h : FrOk low xs k i x f) (hi : i < 4) (hd : hx xs k i = d) (h0 : 0 ≤ d) (hf : f' = if i = 0 then d else f) (h1 : i = 0 → low = true → d = 13) (h2 : i = 1 → f = 13 → (12 ≤ d ↔ low = true)) : FrOk low xs k (i + 1) (x * 16 + d) f' := by
 have hb := hexI_bd (nx (xs.drop (k + i)))
 have hd15 : d ≤ 15 := by rw [← hd]; exact hb.2
 obtain ⟨b0, b1, b2, b3, b4⟩ := h.bd
 refine ⟨fun j hj => ?_, ?_, fun _ => ?_, fun _ hl => ?_, fun hi1 hf13 => ?_, ?_⟩
 ·by_cases hji : j < i
  ·exact h.pos j hji
  ·obtain rfl : j = i := by omega
   rw [hd]; exact h0
 ·rw [h.val]; show _ = XF xs k i * 16 + hx xs k i; rw [hd]
 ·rw [hf]
  by_cases hz : i = 0
  ·subst hz; rw [if_pos rfl]; exact hd.symm
  ·rw [if_neg hz]; exact h.fst (by omega)
 ·rw [hf]
  by_cases hz : i = 0
  ·rw [if_pos hz]; exact h1 hz hl
  ·rw [if_neg hz]; exact h.hi (by omega) hl
 ·rw [hf, if_neg (by omega)] at hf13
  by_cases ho : i = 1
  ·subst ho; rw [hd]; exact h2 rfl hf13
  ·exact h.lo (by omega) hf13
 ·refine ⟨fun e => by omega, fun e => ?_, fun e => ?_, fun e => ?_, fun e => ?_⟩
  ·have := b0 (by omega); omega
  ·have := b1 (by omega); omega
  ·have := b2 (by omega); omega
  ·have := b3 (by omega); omega
theorem FrOk.done {low : Bool} {xs : List UInt8} {k : Nat} {x f : Int} (h : FrOk low xs k 4 x f) : ∃ a b c d, k + 4 ≤ xs.length ∧ xs.drop k = a :: b :: c :: d :: xs.drop (k + 4) ∧ allHex a b c d ∧ x = four a b c d ∧ (low = true → 56320 ≤ x ∧ x < 57344) ∧ (low = false → x < 56320 ∨ 57344 ≤ x) ∧ 0 ≤ x ∧ x ≤ 65535 := by
 have p0 := h.pos 0 (by omega)
 have p1 := h.pos 1 (by omega)
 have p2 := h.pos 2 (by omega)
 have p3 := h.pos 3 (by omega)
 unfold hx at p0 p1 p2 p3
 obtain ⟨a, a1, _, a3, a4⟩ := hx_byte p0
 obtain ⟨b, b1, _, b3, b4⟩ := hx_byte p1
 obtain ⟨c, c1, _, c3, c4⟩ := hx_byte p2
 obtain ⟨d, d1, _, d3, d4⟩ := hx_byte p3
 rw [Nat.add_zero] at a1 a3 a4
 have hv : x = four a b c d := by
  rw [h.val]
  show ((((0 : Int) * 16 + hx xs k 0) * 16 + hx xs k 1) * 16 + hx xs k 2) * 16 + hx xs k 3 = _
  unfold hx four
  rw [Nat.add_zero, ← a4, ← b4, ← c4, ← d4]; omega
 have q0 := hexI_bd (nx (xs.drop k)); have q1 := hexI_bd (nx (xs.drop (k + 1))); have q2 := hexI_bd (nx (xs.drop (k + 2))); have q3 := hexI_bd (nx (xs.drop (k + 3)))
 rw [← a4] at q0
 rw [← b4] at q1 p1
 rw [← c4] at q2 p2
 rw [← d4] at q3 p3
 rw [Nat.add_zero, ← a4] at p0
 have hf : f = hexv a := by rw [h.fst (by omega)]; unfold hx; rw [Nat.add_zero, a4]
 have hlo := h.lo (by omega)
 unfold hx at hlo
 rw [← b4, hf] at hlo
 refine ⟨a, b, c, d, by omega, by rw [a3, b3, c3, d3], ⟨p0, p1, p2, p3⟩, hv, fun hl => ?_, fun hl => ?_, ?_, ?_⟩
 ·have hf13 := h.hi (by omega) hl
  rw [hf] at hf13
  have := (hlo hf13).2 hl
  rw [hv]; unfold four; omega
 ·rw [hv]; unfold four
  by_cases h13 : hexv a = 13
  ·have h12 : ¬ 12 ≤ hexv b := fun e => by have := (hlo h13).1 e; rw [hl] at this; cases this
   omega
  ·omega
 ·rw [hv]; unfold four; omega
 ·rw [hv]; unfold four; omega
theorem hexv_nx {b : UInt8} {t : List UInt8} (h : 0 ≤ hexv b) : hexI (nx (b :: t)) = hexv b := by
 have hb : b.toNat < 128 := by
  unfold hexv at h
  split at h; (· omega); split at h; (· omega); split at h <;> omega
 rw [nx_lit _ _ hb]
 unfold hexv hexI
 by_cases a1 : 48 ≤ b.toNat ∧ b.toNat ≤ 57
 ·rw [if_pos a1, if_pos (by omega)]
 ·rw [if_neg a1, if_neg (by omega)]
  by_cases a2 : 97 ≤ b.toNat ∧ b.toNat ≤ 102
  ·rw [if_pos a2, if_pos (by omega)]
  ·rw [if_neg a2, if_neg (by omega)]
   by_cases a3 : 65 ≤ b.toNat ∧ b.toNat ≤ 70
   ·rw [if_pos a3, if_pos (by omega)]
   ·rw [if_neg a3, if_neg (by omega)]
theorem hexv_le' (b : UInt8) : hexv b ≤ 15 := by
 unfold hexv; split; (· omega); split; (· omega); split <;> omega
theorem FrOk.no {low : Bool} {xs : List UInt8} {k i : Nat} {x f d : Int} (h : FrOk low xs k i x f) (hi : i < 4) (hd : hx xs k i = d) (hb : d < 0 ∨ (i = 0 ∧ low = true ∧ d ≠ 13) ∨ (i = 1 ∧ f = 13 ∧ ¬ (12 ≤ d ↔ low = true))) : NF low (xs.drop k) := by
 intro a b c e u hx' hh
 obtain ⟨pa, pb, pc, pe⟩ := hh
 have t0 : hx xs k 0 = hexv a := by unfold hx; rw [Nat.add_zero, hx']; exact hexv_nx pa
 have t1 : hx xs k 1 = hexv b := by unfold hx; rw [← List.drop_drop, hx']; exact hexv_nx pb
 have t2 : hx xs k 2 = hexv c := by unfold hx; rw [← List.drop_drop, hx']; exact hexv_nx pc
 have t3 : hx xs k 3 = hexv e := by unfold hx; rw [← List.drop_drop, hx']; exact hexv_nx pe
 have l1 := hexv_le' a; have l2 := hexv_le' b; have l3 := hexv_le' c; have l4 := hexv_le' e
 rcases hb with hb | ⟨rfl, hl, hb⟩ | ⟨rfl, hf, hb⟩
 ·exfalso
  rcases (by omega : i = 0 ∨ i = 1 ∨ i = 2 ∨ i = 3) with rfl | rfl | rfl | rfl <;> omega
 ·refine ⟨fun _ => ?_, fun h' => by rw [hl] at h'; cases h'⟩
  unfold four; omega
 ·have hf0 := h.fst (by omega)
  refine ⟨fun h' => ?_, fun h' => ?_⟩
  ·have h12 : ¬ 12 ≤ d := fun e => hb ⟨fun _ => h', fun _ => e⟩
   unfold four; omega
  ·have h12 : 12 ≤ d := by
    apply Classical.byContradiction
    intro e
    exact hb ⟨fun e' => absurd e' e, fun e' => by rw [h'] at e'; cases e'⟩
   unfold four; omega
def FourRel (low : Bool) (xs : List UInt8) (rb k : Nat) (w : World) (s5 s6 s7 : Value) (wr : World) : Prop := ∃ (i : Nat) (x f : Int), i ≤ 4 ∧ s5 = .int .i64 x ∧ s6 = .int .i64 f ∧ s7 = .int .i64 i ∧ Rd xs rb wr (k + i) 0 ∧ Fr rb w wr ∧ FrOk low xs k i x f
def FourP (low : Bool) (xs : List UInt8) (rb k : Nat) (w : World) (e : Ending) (w' : World) : Prop := ∃ (x : Int) (k' : Nat) (c : Int), e = .returned (.int .i64 x) ∧ Rd xs rb w' k' c ∧ Fr rb w w' ∧ (0 ≤ x ∧ x ≤ 65535) ∧ (c = 0 → k' = k + 4 ∧ ∃ f, FrOk low xs k 4 x f) ∧ (c ≠ 0 → NF low (xs.drop k))
set_option maxHeartbeats 8000000 in
set_option maxRecDepth 100000 in
theorem rfour_true {xs : List UInt8} {rb k : Nat} {w : World} (h : Rd xs rb w k 0) (hl : xs.length ≤ 1000000) : Calls Tryz.prog 175 #[.pointer (some ⟨rb, 0, none⟩), .bool true] w fun e w' => FourP true xs rb k w e w' := by
 have H := Lib.hid h
 have hkl := h.le
 clear h
 go_enter Tryz.func175, Tryz.ntmps175
 go_wp2_with fail
 go_loopw [5, 6, 7] (fun s5 s6 s7 wr => FourRel true xs rb k w s5 s6 s7 wr) (fun _ _ v _ => 4 - (intOf v).toNat)
 case atStart => exact ⟨0, 0, 0, by omega, rfl, rfl, rfl, H.out, Fr.refl _ _, ⟨fun j hj => by omega, rfl, fun h => by omega, fun h => by omega, fun h => by omega, by omega⟩⟩
 case round =>
  obtain ⟨i, x, f, hi, rfl, rfl, rfl, h1, hf, hk⟩ := hrel
  have hkl' := h1.le
  have H1 := Lib.hid h1
  have Hf := Lib.hid hf
  obtain ⟨pb, cap, -, c0, c1, c2, f1⟩ := h1.cells
  clear h1 hf
  by_cases h4 : i < 4
  ·rcases (by omega : i = 0 ∨ i = 1 ∨ i = 2 ∨ i = 3) with rfl | rfl | rfl | rfl
   ·skip
    have Hk := Lib.hid hk
    obtain ⟨b0, b1, b2, b3, -⟩ := hk.bd
    obtain rfl := b0 rfl
    clear b1 b2 b3
    clear hk
    go_wp2_with fail
    (with_reducible refine (lookz_any H1.out _ (k + 0) (by omega) (by omega)).mono ?_)
    rintro e w1 ⟨rfl, hb⟩
    have h2 := H1.out.below hb
    have Hf2 := Lib.hid (Hf.out.then (Fr.of_below hb))
    obtain ⟨pb2, cap2, -, d0, d1, d2, f2⟩ := h2.cells
    have H2 := Lib.hid h2
    obtain ⟨cc, hc⟩ : ∃ c, nx (xs.drop (k + 0)) = c := ⟨_, rfl⟩
    rw [hc]
    have hcb := nx_le (xs.drop (k + 0))
    rw [hc] at hcb
    obtain ⟨hcb1, hcb2⟩ := hcb
    have Hc := Lib.hid hc
    clear hb h2 c0 c1 c2 f1 hc
    generalize hm : ((nl (xs.drop (k + 0)) : Nat) : Int) = m
    clear hm
    go_wp2_with fail
    (with_reducible refine (rhex_any cc hcb1 hcb2 w1).mono ?_)
    rintro e w2 ⟨rfl, rfl⟩
    have hdb := hexI_bd cc
    obtain ⟨d, hd⟩ : ∃ d, hexI cc = d := ⟨_, rfl⟩
    rw [hd] at hdb ⊢
    obtain ⟨hdb1, hdb2⟩ := hdb
    have Hd := Lib.hid (show hx xs k 0 = d by unfold hx; rw [Hc.out, hd])
    clear hd
    by_cases h0 : 0 ≤ d
    ·by_cases h13 : d = 13
     ·subst h13
      have hlt := hx_byte (xs := xs) (k := k + 0) (by rw [Hc.out]; have := Hd.out; unfold hx at this; rw [Hc.out] at this; omega)
      have hkl : k + 0 < xs.length := by obtain ⟨_, h, _⟩ := hlt; exact h
      have Hn := Lib.hid (Hk.out.next (f' := 13) (by omega) Hd.out (by omega) (by simp) (fun _ _ => rfl) (fun e => by omega))
      have H3 := Lib.hid (fun (z : Int) (hz : z = ((k + (0 + 1) : Nat) : Int)) => H2.out.setz hz (by omega))
      clear hlt
      go_wp2_with fail
      exact ⟨⟨0 + 1, _, _, by omega, rfl, rfl, by go_num, H3.out _ (by omega), Hf2.out.then (Fr.set _ _ _ _), Hn.out⟩, by simp [intOf]⟩
     ·have h13' : (d == 13) = false := by simpa using h13
      have h0' : decide (0 ≤ d) = true := by simpa using h0
      go_wp2_with fail
      (with_reducible refine (wrongz_any H2.out _ (k + 0) (by omega) (by omega)).mono ?_)
      rintro e w3 ⟨rfl, c3, hc3, h3, hf3⟩
      have H3 := Lib.hid (And.intro hc3 (And.intro h3 (Hf2.out.then hf3)))
      clear hc3 h3 hf3
      go_wp2_with fail
      go_ret
      exact ⟨0, _, c3, rfl, H3.out.2.1, H3.out.2.2, by omega, fun e => absurd e H3.out.1, fun _ => Hk.out.no (by omega) Hd.out (.inr (.inl ⟨rfl, rfl, h13⟩))⟩
    ·skip
     have h0' : decide (0 ≤ d) = false := by simpa using h0
     go_wp2_with fail
     (with_reducible refine (wrongz_any H2.out _ (k + 0) (by omega) (by omega)).mono ?_)
     rintro e w3 ⟨rfl, c3, hc3, h3, hf3⟩
     have H3 := Lib.hid (And.intro hc3 (And.intro h3 (Hf2.out.then hf3)))
     clear hc3 h3 hf3
     go_wp2_with fail
     go_ret
     exact ⟨0, _, c3, rfl, H3.out.2.1, H3.out.2.2, by omega, fun e => absurd e H3.out.1, fun _ => Hk.out.no (by omega) Hd.out (.inl (by omega))⟩
   ·skip
    have Hk := Lib.hid hk
    obtain ⟨b0, b1, b2, b3, -⟩ := hk.bd
    obtain ⟨x1, x2⟩ := b1 rfl
    clear b0 b2 b3
    obtain rfl := hk.hi (by omega) rfl
    clear hk
    go_wp2_with fail
    (with_reducible refine (lookz_any H1.out _ (k + 1) (by omega) (by omega)).mono ?_)
    rintro e w1 ⟨rfl, hb⟩
    have h2 := H1.out.below hb
    have Hf2 := Lib.hid (Hf.out.then (Fr.of_below hb))
    obtain ⟨pb2, cap2, -, d0, d1, d2, f2⟩ := h2.cells
    have H2 := Lib.hid h2
    obtain ⟨cc, hc⟩ : ∃ c, nx (xs.drop (k + 1)) = c := ⟨_, rfl⟩
    rw [hc]
    have hcb := nx_le (xs.drop (k + 1))
    rw [hc] at hcb
    obtain ⟨hcb1, hcb2⟩ := hcb
    have Hc := Lib.hid hc
    clear hb h2 c0 c1 c2 f1 hc
    generalize hm : ((nl (xs.drop (k + 1)) : Nat) : Int) = m
    clear hm
    go_wp2_with fail
    (with_reducible refine (rhex_any cc hcb1 hcb2 w1).mono ?_)
    rintro e w2 ⟨rfl, rfl⟩
    have hdb := hexI_bd cc
    obtain ⟨d, hd⟩ : ∃ d, hexI cc = d := ⟨_, rfl⟩
    rw [hd] at hdb ⊢
    obtain ⟨hdb1, hdb2⟩ := hdb
    have Hd := Lib.hid (show hx xs k 1 = d by unfold hx; rw [Hc.out, hd])
    clear hd
    by_cases h0 : 0 ≤ d
    ·by_cases h12 : 12 ≤ d
     ·have h12' : decide (12 ≤ d) = true := by simpa using h12
      have hlt := hx_byte (xs := xs) (k := k + 1) (by rw [Hc.out]; have := Hd.out; unfold hx at this; rw [Hc.out] at this; omega)
      have hkl : k + 1 < xs.length := by obtain ⟨_, h, _⟩ := hlt; exact h
      have Hn := Lib.hid (Hk.out.next (f' := 13) (by omega) Hd.out (by omega) (by simp) (fun e => by omega) (fun _ _ => ⟨fun _ => rfl, fun _ => h12⟩))
      have H3 := Lib.hid (fun (z : Int) (hz : z = ((k + (1 + 1) : Nat) : Int)) => H2.out.setz hz (by omega))
      clear hlt
      have h0' : decide (0 ≤ d) = true := by simpa using h0
      go_wp2_with fail
      exact ⟨⟨1 + 1, _, _, by omega, rfl, rfl, by go_num, H3.out _ (by omega), Hf2.out.then (Fr.set _ _ _ _), Hn.out⟩, by simp [intOf]⟩
     ·have h12' : decide (12 ≤ d) = false := by simpa using h12
      have h0' : decide (0 ≤ d) = true := by simpa using h0
      go_wp2_with fail
      (with_reducible refine (wrongz_any H2.out _ (k + 1) (by omega) (by omega)).mono ?_)
      rintro e w3 ⟨rfl, c3, hc3, h3, hf3⟩
      have H3 := Lib.hid (And.intro hc3 (And.intro h3 (Hf2.out.then hf3)))
      clear hc3 h3 hf3
      go_wp2_with fail
      go_ret
      exact ⟨0, _, c3, rfl, H3.out.2.1, H3.out.2.2, by omega, fun e => absurd e H3.out.1, fun _ => Hk.out.no (by omega) Hd.out (.inr (.inr ⟨rfl, rfl, fun e => by have := e.2 rfl; omega⟩))⟩
    ·skip
     have h0' : decide (0 ≤ d) = false := by simpa using h0
     go_wp2_with fail
     (with_reducible refine (wrongz_any H2.out _ (k + 1) (by omega) (by omega)).mono ?_)
     rintro e w3 ⟨rfl, c3, hc3, h3, hf3⟩
     have H3 := Lib.hid (And.intro hc3 (And.intro h3 (Hf2.out.then hf3)))
     clear hc3 h3 hf3
     go_wp2_with fail
     go_ret
     exact ⟨0, _, c3, rfl, H3.out.2.1, H3.out.2.2, by omega, fun e => absurd e H3.out.1, fun _ => Hk.out.no (by omega) Hd.out (.inl (by omega))⟩
   ·skip
    have Hk := Lib.hid hk
    obtain ⟨b0, b1, b2, b3, -⟩ := hk.bd
    obtain ⟨x1, x2⟩ := b2 rfl
    clear b0 b1 b3
    obtain rfl := hk.hi (by omega) rfl
    clear hk
    go_wp2_with fail
    (with_reducible refine (lookz_any H1.out _ (k + 2) (by omega) (by omega)).mono ?_)
    rintro e w1 ⟨rfl, hb⟩
    have h2 := H1.out.below hb
    have Hf2 := Lib.hid (Hf.out.then (Fr.of_below hb))
    obtain ⟨pb2, cap2, -, d0, d1, d2, f2⟩ := h2.cells
    have H2 := Lib.hid h2
    obtain ⟨cc, hc⟩ : ∃ c, nx (xs.drop (k + 2)) = c := ⟨_, rfl⟩
    rw [hc]
    have hcb := nx_le (xs.drop (k + 2))
    rw [hc] at hcb
    obtain ⟨hcb1, hcb2⟩ := hcb
    have Hc := Lib.hid hc
    clear hb h2 c0 c1 c2 f1 hc
    generalize hm : ((nl (xs.drop (k + 2)) : Nat) : Int) = m
    clear hm
    go_wp2_with fail
    (with_reducible refine (rhex_any cc hcb1 hcb2 w1).mono ?_)
    rintro e w2 ⟨rfl, rfl⟩
    have hdb := hexI_bd cc
    obtain ⟨d, hd⟩ : ∃ d, hexI cc = d := ⟨_, rfl⟩
    rw [hd] at hdb ⊢
    obtain ⟨hdb1, hdb2⟩ := hdb
    have Hd := Lib.hid (show hx xs k 2 = d by unfold hx; rw [Hc.out, hd])
    clear hd
    by_cases h0 : 0 ≤ d
    ·skip
     have hlt := hx_byte (xs := xs) (k := k + 2) (by rw [Hc.out]; have := Hd.out; unfold hx at this; rw [Hc.out] at this; omega)
     have hkl : k + 2 < xs.length := by obtain ⟨_, h, _⟩ := hlt; exact h
     have Hn := Lib.hid (Hk.out.next (f' := 13) (by omega) Hd.out (by omega) (by simp) (fun e => by omega) (fun e => by omega))
     have H3 := Lib.hid (fun (z : Int) (hz : z = ((k + (2 + 1) : Nat) : Int)) => H2.out.setz hz (by omega))
     clear hlt
     have h0' : decide (0 ≤ d) = true := by simpa using h0
     go_wp2_with fail
     exact ⟨⟨2 + 1, _, _, by omega, rfl, rfl, by go_num, H3.out _ (by omega), Hf2.out.then (Fr.set _ _ _ _), Hn.out⟩, by simp [intOf]⟩
    ·skip
     have h0' : decide (0 ≤ d) = false := by simpa using h0
     go_wp2_with fail
     (with_reducible refine (wrongz_any H2.out _ (k + 2) (by omega) (by omega)).mono ?_)
     rintro e w3 ⟨rfl, c3, hc3, h3, hf3⟩
     have H3 := Lib.hid (And.intro hc3 (And.intro h3 (Hf2.out.then hf3)))
     clear hc3 h3 hf3
     go_wp2_with fail
     go_ret
     exact ⟨0, _, c3, rfl, H3.out.2.1, H3.out.2.2, by omega, fun e => absurd e H3.out.1, fun _ => Hk.out.no (by omega) Hd.out (.inl (by omega))⟩
   ·skip
    have Hk := Lib.hid hk
    obtain ⟨b0, b1, b2, b3, -⟩ := hk.bd
    obtain ⟨x1, x2⟩ := b3 rfl
    clear b0 b1 b2
    obtain rfl := hk.hi (by omega) rfl
    clear hk
    go_wp2_with fail
    (with_reducible refine (lookz_any H1.out _ (k + 3) (by omega) (by omega)).mono ?_)
    rintro e w1 ⟨rfl, hb⟩
    have h2 := H1.out.below hb
    have Hf2 := Lib.hid (Hf.out.then (Fr.of_below hb))
    obtain ⟨pb2, cap2, -, d0, d1, d2, f2⟩ := h2.cells
    have H2 := Lib.hid h2
    obtain ⟨cc, hc⟩ : ∃ c, nx (xs.drop (k + 3)) = c := ⟨_, rfl⟩
    rw [hc]
    have hcb := nx_le (xs.drop (k + 3))
    rw [hc] at hcb
    obtain ⟨hcb1, hcb2⟩ := hcb
    have Hc := Lib.hid hc
    clear hb h2 c0 c1 c2 f1 hc
    generalize hm : ((nl (xs.drop (k + 3)) : Nat) : Int) = m
    clear hm
    go_wp2_with fail
    (with_reducible refine (rhex_any cc hcb1 hcb2 w1).mono ?_)
    rintro e w2 ⟨rfl, rfl⟩
    have hdb := hexI_bd cc
    obtain ⟨d, hd⟩ : ∃ d, hexI cc = d := ⟨_, rfl⟩
    rw [hd] at hdb ⊢
    obtain ⟨hdb1, hdb2⟩ := hdb
    have Hd := Lib.hid (show hx xs k 3 = d by unfold hx; rw [Hc.out, hd])
    clear hd
    by_cases h0 : 0 ≤ d
    ·skip
     have hlt := hx_byte (xs := xs) (k := k + 3) (by rw [Hc.out]; have := Hd.out; unfold hx at this; rw [Hc.out] at this; omega)
     have hkl : k + 3 < xs.length := by obtain ⟨_, h, _⟩ := hlt; exact h
     have Hn := Lib.hid (Hk.out.next (f' := 13) (by omega) Hd.out (by omega) (by simp) (fun e => by omega) (fun e => by omega))
     have H3 := Lib.hid (fun (z : Int) (hz : z = ((k + (3 + 1) : Nat) : Int)) => H2.out.setz hz (by omega))
     clear hlt
     have h0' : decide (0 ≤ d) = true := by simpa using h0
     go_wp2_with fail
     exact ⟨⟨3 + 1, _, _, by omega, rfl, rfl, by go_num, H3.out _ (by omega), Hf2.out.then (Fr.set _ _ _ _), Hn.out⟩, by simp [intOf]⟩
    ·skip
     have h0' : decide (0 ≤ d) = false := by simpa using h0
     go_wp2_with fail
     (with_reducible refine (wrongz_any H2.out _ (k + 3) (by omega) (by omega)).mono ?_)
     rintro e w3 ⟨rfl, c3, hc3, h3, hf3⟩
     have H3 := Lib.hid (And.intro hc3 (And.intro h3 (Hf2.out.then hf3)))
     clear hc3 h3 hf3
     go_wp2_with fail
     go_ret
     exact ⟨0, _, c3, rfl, H3.out.2.1, H3.out.2.2, by omega, fun e => absurd e H3.out.1, fun _ => Hk.out.no (by omega) Hd.out (.inl (by omega))⟩
  ·obtain rfl : i = 4 := by omega
   have Hk := Lib.hid hk
   clear hk
   go_wp2_with fail
   go_ret
   obtain ⟨_, _, _, _, _, _, _, _, _, _, hx0, hx1⟩ := Hk.out.done
   exact ⟨x, k + 4, 0, rfl, H1.out, Hf.out, ⟨hx0, hx1⟩, fun _ => ⟨rfl, f, Hk.out⟩, fun e => absurd rfl e⟩
set_option maxHeartbeats 8000000 in
set_option maxRecDepth 100000 in
theorem rfour_false {xs : List UInt8} {rb k : Nat} {w : World} (h : Rd xs rb w k 0) (hl : xs.length ≤ 1000000) : Calls Tryz.prog 175 #[.pointer (some ⟨rb, 0, none⟩), .bool false] w fun e w' => FourP false xs rb k w e w' := by
 have H := Lib.hid h
 have hkl := h.le
 clear h
 go_enter Tryz.func175, Tryz.ntmps175
 go_wp2_with fail
 go_loopw [5, 6, 7] (fun s5 s6 s7 wr => FourRel false xs rb k w s5 s6 s7 wr) (fun _ _ v _ => 4 - (intOf v).toNat)
 case atStart => exact ⟨0, 0, 0, by omega, rfl, rfl, rfl, H.out, Fr.refl _ _, ⟨fun j hj => by omega, rfl, fun h => by omega, fun h => by omega, fun h => by omega, by omega⟩⟩
 case round =>
  obtain ⟨i, x, f, hi, rfl, rfl, rfl, h1, hf, hk⟩ := hrel
  have hkl' := h1.le
  have H1 := Lib.hid h1
  have Hf := Lib.hid hf
  obtain ⟨pb, cap, -, c0, c1, c2, f1⟩ := h1.cells
  clear h1 hf
  by_cases h4 : i < 4
  ·rcases (by omega : i = 0 ∨ i = 1 ∨ i = 2 ∨ i = 3) with rfl | rfl | rfl | rfl
   ·skip
    have Hk := Lib.hid hk
    obtain ⟨b0, b1, b2, b3, -⟩ := hk.bd
    obtain rfl := b0 rfl
    clear b1 b2 b3
    clear hk
    go_wp2_with fail
    (with_reducible refine (lookz_any H1.out _ (k + 0) (by omega) (by omega)).mono ?_)
    rintro e w1 ⟨rfl, hb⟩
    have h2 := H1.out.below hb
    have Hf2 := Lib.hid (Hf.out.then (Fr.of_below hb))
    obtain ⟨pb2, cap2, -, d0, d1, d2, f2⟩ := h2.cells
    have H2 := Lib.hid h2
    obtain ⟨cc, hc⟩ : ∃ c, nx (xs.drop (k + 0)) = c := ⟨_, rfl⟩
    rw [hc]
    have hcb := nx_le (xs.drop (k + 0))
    rw [hc] at hcb
    obtain ⟨hcb1, hcb2⟩ := hcb
    have Hc := Lib.hid hc
    clear hb h2 c0 c1 c2 f1 hc
    generalize hm : ((nl (xs.drop (k + 0)) : Nat) : Int) = m
    clear hm
    go_wp2_with fail
    (with_reducible refine (rhex_any cc hcb1 hcb2 w1).mono ?_)
    rintro e w2 ⟨rfl, rfl⟩
    have hdb := hexI_bd cc
    obtain ⟨d, hd⟩ : ∃ d, hexI cc = d := ⟨_, rfl⟩
    rw [hd] at hdb ⊢
    obtain ⟨hdb1, hdb2⟩ := hdb
    have Hd := Lib.hid (show hx xs k 0 = d by unfold hx; rw [Hc.out, hd])
    clear hd
    by_cases h0 : 0 ≤ d
    ·skip
     have hlt := hx_byte (xs := xs) (k := k + 0) (by rw [Hc.out]; have := Hd.out; unfold hx at this; rw [Hc.out] at this; omega)
     have hkl : k + 0 < xs.length := by obtain ⟨_, h, _⟩ := hlt; exact h
     have Hn := Lib.hid (Hk.out.next (f' := d) (by omega) Hd.out (by omega) (by simp) (fun _ e => by cases e) (fun e => by omega))
     have H3 := Lib.hid (fun (z : Int) (hz : z = ((k + (0 + 1) : Nat) : Int)) => H2.out.setz hz (by omega))
     clear hlt
     have h0' : decide (0 ≤ d) = true := by simpa using h0
     go_wp2_with fail
     exact ⟨⟨0 + 1, _, _, by omega, rfl, rfl, by go_num, H3.out _ (by omega), Hf2.out.then (Fr.set _ _ _ _), by have := Hn.out; rw [Int.zero_mul, Int.zero_add] at this; exact this⟩, by simp [intOf]⟩
    ·skip
     have h0' : decide (0 ≤ d) = false := by simpa using h0
     go_wp2_with fail
     (with_reducible refine (wrongz_any H2.out _ (k + 0) (by omega) (by omega)).mono ?_)
     rintro e w3 ⟨rfl, c3, hc3, h3, hf3⟩
     have H3 := Lib.hid (And.intro hc3 (And.intro h3 (Hf2.out.then hf3)))
     clear hc3 h3 hf3
     go_wp2_with fail
     go_ret
     exact ⟨0, _, c3, rfl, H3.out.2.1, H3.out.2.2, by omega, fun e => absurd e H3.out.1, fun _ => Hk.out.no (by omega) Hd.out (.inl (by omega))⟩
   ·skip
    have Hk := Lib.hid hk
    obtain ⟨b0, b1, b2, b3, -⟩ := hk.bd
    obtain ⟨x1, x2⟩ := b1 rfl
    clear b0 b2 b3
    clear hk
    go_wp2_with fail
    (with_reducible refine (lookz_any H1.out _ (k + 1) (by omega) (by omega)).mono ?_)
    rintro e w1 ⟨rfl, hb⟩
    have h2 := H1.out.below hb
    have Hf2 := Lib.hid (Hf.out.then (Fr.of_below hb))
    obtain ⟨pb2, cap2, -, d0, d1, d2, f2⟩ := h2.cells
    have H2 := Lib.hid h2
    obtain ⟨cc, hc⟩ : ∃ c, nx (xs.drop (k + 1)) = c := ⟨_, rfl⟩
    rw [hc]
    have hcb := nx_le (xs.drop (k + 1))
    rw [hc] at hcb
    obtain ⟨hcb1, hcb2⟩ := hcb
    have Hc := Lib.hid hc
    clear hb h2 c0 c1 c2 f1 hc
    generalize hm : ((nl (xs.drop (k + 1)) : Nat) : Int) = m
    clear hm
    go_wp2_with fail
    (with_reducible refine (rhex_any cc hcb1 hcb2 w1).mono ?_)
    rintro e w2 ⟨rfl, rfl⟩
    have hdb := hexI_bd cc
    obtain ⟨d, hd⟩ : ∃ d, hexI cc = d := ⟨_, rfl⟩
    rw [hd] at hdb ⊢
    obtain ⟨hdb1, hdb2⟩ := hdb
    have Hd := Lib.hid (show hx xs k 1 = d by unfold hx; rw [Hc.out, hd])
    clear hd
    by_cases h0 : 0 ≤ d
    ·by_cases h13 : f = 13
     ·subst h13
      by_cases h12 : 12 ≤ d
      ·have h12' : decide (12 ≤ d) = true := by simpa using h12
       have h0' : decide (0 ≤ d) = true := by simpa using h0
       go_wp2_with fail
       (with_reducible refine (wrongz_any H2.out _ (k + 1) (by omega) (by omega)).mono ?_)
       rintro e w3 ⟨rfl, c3, hc3, h3, hf3⟩
       have H3 := Lib.hid (And.intro hc3 (And.intro h3 (Hf2.out.then hf3)))
       clear hc3 h3 hf3
       go_wp2_with fail
       go_ret
       exact ⟨0, _, c3, rfl, H3.out.2.1, H3.out.2.2, by omega, fun e => absurd e H3.out.1, fun _ => Hk.out.no (by omega) Hd.out (.inr (.inr ⟨rfl, rfl, fun e => absurd (e.1 h12) (by decide)⟩))⟩
      ·have h12' : decide (12 ≤ d) = false := by simpa using h12
       have hlt := hx_byte (xs := xs) (k := k + 1) (by rw [Hc.out]; have := Hd.out; unfold hx at this; rw [Hc.out] at this; omega)
       have hkl : k + 1 < xs.length := by obtain ⟨_, h, _⟩ := hlt; exact h
       have Hn := Lib.hid (Hk.out.next (f' := 13) (by omega) Hd.out (by omega) (by simp) (fun e => by omega) (fun _ _ => ⟨fun e => absurd e h12, fun e => by cases e⟩))
       have H3 := Lib.hid (fun (z : Int) (hz : z = ((k + (1 + 1) : Nat) : Int)) => H2.out.setz hz (by omega))
       clear hlt
       have h0' : decide (0 ≤ d) = true := by simpa using h0
       go_wp2_with fail
       exact ⟨⟨1 + 1, _, _, by omega, rfl, rfl, by go_num, H3.out _ (by omega), Hf2.out.then (Fr.set _ _ _ _), Hn.out⟩, by simp [intOf]⟩
     ·have h13' : (f == 13) = false := by simpa using h13
      have hlt := hx_byte (xs := xs) (k := k + 1) (by rw [Hc.out]; have := Hd.out; unfold hx at this; rw [Hc.out] at this; omega)
      have hkl : k + 1 < xs.length := by obtain ⟨_, h, _⟩ := hlt; exact h
      have Hn := Lib.hid (Hk.out.next (f' := f) (by omega) Hd.out (by omega) (by simp) (fun e => by omega) (fun _ e => absurd e h13))
      have H3 := Lib.hid (fun (z : Int) (hz : z = ((k + (1 + 1) : Nat) : Int)) => H2.out.setz hz (by omega))
      clear hlt
      have h0' : decide (0 ≤ d) = true := by simpa using h0
      go_wp2_with fail
      exact ⟨⟨1 + 1, _, _, by omega, rfl, rfl, by go_num, H3.out _ (by omega), Hf2.out.then (Fr.set _ _ _ _), Hn.out⟩, by simp [intOf]⟩
    ·by_cases h13 : f = 13
     ·subst h13
      have h0' : decide (0 ≤ d) = false := by simpa using h0
      go_wp2_with fail
      (with_reducible refine (wrongz_any H2.out _ (k + 1) (by omega) (by omega)).mono ?_)
      rintro e w3 ⟨rfl, c3, hc3, h3, hf3⟩
      have H3 := Lib.hid (And.intro hc3 (And.intro h3 (Hf2.out.then hf3)))
      clear hc3 h3 hf3
      go_wp2_with fail
      go_ret
      exact ⟨0, _, c3, rfl, H3.out.2.1, H3.out.2.2, by omega, fun e => absurd e H3.out.1, fun _ => Hk.out.no (by omega) Hd.out (.inl (by omega))⟩
     ·have h13' : (f == 13) = false := by simpa using h13
      have h0' : decide (0 ≤ d) = false := by simpa using h0
      go_wp2_with fail
      (with_reducible refine (wrongz_any H2.out _ (k + 1) (by omega) (by omega)).mono ?_)
      rintro e w3 ⟨rfl, c3, hc3, h3, hf3⟩
      have H3 := Lib.hid (And.intro hc3 (And.intro h3 (Hf2.out.then hf3)))
      clear hc3 h3 hf3
      go_wp2_with fail
      go_ret
      exact ⟨0, _, c3, rfl, H3.out.2.1, H3.out.2.2, by omega, fun e => absurd e H3.out.1, fun _ => Hk.out.no (by omega) Hd.out (.inl (by omega))⟩
   ·skip
    have Hk := Lib.hid hk
    obtain ⟨b0, b1, b2, b3, -⟩ := hk.bd
    obtain ⟨x1, x2⟩ := b2 rfl
    clear b0 b1 b3
    clear hk
    go_wp2_with fail
    (with_reducible refine (lookz_any H1.out _ (k + 2) (by omega) (by omega)).mono ?_)
    rintro e w1 ⟨rfl, hb⟩
    have h2 := H1.out.below hb
    have Hf2 := Lib.hid (Hf.out.then (Fr.of_below hb))
    obtain ⟨pb2, cap2, -, d0, d1, d2, f2⟩ := h2.cells
    have H2 := Lib.hid h2
    obtain ⟨cc, hc⟩ : ∃ c, nx (xs.drop (k + 2)) = c := ⟨_, rfl⟩
    rw [hc]
    have hcb := nx_le (xs.drop (k + 2))
    rw [hc] at hcb
    obtain ⟨hcb1, hcb2⟩ := hcb
    have Hc := Lib.hid hc
    clear hb h2 c0 c1 c2 f1 hc
    generalize hm : ((nl (xs.drop (k + 2)) : Nat) : Int) = m
    clear hm
    go_wp2_with fail
    (with_reducible refine (rhex_any cc hcb1 hcb2 w1).mono ?_)
    rintro e w2 ⟨rfl, rfl⟩
    have hdb := hexI_bd cc
    obtain ⟨d, hd⟩ : ∃ d, hexI cc = d := ⟨_, rfl⟩
    rw [hd] at hdb ⊢
    obtain ⟨hdb1, hdb2⟩ := hdb
    have Hd := Lib.hid (show hx xs k 2 = d by unfold hx; rw [Hc.out, hd])
    clear hd
    by_cases h0 : 0 ≤ d
    ·skip
     have hlt := hx_byte (xs := xs) (k := k + 2) (by rw [Hc.out]; have := Hd.out; unfold hx at this; rw [Hc.out] at this; omega)
     have hkl : k + 2 < xs.length := by obtain ⟨_, h, _⟩ := hlt; exact h
     have Hn := Lib.hid (Hk.out.next (f' := f) (by omega) Hd.out (by omega) (by simp) (fun e => by omega) (fun e => by omega))
     have H3 := Lib.hid (fun (z : Int) (hz : z = ((k + (2 + 1) : Nat) : Int)) => H2.out.setz hz (by omega))
     clear hlt
     have h0' : decide (0 ≤ d) = true := by simpa using h0
     go_wp2_with fail
     exact ⟨⟨2 + 1, _, _, by omega, rfl, rfl, by go_num, H3.out _ (by omega), Hf2.out.then (Fr.set _ _ _ _), Hn.out⟩, by simp [intOf]⟩
    ·skip
     have h0' : decide (0 ≤ d) = false := by simpa using h0
     go_wp2_with fail
     (with_reducible refine (wrongz_any H2.out _ (k + 2) (by omega) (by omega)).mono ?_)
     rintro e w3 ⟨rfl, c3, hc3, h3, hf3⟩
     have H3 := Lib.hid (And.intro hc3 (And.intro h3 (Hf2.out.then hf3)))
     clear hc3 h3 hf3
     go_wp2_with fail
     go_ret
     exact ⟨0, _, c3, rfl, H3.out.2.1, H3.out.2.2, by omega, fun e => absurd e H3.out.1, fun _ => Hk.out.no (by omega) Hd.out (.inl (by omega))⟩
   ·skip
    have Hk := Lib.hid hk
    obtain ⟨b0, b1, b2, b3, -⟩ := hk.bd
    obtain ⟨x1, x2⟩ := b3 rfl
    clear b0 b1 b2
    clear hk
    go_wp2_with fail
    (with_reducible refine (lookz_any H1.out _ (k + 3) (by omega) (by omega)).mono ?_)
    rintro e w1 ⟨rfl, hb⟩
    have h2 := H1.out.below hb
    have Hf2 := Lib.hid (Hf.out.then (Fr.of_below hb))
    obtain ⟨pb2, cap2, -, d0, d1, d2, f2⟩ := h2.cells
    have H2 := Lib.hid h2
    obtain ⟨cc, hc⟩ : ∃ c, nx (xs.drop (k + 3)) = c := ⟨_, rfl⟩
    rw [hc]
    have hcb := nx_le (xs.drop (k + 3))
    rw [hc] at hcb
    obtain ⟨hcb1, hcb2⟩ := hcb
    have Hc := Lib.hid hc
    clear hb h2 c0 c1 c2 f1 hc
    generalize hm : ((nl (xs.drop (k + 3)) : Nat) : Int) = m
    clear hm
    go_wp2_with fail
    (with_reducible refine (rhex_any cc hcb1 hcb2 w1).mono ?_)
    rintro e w2 ⟨rfl, rfl⟩
    have hdb := hexI_bd cc
    obtain ⟨d, hd⟩ : ∃ d, hexI cc = d := ⟨_, rfl⟩
    rw [hd] at hdb ⊢
    obtain ⟨hdb1, hdb2⟩ := hdb
    have Hd := Lib.hid (show hx xs k 3 = d by unfold hx; rw [Hc.out, hd])
    clear hd
    by_cases h0 : 0 ≤ d
    ·skip
     have hlt := hx_byte (xs := xs) (k := k + 3) (by rw [Hc.out]; have := Hd.out; unfold hx at this; rw [Hc.out] at this; omega)
     have hkl : k + 3 < xs.length := by obtain ⟨_, h, _⟩ := hlt; exact h
     have Hn := Lib.hid (Hk.out.next (f' := f) (by omega) Hd.out (by omega) (by simp) (fun e => by omega) (fun e => by omega))
     have H3 := Lib.hid (fun (z : Int) (hz : z = ((k + (3 + 1) : Nat) : Int)) => H2.out.setz hz (by omega))
     clear hlt
     have h0' : decide (0 ≤ d) = true := by simpa using h0
     go_wp2_with fail
     exact ⟨⟨3 + 1, _, _, by omega, rfl, rfl, by go_num, H3.out _ (by omega), Hf2.out.then (Fr.set _ _ _ _), Hn.out⟩, by simp [intOf]⟩
    ·skip
     have h0' : decide (0 ≤ d) = false := by simpa using h0
     go_wp2_with fail
     (with_reducible refine (wrongz_any H2.out _ (k + 3) (by omega) (by omega)).mono ?_)
     rintro e w3 ⟨rfl, c3, hc3, h3, hf3⟩
     have H3 := Lib.hid (And.intro hc3 (And.intro h3 (Hf2.out.then hf3)))
     clear hc3 h3 hf3
     go_wp2_with fail
     go_ret
     exact ⟨0, _, c3, rfl, H3.out.2.1, H3.out.2.2, by omega, fun e => absurd e H3.out.1, fun _ => Hk.out.no (by omega) Hd.out (.inl (by omega))⟩
  ·obtain rfl : i = 4 := by omega
   have Hk := Lib.hid hk
   clear hk
   go_wp2_with fail
   go_ret
   obtain ⟨_, _, _, _, _, _, _, _, _, _, hx0, hx1⟩ := Hk.out.done
   exact ⟨x, k + 4, 0, rfl, H1.out, Hf.out, ⟨hx0, hx1⟩, fun _ => ⟨rfl, f, Hk.out⟩, fun e => absurd rfl e⟩
end Go.Proofs.YthhnmpkgleelfaaGreatDoor
