/- The tied Upto card of wicketlaw12.SimStrings is proved: the call returns true, and the strings read afterwards as before. Conditions: the arguments hold at most 1048576 values and letters together (the Upto form). Condition: the listed package-level variables read as their text lays them (the card ties them). -/
import Derived.Test.YthhnmpkgleelfaaGreatDoorM6
import Derived.Test.YthhnmpkgleelfaaGreatDoorM5
import Derived.Test.YthhnmpkgleelfaaGreatDoorM4
import Derived.Test.YthhnmpkgleelfaaGreatDoorM3
import Derived.Test.YthhnmpkgleelfaaGreatDoorM1
import Derived.Test.YthhnmpkgleelfaaGreatDoorM34
import Derived.Test.YthhnmpkgleelfaaGreatDoorM33
import Derived.Test.YthhnmpkgleelfaaGreatDoorM32
import Derived.Test.YthhnmpkgleelfaaGreatDoorM31
import Derived.Test.YthhnmpkgleelfaaGreatDoorM30
import Derived.Test.YthhnmpkgleelfaaGreatDoorM29
import Derived.Test.YthhnmpkgleelfaaGreatDoorM28
import Derived.Test.YthhnmpkgleelfaaGreatDoorM26
import Derived.Test.YthhnmpkgleelfaaGreatDoorM25
import Derived.Test.YthhnmpkgleelfaaGreatDoorM24
import Derived.Test.YthhnmpkgleelfaaGreatDoorM23
import Derived.Test.YthhnmpkgleelfaaGreatDoorM22
import Derived.Test.YthhnmpkgleelfaaGreatDoorM21
import Derived.Test.YthhnmpkgleelfaaGreatDoorM20
import Derived.Test.YthhnmpkgleelfaaGreatDoorM19
import Derived.Test.YthhnmpkgleelfaaGreatDoorM18
import Derived.Test.YthhnmpkgleelfaaGreatDoorM17
import Derived.Test.YthhnmpkgleelfaaGreatDoorM16
import Derived.Test.YthhnmpkgleelfaaGreatDoorM12
import Derived.Test.YthhnmpkgleelfaaGreatDoorM11
import Derived.Test.YthhnmpkgleelfaaGreatDoorM10
import Derived.Test.YthhnmpkgleelfaaGreatDoorM9
import Derived.Test.YthhnmpkgleelfaaGreatDoorM8
import Derived.Test.YthhnmpkgleelfaaGreatDoorM2
import Derived.Test.YthhnmpkgleelfaaGreatDoorM15
import Derived.Test.YthhnmpkgleelfaaGreatDoorM13
import Derived.Test.YthhnmpkgleelfaaGreatDoorM14
import Derived.Test.YthhnmpkgleelfaaGreatDoorM27
import Derived.Test.YthhnmpkgleelfaaGreatDoorM7
import Derived.Test.YthhnmpkgleelfaaGreatDoorM41
import Derived.Test.YthhnmpkgleelfaaGreatDoorM35
import Derived.Test.YthhnmpkgleelfaaGreatDoorM40
import Derived.Test.YthhnmpkgleelfaaGreatDoorM39
import Derived.Test.YthhnmpkgleelfaaGreatDoorM38
import Derived.Test.YthhnmpkgleelfaaGreatDoorM37
import Derived.Test.YthhnmpkgleelfaaGreatDoorM36
import Derived.Test.YthhnmpkgleelfaaGreatDoorM42
import Derived.Deep.DeepHandedRow
set_option linter.unusedVariables false
set_option linter.unusedSimpArgs false
namespace Go.Proofs.YthhnmpkgleelfaaGreatDoor
theorem idx_rise : ∀ (l : List Bool) (k : Nat) (i : Nat) (a b : Int), (idx k l)[i]? = some a → (idx k l)[i + 1]? = some b → a < b
 | [], k, i, a, b, h, _ => by simp [idx] at h
 | x :: l, k, i, a, b, h, h2 => by
  unfold idx at h h2
  by_cases hx : x = true
  ·rw [if_pos hx] at h h2
   cases i with
   | zero =>
    have e : (k : Int) = a := by simpa using h
    have hb : b ∈ idx (k + 1) l := List.mem_of_getElem? (by simpa using h2)
    obtain ⟨j, h3, _⟩ := (idx_mem l (k + 1) b).1 hb
    omega
   | succ i => exact idx_rise l (k + 1) i a b (by simpa using h) (by simpa using h2)
  ·rw [if_neg hx] at h h2
   exact idx_rise l (k + 1) i a b h h2
end Go.Proofs.YthhnmpkgleelfaaGreatDoor
namespace Go.Proofs.YthhnmpkgleelfaaGreatDoor
open Go.RowKit
theorem rns_cell {w : World} {base g n q k : Nat} {l : List Int} {c : Int} (h : Rns w base (.slice (some ⟨g, 0, none⟩) n q) l) (hc : l[k]? = some c) : w.cell? ⟨g, k, none⟩ = some (.int .i32 c) := by
 obtain ⟨_, _, e, _⟩ := ownsRow_slice h
 obtain ⟨_, rfl, _⟩ := Value.slice.inj e
 have := ownsRow_cell h rfl k (by have := (List.getElem?_eq_some_iff.1 hc).1; omega)
 rw [this, List.getElem?_map, hc]
 rfl
end Go.Proofs.YthhnmpkgleelfaaGreatDoor
namespace Go.Proofs.YthhnmpkgleelfaaGreatDoor
open Go.RowKit Go.Shelf
theorem ends_part {M : List St} {st i : Nat} {S : List Int} {z zi : List Bool} (h : EndsAt M st S true z) (k : EndsAt M st (S.take i) false zi) (hi : i < S.length) : zi = z.take (i + 1) := by
 have hl : (S.take i).length = i := by rw [List.length_take]; omega
 refine bools_ext (by have h1 := h.1; have h2 := k.1; rw [hl] at h2; rw [h2, List.length_take]; omega) (fun j => ?_)
 rw [k.2 j, List.getElem?_take]
 by_cases hj : j < i + 1
 ·rw [if_pos hj, h.2 j]
  constructor
  ·intro hr
   have := hr.more (S.drop i)
   rw [List.take_append_drop] at this
   exact this.sure
  ·intro hr
   have h1 := hr.early (by omega)
   rw [← List.take_append_drop i S] at h1
   exact h1.less (by omega)
 ·rw [if_neg hj]
  constructor
  ·intro hr; have := hr.len; omega
  ·intro e; cases e
def StrR (w : World) (M : List St) (st mg g pg : Nat) (S : List Int) (vR : Value) (s12 : Value) (wr : World) : Prop := ∃ (i : Nat) (vs ve : Value), i ≤ S.length ∧ s12 = .int .i64 i ∧ RunR M st mg w.heap.size g pg (S.take i) false vs ve wr ∧ Below w.heap.size w wr ∧ Rns wr w.heap.size vR S ∧ ∀ b, Foot g pg vs ve b → vR.ownBlock ≠ some b
def ChkR (w : World) (n : Nat) (s17 : Value) (wr : World) : Prop := ∃ i : Nat, i ≤ n ∧ s17 = .int .i64 i ∧ Below w.heap.size w wr
set_option maxHeartbeats 16000000 in
set_option maxRecDepth 100000 in
theorem simstrings_any {w : World} (hT : Tabs w) (p s : ByteArray) (hs : s.size ≤ 1048576) : Calls Tryz.prog 5 #[.string p, .string s] w fun e w' => TrP w e w' := by
 have Hf := Lib.hid (first_any hT)
 have Hg := Lib.hid (fun w0 : World => good2_any (w := w0) p)
 have HT := Lib.hid hT
 clear hT
 go_enter Tryz.func5, Tryz.ntmps5
 go_wp2_with fail
 (with_reducible refine Hf.out.mono ?_)
 rintro e w1 ⟨rfl, hb1⟩
 obtain ⟨W2, cap, hconv, hbc, hbs⟩ := conv_bytes w1 s (by omega)
 have Hb2 := Lib.hid (hb1.trans (hbc.mono hb1.size))
 have Hbs := Lib.hid hbs
 clear hb1 hbc hbs
 go_wp2_with fail
 clear hconv
 (with_reducible refine (refvalid_any Hbs.out (by rw [Array.length_toList]; exact Nat.le_trans hs (by decide))).mono ?_)
 rintro e w3 ⟨c, hh, ll, fA, fn, fq, rfl, hok, hb3⟩
 have hal := alloc_below w3 (.cells #[.int .i64 c, .int .i64 hh, .int .i64 ll, .slice fA fn fq] 52)
 have Hok := Lib.hid hok
 have Hb3 := Lib.hid (Hb2.out.trans (hb3.mono Hb2.out.size))
 have Hb4 := Lib.hid (Hb3.out.trans (hal.mono Hb3.out.size))
 have Hbox := Lib.hid (heap_alloc_new w3 (.cells #[.int .i64 c, .int .i64 hh, .int .i64 ll, .slice fA fn fq] 52))
 unfold fltV
 clear hok hb3 hal Hbs Hb2
 go_wp2_with fail
 obtain ⟨w4, hw4⟩ : ∃ w4, w3.alloc (.cells #[.int .i64 c, .int .i64 hh, .int .i64 ll, .slice fA fn fq] 52) = w4 := ⟨_, rfl⟩
 rw [hw4] at Hb4 Hbox ⊢
 clear hw4
 (with_reducible refine (Hg.out w4).mono ?_)
 rintro e w5 ⟨b, rfl, hb5, ht, -⟩
 have Hb5 := Lib.hid (Hb4.out.trans (hb5.mono Hb4.out.size))
 have Hbox5 := Lib.hid ((hb5.block _ (lt_of_heap Hbox.out)).trans Hbox.out)
 have d0 := row_cell Hbox5.out (j := 0) (u := .int .i64 c) rfl
 clear hb5 Hbox
 cases b with
 | false =>
  clear ht
  go_wp2_with fail
  go_ret
  exact ⟨rfl, Hb5.out⟩
 | true =>
 obtain ⟨r, hr⟩ := ht rfl
 by_cases hl : 2000 < s.size
 ·have hl2 : 2000 < (s.size : Int) := by omega
  clear ht
  go_wp2_with fail
  go_ret
  exact ⟨rfl, Hb5.out⟩
 have hl2 : ¬ 2000 < (s.size : Int) := by omega
 by_cases hc0 : c = 0
 case neg =>
  have hc1 : (c != 0) = true := by simpa using hc0
  clear ht
  go_wp2_with fail
  go_ret
  exact ⟨rfl, Hb5.out⟩
 case pos =>
  subst hc0
  obtain ⟨S, hS1, hS2, hS3⟩ := okU_runes (Hok.out rfl)
  have HS1 := Lib.hid hS1
  have HS3 := Lib.hid hS3
  obtain ⟨ho, hx, hz, hw⟩ := hr.facts
  have hst := hr.2.2
  have Hmo := Lib.hid (mc_ok ho hst)
  have Ho := Lib.hid ho
  have Hof := Lib.hid (of_any hr (HT.out.below Hb5.out))
  clear ht hr ho hx hw hS1 hS2 hS3
  go_wp2_with fail
  clear d0
  (with_reducible refine Hof.out.mono ?_)
  rintro e w6 ⟨mg, Ax, nx, qx, rfl, hm6, -, -, hb6⟩
  have Hb6 := Lib.hid (Hb5.out.trans (hb6.mono Hb5.out.size))
  have Hm6 := Lib.hid hm6
  clear hm6 hb6 Hof
  go_wp2_with fail
  (with_reducible refine (sends_any Hmo.out Hm6.out (by omega)).mono ?_)
  rintro e w7 ⟨z, hz7, A9, rfl, hb7, q9, ho9⟩
  rw [HS3.out] at hz7
  have Hz := Lib.hid hz7
  have Hb7 := Lib.hid (Hb6.out.trans (hb7.mono Hb6.out.size))
  have Hm7 := Lib.hid (Hm6.out.below hb7)
  have hsl := Sl.clip (Ints.sl ho9)
  obtain ⟨n, hn⟩ : ∃ n, (idx 0 z).length = n := ⟨_, rfl⟩
  rw [hn] at hsl ⊢
  have Hsl := Lib.hid hsl
  have Hn := Lib.hid hn
  have HA9 := Lib.hid (show ∀ a, A9 = some a → ∃ g, a = ⟨g, 0, none⟩ from fun a ha => by
   subst ha
   obtain ⟨_, ⟨e, _⟩ | ⟨g, _, _, e, _⟩⟩ := ho9
   ·obtain ⟨e, _, _⟩ := Value.slice.inj e; cases e
   ·obtain ⟨e, _, _⟩ := Value.slice.inj e; exact ⟨g, Option.some.inj e⟩)
  have hzl := hz7.1
  have hil := idx_len z 0
  have hsz : S.length ≤ 2000 := by rw [← HS3.out]; exact Nat.le_trans (runes_len badR _ s.data.toList (Nat.le_refl _)) (by rw [Array.length_toList]; show s.size ≤ 2000; omega)
  have hnb : n ≤ 2001 := by rw [← hn]; omega
  clear hz7 hb7 ho9 hsl hn
  go_wp2_with fail
  (with_reducible refine (new_any Hmo.out Hm7.out).mono ?_)
  rintro e w8 ⟨g, pg, vs, ve, rfl, hr8, hb8⟩
  have Hr8 := Lib.hid hr8
  have Hb8 := Lib.hid hb8
  clear hr8 hb8
  go_wp2_with fail
  (with_reducible refine (refrunes_any w8 s (by omega)).mono ?_)
  rintro e w9 ⟨AR, nR, qR, rfl, hb9, ho9⟩
  rw [HS3.out] at ho9
  obtain rfl : nR = S.length := by obtain ⟨_, _, e, _⟩ := ownsRow_slice ho9; exact (Value.slice.inj e).2.1
  have H0 := Lib.hid (show StrR w7 (mcS r) (mcT r) mg g pg S (.slice AR S.length qR) (.int .i64 0) w9 from ⟨0, vs, ve, Nat.zero_le _, rfl, by rw [List.take_zero]; exact Hr8.out.stay (Chg.of_below (F := fun _ => False) hb9) (fun _ h => h.elim) (fun _ _ h => h), Hb8.out.trans (hb9.mono Hb8.out.size), ho9.low Hb8.out.size, fun b hb he => by
   have h1 := (Hr8.out.foot hb).2
   have h2 := (ownsRow_block ho9 he).1
   omega⟩)
  have HMl := Lib.hid Hmo.out.len
  clear hb9 ho9 Hr8 Hb8
  go_wp2_with fail
  go_loopw [12, 13] (fun s12 _ wr => StrR w7 (mcS r) (mcT r) mg g pg S (.slice AR S.length qR) s12 wr) (fun v _ _ => S.length + 1 - (intOf v).toNat)
  case atStart => exact H0.out
  case round =>
   clear H0 vs ve
   obtain ⟨i, vs, ve, hi, rfl, hrr, hb, hR, hd⟩ := hrel
   have Hr := Lib.hid hrr
   have Hb := Lib.hid hb
   have HR := Lib.hid hR
   have Hd := Lib.hid hd
   have hbs := hb.size
   have hti : (S.take i).length = i := by rw [List.length_take]; omega
   have Hti := Lib.hid hti
   by_cases hlt : i < S.length
   ·have hii : (i : Int) < (S.length : Int) := by omega
    obtain ⟨zi, -, hzi⟩ := hrr.ends
    have hzz := ends_part Hz.out hzi hlt
    subst hzz
    have Hzi := Lib.hid hzi
    obtain ⟨hp1, hp2⟩ := idx_pre z (i + 1)
    rw [Hn.out] at hp2
    have Hp1 := Lib.hid hp1
    clear hrr hb hR hd hti hzi hp1
    go_wp2_with fail
    (with_reducible refine (rends_any Hr.out Hzi.out (by rw [Hti.out]; omega)).mono ?_)
    rintro e w10 ⟨A10, rfl, hb10, q10, ho10⟩
    have Hb10 := Lib.hid (Hb.out.trans (hb10.mono hbs))
    have Hr10 := Lib.hid (Hr.out.stay (Chg.of_below (F := fun _ => False) hb10) (fun _ h => h.elim) (fun _ _ h => h))
    have HR10 := Lib.hid (HR.out.below hb10)
    have Hbe := Lib.hid (Sl.clip (Ints.sl ho10))
    have Hen := Lib.hid (Sl.front (Hsl.out.below Hb10.out) hp2)
    rw [← List.map_take, Hp1.out] at Hen
    obtain ⟨m, hm⟩ : ∃ m, (idx 0 (z.take (i + 1))).length = m := ⟨_, rfl⟩
    have Hm := Lib.hid hm
    have hsf := slice_front HA9.out (n := n) (m := m) (by rw [← hm]; exact hp2)
    rw [hm] at Hbe Hen hp2 ⊢
    have hmn : (m : Int) ≤ (n : Int) := by omega
    have hmn2 : ¬ (n : Int) < (m : Int) := by omega
    clear hb10 ho10 hm
    go_wp2_with fail
    have Hsi := Lib.hid (sameints_any (x := idx 0 (z.take (i + 1))) (y := idx 0 (z.take (i + 1))) Hbe.out Hen.out (by rw [Hm.out]; omega) (by rw [Hm.out]; omega))
    (with_reducible refine Hsi.out.mono ?_)
    rintro e w11 ⟨he, hb11⟩
    obtain rfl : e = .returned (.bool true) := by rw [he]; simp
    have Hb11 := Lib.hid (Hb10.out.trans (hb11.mono Hb10.out.size))
    have Hr11 := Lib.hid (Hr10.out.stay (Chg.of_below (F := fun _ => False) hb11) (fun _ h => h.elim) (fun _ _ h => h))
    have HR11 := Lib.hid (HR10.out.below hb11)
    obtain ⟨c, hck⟩ : ∃ c, S[i]? = some c := ⟨_, List.getElem?_eq_getElem hlt⟩
    obtain ⟨gR, eR⟩ : ∃ gR, AR = some ⟨gR, 0, none⟩ := by
     obtain ⟨_, _, e, _, _, hA⟩ := ownsRow_slice HR11.out
     obtain ⟨g', e'⟩ := hA (by omega)
     exact ⟨g', (Value.slice.inj e).1.trans e'⟩
    subst eR
    have c1 := rns_cell HR11.out hck
    have hkc : kn c = c := kn_ok (HS1.out c (List.mem_of_getElem? hck))
    have HSn := Lib.hid (show S.take i ++ [kn c] = S.take (i + 1) by rw [take_next hck, hkc])
    clear hb11 Hsi hsf hck hkc
    go_wp2_with fail
    (with_reducible refine (feed_any Hmo.out Hr11.out (by rw [Hti.out]; omega) c).mono ?_)
    rintro e w12 ⟨rfl, vs', ve', hr12, hc12, hft⟩
    rw [HSn.out] at hr12
    have Hr12 := Lib.hid hr12
    have Hb12 := Lib.hid (Hb11.out.trans (hc12.below Hb11.out.size (fun i hi => (Hr11.out.foot hi).1)))
    have HR12 := Lib.hid (HR11.out.stay hc12 (fun b hb hF => Hd.out b hF hb))
    have Hd12 := Lib.hid (show ∀ b, Foot g pg vs' ve' b → (Value.slice (some ⟨gR, 0, none⟩) S.length qR).ownBlock ≠ some b from fun b hb he => by
     rcases hft b hb with h1 | h1
     ·exact Hd.out b h1 he
     ·obtain ⟨_, _, h2⟩ := ownsRow_block HR11.out he
      have := lt_of_heap h2
      omega)
    clear hr12 hc12 hft c1
    go_wp2_with fail
    exact ⟨⟨i + 1, vs', ve', by omega, by go_num, Hr12.out, Hb12.out, HR12.out, Hd12.out⟩, by simp [intOf]; omega⟩
   ·have hii : ¬ (i : Int) < (S.length : Int) := by omega
    have hie : S.take i = S := List.take_of_length_le (by omega)
    rw [hie] at Hr
    clear hrr hb hR hd hti hie Hti
    go_wp2_with fail
    (with_reducible refine (end_any Hmo.out Hr.out (by omega)).mono ?_)
    rintro e w10 ⟨rfl, vs', ve', hr10, hc10, -⟩
    obtain ⟨zz, -, hzz⟩ := hr10.ends
    obtain rfl := hzz.uniq Hz.out
    have hzn := Hn.out
    have Hr10 := Lib.hid hr10
    have Hb10 := Lib.hid (Hb.out.trans (hc10.below hbs (fun i hi => (Hr.out.foot hi).1)))
    have Hsl10 := Lib.hid (Hsl.out.below Hb10.out)
    have Hm10 := Lib.hid (Hm7.out.below Hb10.out)
    clear hr10 hc10 hzz hzn
    go_wp2_with fail
    (with_reducible refine (rends_any Hr10.out Hz.out (by omega)).mono ?_)
    rintro e w11 ⟨A11, rfl, hb11, q11, ho11⟩
    have hzn := Hn.out
    rw [hzn]
    have Hb11 := Lib.hid (Hb10.out.trans (hb11.mono Hb10.out.size))
    have Hr11 := Lib.hid (Hr10.out.stay (Chg.of_below (F := fun _ => False) hb11) (fun _ h => h.elim) (fun _ _ h => h))
    have Hsl11 := Lib.hid (Hsl10.out.below hb11)
    have Hm11 := Lib.hid (Hm10.out.below hb11)
    have Hsi := Lib.hid (sameints_any (x := idx 0 zz) (y := idx 0 zz) (Sl.clip (Ints.sl ho11)) Hsl11.out (by rw [hzn]; omega) (by rw [hzn]; omega))
    rw [hzn] at Hsi
    clear hb11 ho11 hzn
    go_wp2_with fail
    (with_reducible refine Hsi.out.mono ?_)
    rintro e w12 ⟨he, hb12⟩
    obtain rfl : e = .returned (.bool true) := by rw [he]; simp
    have Hb12 := Lib.hid (Hb11.out.trans (hb12.mono Hb11.out.size))
    have Hr12 := Lib.hid (Hr11.out.stay (Chg.of_below (F := fun _ => False) hb12) (fun _ h => h.elim) (fun _ _ h => h))
    have Hsl12 := Lib.hid (Hsl11.out.below hb12)
    have Hm12 := Lib.hid (Hm11.out.below hb12)
    clear hb12 Hsi he
    go_wp2_with fail
    (with_reducible refine (smatch_any Hmo.out Hm12.out (by omega)).mono ?_)
    rintro e w13 ⟨z13, hz13, rfl, hb13⟩
    rw [HS3.out] at hz13 ⊢
    obtain rfl := hz13.uniq Hz.out
    have Hb13 := Lib.hid (Hb12.out.trans (hb13.mono Hb12.out.size))
    have Hr13 := Lib.hid (Hr12.out.stay (Chg.of_below (F := fun _ => False) hb13) (fun _ h => h.elim) (fun _ _ h => h))
    have Hsl13 := Lib.hid (Hsl12.out.below hb13)
    clear hz13 hb13
    obtain ⟨bz, hbz⟩ : ∃ bz, decide (0 < (idx 0 z13).length) = bz := ⟨_, rfl⟩
    obtain ⟨kk, hkk⟩ : ∃ kk : Nat, (mcS r).length * (S.length + 1) = kk := ⟨_, rfl⟩
    have hn := Hn.out
    have Hkk := Lib.hid hkk
    have Hbz := Lib.hid hbz
    have hbn : decide (0 < n) = bz := by rw [← hbz, hn]
    have Hbn := Lib.hid hbn
    rw [hbz, hkk]
    clear hbz hkk hn hbn
    go_wp2_with fail
    go_loopw [17] (fun s17 wr => ChkR w13 n s17 wr) (fun v _ => n + 1 - (intOf v).toNat)
    case atStart => exact ⟨0, Nat.zero_le _, rfl, Below.refl _ _⟩
    case round =>
     obtain ⟨i, hi, rfl, hb⟩ := hrel
     have Hb := Lib.hid hb
     have hbs := hb.size
     clear hb
     by_cases hlt : i < n
     ·have hii : (i : Int) < (n : Int) := by omega
      obtain ⟨-, _, _, e9, -, h9⟩ := Hsl13.out
      obtain ⟨rfl, -, -⟩ := Value.slice.inj e9
      obtain ⟨g9, o9, rfl, hcl⟩ := h9 (by rw [List.length_map, Hn.out]; omega)
      obtain ⟨a, ha⟩ : ∃ a, (idx 0 z13)[i]? = some a := ⟨_, List.getElem?_eq_getElem (by rw [Hn.out]; exact hlt)⟩
      have hab : 0 ≤ a ∧ a ≤ (S.length : Int) := by
       obtain ⟨j, h1, h2⟩ := (idx_mem z13 0 a).1 (List.mem_of_getElem? ha)
       have h3 := (List.getElem?_eq_some_iff.1 h2).1
       push_cast at h1
       omega
      have ha0 : ¬ a < 0 := by omega
      have ha1 : ¬ (S.length : Int) < a := by omega
      have hd0 : decide (a < 0) = false := decide_eq_false ha0
      have hd1 : decide ((S.length : Int) < a) = false := decide_eq_false ha1
      clear ha0 ha1
      cases i with
      | zero =>
       have c1 : wr.cell? ⟨g9, o9, none⟩ = some (.int .i64 a) := cell_later Hb.out (hcl 0 (intV a) (by rw [List.getElem?_map, ha]; rfl))
       clear ha hcl hab e9 h9
       go_wp2_with fail
       refine wp_region_noPanic ?_
       refine wp_region_held_drew (S := fun w' => w'.cell? ⟨g9, o9, none⟩ = some (.int .i64 a)) (by kernel_rfl) (c1) (fun hHeld => ?_)
       refine tkH 0 (v := ?v0) (nth rfl) (by kernel_rfl) (by kernel_rfl) (by kernel_rfl) (fun _ _ _ h => h) (by rfl) hHeld ?y0 ?r0
       case y0 => (intro w hSw; (try dsimp only at hSw); go_simp; (try with_reducible rfl))
       try simp only [Act.put, pA, pB, pC]
       refine tkH 1 (v := ?v1) (nth rfl) (by kernel_rfl) (by kernel_rfl) (by kernel_rfl) (fun _ _ _ h => h) (by rfl) hHeld ?y1 ?r1
       case y1 => (intro w hSw; (try dsimp only at hSw); go_simp; (try with_reducible rfl))
       try simp only [Act.put, pA, pB, pC]
       refine tkH 2 (v := ?v2) (nth rfl) (by kernel_rfl) (by kernel_rfl) (by kernel_rfl) (fun _ _ _ h => h) (by rfl) hHeld ?y2 ?r2
       case y2 => (intro w hSw; (try dsimp only at hSw); go_simp; (try with_reducible rfl))
       try simp only [Act.put, pA, pB, pC]
       refine tkH 3 (v := ?v3) (nth rfl) (by kernel_rfl) (by kernel_rfl) (by kernel_rfl) (fun _ _ _ h => h) (by rfl) hHeld ?y3 ?r3
       case y3 => (intro w hSw; (try dsimp only at hSw); go_simp; (try with_reducible rfl))
       try simp only [Act.put, pA, pB, pC]
       refine tkH 4 (v := ?v4) (nth rfl) (by kernel_rfl) (by kernel_rfl) (by kernel_rfl) (fun _ _ _ h => h) (by rfl) hHeld ?y4 ?r4
       case y4 => (intro w hSw; (try dsimp only at hSw); go_simp; (try with_reducible rfl))
       try simp only [Act.put, pA, pB, pC]
       refine tkH 5 (v := ?v5) (nth rfl) (by kernel_rfl) (by kernel_rfl) (by kernel_rfl) (fun _ _ _ h => h) (by rfl) hHeld ?y5 ?r5
       case y5 => (intro w hSw; (try dsimp only at hSw); go_simp; (try with_reducible rfl))
       try simp only [Act.put, pA, pB, pC]
       refine tkH 6 (v := ?v6) (nth rfl) (by kernel_rfl) (by kernel_rfl) (by kernel_rfl) (fun _ _ _ h => h) (by rfl) hHeld ?y6 ?r6
       case y6 => (intro w hSw; (try dsimp only at hSw); go_simp; (try with_reducible rfl))
       try simp only [Act.put, pA, pB, pC]
       refine tkH 7 (v := ?v7) (nth rfl) (by kernel_rfl) (by kernel_rfl) (by kernel_rfl) (fun _ _ _ h => h) (by rfl) hHeld ?y7 ?r7
       case y7 => (intro w hSw; (try dsimp only at hSw); go_simp; (try with_reducible rfl))
       try simp only [Act.put, pA, pB, pC]
       refine tkH 8 (v := ?v8) (nth rfl) (by kernel_rfl) (by kernel_rfl) (by kernel_rfl) (fun _ _ _ h => h) (by rfl) hHeld ?y8 ?r8
       case y8 => (intro w hSw; (try dsimp only at hSw); go_simp; (try with_reducible rfl))
       try simp only [Act.put, pA, pB, pC]
       refine tkH 9 (v := ?v9) (nth rfl) (by kernel_rfl) (by kernel_rfl) (by kernel_rfl) (fun _ _ _ h => h) (by rfl) hHeld ?y9 ?r9
       case y9 => (intro w hSw; (try dsimp only at hSw); go_simp; (try with_reducible rfl))
       try simp only [Act.put, pA, pB, pC]
       refine tkH 10 (v := ?va) (nth rfl) (by kernel_rfl) (by kernel_rfl) (by kernel_rfl) (fun _ _ _ h => h) (by rfl) hHeld ?ya ?ra
       case ya => (intro w hSw; (try dsimp only at hSw); go_simp; (try with_reducible rfl))
       try simp only [Act.put, pA, pB, pC]
       refine tkH 11 (v := ?vb) (nth rfl) (by kernel_rfl) (by kernel_rfl) (by kernel_rfl) (fun _ _ _ h => h) (by rfl) hHeld ?yb ?rb
       case yb => (intro w hSw; (try dsimp only at hSw); go_simp; (try with_reducible rfl))
       try simp only [Act.put, pA, pB, pC]
       refine tkH 12 (v := ?vc) (nth rfl) (by kernel_rfl) (by kernel_rfl) (by kernel_rfl) (fun _ _ _ h => h) (by rfl) hHeld ?yc ?rc
       case yc => (intro w hSw; (try dsimp only at hSw); go_simp; (try with_reducible rfl))
       try simp only [Act.put, pA, pB, pC]
       refine tkH 13 (v := ?vd) (nth rfl) (by kernel_rfl) (by kernel_rfl) (by kernel_rfl) (fun _ _ _ h => h) (by rfl) hHeld ?yd ?rd
       case yd => (intro w hSw; (try dsimp only at hSw); go_simp; (try with_reducible rfl))
       try simp only [Act.put, pA, pB, pC]
       refine tkH 14 (v := ?ve) (nth rfl) (by kernel_rfl) (by kernel_rfl) (by kernel_rfl) (fun _ _ _ h => h) (by rfl) hHeld ?ye ?re
       case ye => (intro w hSw; (try dsimp only at hSw); go_simp; (try with_reducible rfl))
       try simp only [Act.put, pA, pB, pC]
       refine tkH 15 (v := ?vf) (nth rfl) (by kernel_rfl) (by kernel_rfl) (by kernel_rfl) (fun _ _ _ h => h) (by rfl) hHeld ?yf ?rf
       case yf => (intro w hSw; (try dsimp only at hSw); go_simp; (try with_reducible rfl))
       try simp only [Act.put, pA, pB, pC]
       refine tkH 16 (v := ?vg) (nth rfl) (by kernel_rfl) (by kernel_rfl) (by kernel_rfl) (fun _ _ _ h => h) (by rfl) hHeld ?yg ?rg
       case yg => (intro w hSw; (try dsimp only at hSw); go_simp; (try with_reducible rfl))
       try simp only [Act.put, pA, pB, pC]
       refine tkH 17 (v := ?vh) (nth rfl) (by kernel_rfl) (by kernel_rfl) (by kernel_rfl) (fun _ _ _ h => h) (by rfl) hHeld ?yh ?rh
       case yh => (intro w hSw; (try dsimp only at hSw); go_simp; (try with_reducible rfl))
       try simp only [Act.put, pA, pB, pC]
       refine wpAnyH_take (i := 18) (v := undef) (nth rfl) (by kernel_rfl) (by kernel_rfl) (by kernel_rfl) (fun _ _ _ h => h) (Or.inr ⟨by rfl, rfl⟩) hHeld ?restlaw_SimStrings_26_57_18
       try simp only [Act.put, pA, pB, pC]
       refine wpAnyH_take (i := 19) (v := undef) (nth rfl) (by kernel_rfl) (by kernel_rfl) (by kernel_rfl) (fun _ _ _ h => h) (Or.inr ⟨by rfl, rfl⟩) hHeld ?restlaw_SimStrings_26_57_19
       try simp only [Act.put, pA, pB, pC]
       refine wpAnyH_take (i := 20) (v := undef) (nth rfl) (by kernel_rfl) (by kernel_rfl) (by kernel_rfl) (fun _ _ _ h => h) (Or.inr ⟨by rfl, rfl⟩) hHeld ?restlaw_SimStrings_26_57_20
       try simp only [Act.put, pA, pB, pC]
       refine wpAnyH_take (i := 21) (v := undef) (nth rfl) (by kernel_rfl) (by kernel_rfl) (by kernel_rfl) (fun _ _ _ h => h) (Or.inr ⟨by rfl, rfl⟩) hHeld ?restlaw_SimStrings_26_57_21
       try simp only [Act.put, pA, pB, pC]
       refine wpAnyH_take (i := 22) (v := undef) (nth rfl) (by kernel_rfl) (by kernel_rfl) (by kernel_rfl) (fun _ _ _ h => h) (Or.inr ⟨by rfl, rfl⟩) hHeld ?restlaw_SimStrings_26_57_22
       try simp only [Act.put, pA, pB, pC]
       refine wpAnyH_take (i := 23) (v := undef) (nth rfl) (by kernel_rfl) (by kernel_rfl) (by kernel_rfl) (fun _ _ _ h => h) (Or.inr ⟨by rfl, rfl⟩) hHeld ?restlaw_SimStrings_26_57_23
       try simp only [Act.put, pA, pB, pC]
       refine wpAnyH_take (i := 24) (v := undef) (nth rfl) (by kernel_rfl) (by kernel_rfl) (by kernel_rfl) (fun _ _ _ h => h) (Or.inr ⟨by rfl, rfl⟩) hHeld ?restlaw_SimStrings_26_57_24
       try simp only [Act.put, pA, pB, pC]
       refine wpAnyH_take (i := 25) (v := undef) (nth rfl) (by kernel_rfl) (by kernel_rfl) (by kernel_rfl) (fun _ _ _ h => h) (Or.inr ⟨by rfl, rfl⟩) hHeld ?restlaw_SimStrings_26_57_25
       try simp only [Act.put, pA, pB, pC]
       refine wpAnyH_take (i := 26) (v := undef) (nth rfl) (by kernel_rfl) (by kernel_rfl) (by kernel_rfl) (fun _ _ _ h => h) (Or.inr ⟨by rfl, rfl⟩) hHeld ?restlaw_SimStrings_26_57_26
       try simp only [Act.put, pA, pB, pC]
       refine wpAnyH_take (i := 27) (v := undef) (nth rfl) (by kernel_rfl) (by kernel_rfl) (by kernel_rfl) (fun _ _ _ h => h) (Or.inr ⟨by rfl, rfl⟩) hHeld ?restlaw_SimStrings_26_57_27
       try simp only [Act.put, pA, pB, pC]
       refine tkH 28 (v := ?vi) (nth rfl) (by kernel_rfl) (by kernel_rfl) (by kernel_rfl) (fun _ _ _ h => h) (by rfl) hHeld ?yi ?ri
       case yi => (intro w hSw; (try dsimp only at hSw); go_simp; (try with_reducible rfl))
       try simp only [Act.put, pA, pB, pC]
       refine tkH 29 (v := ?vj) (nth rfl) (by kernel_rfl) (by kernel_rfl) (by kernel_rfl) (fun _ _ _ h => h) (by rfl) hHeld ?yj ?rj
       case yj => (intro w hSw; (try dsimp only at hSw); go_simp; (try with_reducible rfl))
       try simp only [Act.put, pA, pB, pC]
       refine wpAnyH_done (by kernel_rfl) (NoPanic.normal ?_) _
       clear hHeld
       go_wp2_with fail
       exact ⟨⟨0 + 1, by omega, by go_num, Hb.out.drew⟩, by simp [intOf]⟩
      | succ k =>
       have c1 : wr.cell? ⟨g9, o9 + (k + 1), none⟩ = some (.int .i64 a) := cell_later Hb.out (hcl (k + 1) (intV a) (by rw [List.getElem?_map, ha]; rfl))
       obtain ⟨b, hb⟩ : ∃ b, (idx 0 z13)[k]? = some b := ⟨_, List.getElem?_eq_getElem (by rw [Hn.out]; omega)⟩
       have c2 : wr.cell? ⟨g9, o9 + k, none⟩ = some (.int .i64 b) := cell_later Hb.out (hcl k (intV b) (by rw [List.getElem?_map, hb]; rfl))
       have hba := idx_rise z13 0 k b a hb ha
       have hba2 : decide (a ≤ b) = false := decide_eq_false (by omega)
       obtain ⟨zi, hzi⟩ : ∃ zi : Int, ((k + 1 : Nat) : Int) = zi := ⟨_, rfl⟩
       have hz1 : 0 ≤ zi := by omega
       have hz2 : zi < (n : Int) := by omega
       have hz3 : zi.toNat = k + 1 := by omega
       have hz4 : decide (0 < zi) = true := decide_eq_true (by omega)
       have hz5 : IntKind.i64.wrap (zi - 1) = zi - 1 := IntWalk.i64_in _ (by omega)
       have hz6 : 0 ≤ zi - 1 := by omega
       have hz9 : 1 ≤ zi := by omega
       have hz7 : zi - 1 < (n : Int) := by omega
       have hz8 : (zi - 1).toNat = k := by omega
       have Hzi := Lib.hid hzi
       rw [hzi]
       clear ha hcl hab hb hba e9 h9 hzi hii
       go_wp2_with fail
       refine wp_region_noPanic ?_
       refine wp_region_held_drew (S := fun w' => w'.cell? ⟨g9, o9 + (k + 1), none⟩ = some (.int .i64 a) ∧ w'.cell? ⟨g9, o9 + k, none⟩ = some (.int .i64 b)) (by kernel_rfl) (⟨c1, c2⟩) (fun hHeld => ?_)
       refine tkH 0 (v := ?vk) (nth rfl) (by kernel_rfl) (by kernel_rfl) (by kernel_rfl) (fun _ _ _ h => h) (by rfl) hHeld ?yk ?rk
       case yk => (intro w hSw; (try dsimp only at hSw); go_simp; (try with_reducible rfl))
       try simp only [Act.put, pA, pB, pC]
       refine tkH 1 (v := ?vl) (nth rfl) (by kernel_rfl) (by kernel_rfl) (by kernel_rfl) (fun _ _ _ h => h) (by rfl) hHeld ?yl ?rl
       case yl => (intro w hSw; (try dsimp only at hSw); go_simp; (try with_reducible rfl))
       try simp only [Act.put, pA, pB, pC]
       refine tkH 2 (v := ?vm) (nth rfl) (by kernel_rfl) (by kernel_rfl) (by kernel_rfl) (fun _ _ _ h => h) (by rfl) hHeld ?ym ?rm
       case ym => (intro w hSw; (try dsimp only at hSw); go_simp; (try with_reducible rfl))
       try simp only [Act.put, pA, pB, pC]
       refine tkH 3 (v := ?vn) (nth rfl) (by kernel_rfl) (by kernel_rfl) (by kernel_rfl) (fun _ _ _ h => h) (by rfl) hHeld ?yn ?rn
       case yn => (intro w hSw; (try dsimp only at hSw); go_simp; (try with_reducible rfl))
       try simp only [Act.put, pA, pB, pC]
       refine tkH 4 (v := ?vo) (nth rfl) (by kernel_rfl) (by kernel_rfl) (by kernel_rfl) (fun _ _ _ h => h) (by rfl) hHeld ?yo ?ro
       case yo => (intro w hSw; (try dsimp only at hSw); go_simp; (try with_reducible rfl))
       try simp only [Act.put, pA, pB, pC]
       refine tkH 5 (v := ?vp) (nth rfl) (by kernel_rfl) (by kernel_rfl) (by kernel_rfl) (fun _ _ _ h => h) (by rfl) hHeld ?yp ?rp
       case yp => (intro w hSw; (try dsimp only at hSw); go_simp; (try with_reducible rfl))
       try simp only [Act.put, pA, pB, pC]
       refine tkH 6 (v := ?vq) (nth rfl) (by kernel_rfl) (by kernel_rfl) (by kernel_rfl) (fun _ _ _ h => h) (by rfl) hHeld ?yq ?rq
       case yq => (intro w hSw; (try dsimp only at hSw); go_simp; (try with_reducible rfl))
       try simp only [Act.put, pA, pB, pC]
       refine tkH 7 (v := ?vr) (nth rfl) (by kernel_rfl) (by kernel_rfl) (by kernel_rfl) (fun _ _ _ h => h) (by rfl) hHeld ?yr ?rr
       case yr => (intro w hSw; (try dsimp only at hSw); go_simp; (try with_reducible rfl))
       try simp only [Act.put, pA, pB, pC]
       refine tkH 8 (v := ?vs) (nth rfl) (by kernel_rfl) (by kernel_rfl) (by kernel_rfl) (fun _ _ _ h => h) (by rfl) hHeld ?ys ?rs
       case ys => (intro w hSw; (try dsimp only at hSw); go_simp; (try with_reducible rfl))
       try simp only [Act.put, pA, pB, pC]
       refine tkH 9 (v := ?vt) (nth rfl) (by kernel_rfl) (by kernel_rfl) (by kernel_rfl) (fun _ _ _ h => h) (by rfl) hHeld ?yt ?rt
       case yt => (intro w hSw; (try dsimp only at hSw); go_simp; (try with_reducible rfl))
       try simp only [Act.put, pA, pB, pC]
       refine tkH 10 (v := ?vu) (nth rfl) (by kernel_rfl) (by kernel_rfl) (by kernel_rfl) (fun _ _ _ h => h) (by rfl) hHeld ?yu ?ru
       case yu => (intro w hSw; (try dsimp only at hSw); go_simp; (try with_reducible rfl))
       try simp only [Act.put, pA, pB, pC]
       refine tkH 11 (v := ?vv) (nth rfl) (by kernel_rfl) (by kernel_rfl) (by kernel_rfl) (fun _ _ _ h => h) (by rfl) hHeld ?yv ?rv
       case yv => (intro w hSw; (try dsimp only at hSw); go_simp; (try with_reducible rfl))
       try simp only [Act.put, pA, pB, pC]
       refine tkH 12 (v := ?vw) (nth rfl) (by kernel_rfl) (by kernel_rfl) (by kernel_rfl) (fun _ _ _ h => h) (by rfl) hHeld ?yw ?rw
       case yw => (intro w hSw; (try dsimp only at hSw); go_simp; (try with_reducible rfl))
       try simp only [Act.put, pA, pB, pC]
       refine tkH 13 (v := ?vx) (nth rfl) (by kernel_rfl) (by kernel_rfl) (by kernel_rfl) (fun _ _ _ h => h) (by rfl) hHeld ?yx ?rx
       case yx => (intro w hSw; (try dsimp only at hSw); go_simp; (try with_reducible rfl))
       try simp only [Act.put, pA, pB, pC]
       refine tkH 14 (v := ?vy) (nth rfl) (by kernel_rfl) (by kernel_rfl) (by kernel_rfl) (fun _ _ _ h => h) (by rfl) hHeld ?yy ?ry
       case yy => (intro w hSw; (try dsimp only at hSw); go_simp; (try with_reducible rfl))
       try simp only [Act.put, pA, pB, pC]
       refine tkH 15 (v := ?vz) (nth rfl) (by kernel_rfl) (by kernel_rfl) (by kernel_rfl) (fun _ _ _ h => h) (by rfl) hHeld ?yz ?rz
       case yz => (intro w hSw; (try dsimp only at hSw); go_simp; (try with_reducible rfl))
       try simp only [Act.put, pA, pB, pC]
       refine tkH 16 (v := ?v10) (nth rfl) (by kernel_rfl) (by kernel_rfl) (by kernel_rfl) (fun _ _ _ h => h) (by rfl) hHeld ?y10 ?r10
       case y10 => (intro w hSw; (try dsimp only at hSw); go_simp; (try with_reducible rfl))
       try simp only [Act.put, pA, pB, pC]
       refine tkH 17 (v := ?v11) (nth rfl) (by kernel_rfl) (by kernel_rfl) (by kernel_rfl) (fun _ _ _ h => h) (by rfl) hHeld ?y11 ?r11
       case y11 => (intro w hSw; (try dsimp only at hSw); go_simp; (try with_reducible rfl))
       try simp only [Act.put, pA, pB, pC]
       refine tkH 18 (v := ?v12) (nth rfl) (by kernel_rfl) (by kernel_rfl) (by kernel_rfl) (fun _ _ _ h => h) (by rfl) hHeld ?y12 ?r12
       case y12 => (intro w hSw; (try dsimp only at hSw); go_simp; (try with_reducible rfl))
       try simp only [Act.put, pA, pB, pC]
       refine tkH 19 (v := ?v13) (nth rfl) (by kernel_rfl) (by kernel_rfl) (by kernel_rfl) (fun _ _ _ h => h) (by rfl) hHeld ?y13 ?r13
       case y13 => (intro w hSw; (try dsimp only at hSw); go_simp; (try with_reducible rfl))
       try simp only [Act.put, pA, pB, pC]
       refine tkH 20 (v := ?v14) (nth rfl) (by kernel_rfl) (by kernel_rfl) (by kernel_rfl) (fun _ _ _ h => h) (by rfl) hHeld ?y14 ?r14
       case y14 => (intro w hSw; (try dsimp only at hSw); go_simp; (try with_reducible rfl))
       try simp only [Act.put, pA, pB, pC]
       refine tkH 21 (v := ?v15) (nth rfl) (by kernel_rfl) (by kernel_rfl) (by kernel_rfl) (fun _ _ _ h => h) (by rfl) hHeld ?y15 ?r15
       case y15 => (intro w hSw; (try dsimp only at hSw); go_simp; (try with_reducible rfl))
       try simp only [Act.put, pA, pB, pC]
       refine tkH 22 (v := ?v16) (nth rfl) (by kernel_rfl) (by kernel_rfl) (by kernel_rfl) (fun _ _ _ h => h) (by rfl) hHeld ?y16 ?r16
       case y16 => (intro w hSw; (try dsimp only at hSw); go_simp; (try with_reducible rfl))
       try simp only [Act.put, pA, pB, pC]
       refine tkH 23 (v := ?v17) (nth rfl) (by kernel_rfl) (by kernel_rfl) (by kernel_rfl) (fun _ _ _ h => h) (by rfl) hHeld ?y17 ?r17
       case y17 => (intro w hSw; (try dsimp only at hSw); go_simp; (try with_reducible rfl))
       try simp only [Act.put, pA, pB, pC]
       refine tkH 24 (v := ?v18) (nth rfl) (by kernel_rfl) (by kernel_rfl) (by kernel_rfl) (fun _ _ _ h => h) (by rfl) hHeld ?y18 ?r18
       case y18 => (intro w hSw; (try dsimp only at hSw); go_simp; (try with_reducible rfl))
       try simp only [Act.put, pA, pB, pC]
       refine tkH 25 (v := ?v19) (nth rfl) (by kernel_rfl) (by kernel_rfl) (by kernel_rfl) (fun _ _ _ h => h) (by rfl) hHeld ?y19 ?r19
       case y19 => (intro w hSw; (try dsimp only at hSw); go_simp; (try with_reducible rfl))
       try simp only [Act.put, pA, pB, pC]
       refine tkH 26 (v := ?v1a) (nth rfl) (by kernel_rfl) (by kernel_rfl) (by kernel_rfl) (fun _ _ _ h => h) (by rfl) hHeld ?y1a ?r1a
       case y1a => (intro w hSw; (try dsimp only at hSw); go_simp; (try with_reducible rfl))
       try simp only [Act.put, pA, pB, pC]
       refine tkH 27 (v := ?v1b) (nth rfl) (by kernel_rfl) (by kernel_rfl) (by kernel_rfl) (fun _ _ _ h => h) (by rfl) hHeld ?y1b ?r1b
       case y1b => (intro w hSw; (try dsimp only at hSw); go_simp; (try with_reducible rfl))
       try simp only [Act.put, pA, pB, pC]
       refine tkH 28 (v := ?v1c) (nth rfl) (by kernel_rfl) (by kernel_rfl) (by kernel_rfl) (fun _ _ _ h => h) (by rfl) hHeld ?y1c ?r1c
       case y1c => (intro w hSw; (try dsimp only at hSw); go_simp; (try with_reducible rfl))
       try simp only [Act.put, pA, pB, pC]
       refine tkH 29 (v := ?v1d) (nth rfl) (by kernel_rfl) (by kernel_rfl) (by kernel_rfl) (fun _ _ _ h => h) (by rfl) hHeld ?y1d ?r1d
       case y1d => (intro w hSw; (try dsimp only at hSw); go_simp; (try with_reducible rfl))
       try simp only [Act.put, pA, pB, pC]
       refine wpAnyH_done (by kernel_rfl) (NoPanic.normal ?_) _
       clear hHeld
       go_wp2_with fail
       exact ⟨⟨k + 1 + 1, by omega, by have := Hzi.out; congr 1; omega, Hb.out.drew⟩, by have := Hzi.out; simp [intOf]; omega⟩
     ·have hii : ¬ (i : Int) < (n : Int) := by omega
      have Hr14 := Lib.hid (Hr13.out.stay (Chg.of_below (F := fun _ => False) Hb.out) (fun _ h => h.elim) (fun _ _ h => h))
      have Hb14 := Lib.hid (Hb13.out.trans (Hb.out.mono Hb13.out.size))
      have hbn := Hbn.out
      have Hstp := Lib.hid (steps_any Hr14.out HMl.out (by omega))
      rw [if_pos rfl, Hkk.out] at Hstp
      have Hhit := Lib.hid (hit_any Hr14.out Hz.out)
      rw [Hbz.out] at Hhit
      go_wp2_with fail
      (with_reducible refine Hstp.out.mono ?_)
      rintro e wz ⟨rfl, rfl⟩
      go_wp2_with fail
      (with_reducible refine Hhit.out.mono ?_)
      rintro e wz ⟨rfl, rfl⟩
      go_wp2_with fail
      go_ret
      exact ⟨by simp, Hb7.out.trans (Hb14.out.mono Hb7.out.size)⟩
end Go.Proofs.YthhnmpkgleelfaaGreatDoor
namespace Go.Proofs.YthhnmpkgleelfaaGreatDoor
open Go.ChangeShapes Go.WideShapes Go.ChangeAt Go.WideMaps Go.WideElems Go.RowKit
set_option maxRecDepth 100000 in
theorem strings_bound {H : Type} {l0 l1 : List UInt8} (h : Rows.uptoSmall H [.lit (.string l0), .lit (.string l1)] = true) : l1.length ≤ 1048575 := by
 have h1 : Rows.uptoBulkAll (H := H) [.lit (.string l0), .lit (.string l1)] ≤ 1048576 := of_decide_eq_true h
 simp only [Rows.uptoBulkAll, Rows.uptoBulk] at h1
 omega
set_option maxRecDepth 100000 in
theorem strings_lifted (os : Os) (started : os.Started) (H : Type) (enc : TypeId × Value → H) (F : Stop.Interp) :
  ReturnsInHanded {} Tryz.checked os 5 .any ((Rows.OpenSpec.upto Rows.simStringsSpec).preRow enc Tryz.prog Tryz.f5 Rows.simStringsUptoRow.domain false Rows.simStringsUptoRow.laid) (((Rows.OpenSpec.upto Rows.simStringsSpec).at F).post enc Tryz.prog Tryz.f5 false true false false) := by
 obtain ⟨places, hx⟩ : ∃ places, DataW.whole enc Tryz.prog ((World.laidAll Tryz.prog os laidS).forCall (fun _ _ => 0) ⟨#[], #[.string ⟨#[]⟩, .string ⟨#[]⟩], []⟩).memory Tryz.f5.params.toList Rows.simStringsSpec.vars false (#[.string ⟨#[]⟩, .string ⟨#[]⟩] : Array Value).toList 8 = some ([.lit (.string []), .lit (.string [])], [], places) := ⟨[], by kernel_rfl⟩
 have hok : Input.okWideB Tryz.checked.prog ((World.laidAll Tryz.prog os laidS).forCall (fun _ _ => 0) ⟨#[], #[.string ⟨#[]⟩, .string ⟨#[]⟩], []⟩) 5 ⟨#[], #[.string ⟨#[]⟩, .string ⟨#[]⟩], []⟩ = true := by kernel_rfl
 refine returnsInHanded_of_row (C := Tryz.checked) (s := Rows.OpenSpec.upto Rows.simStringsSpec) Tryz.own started (by kernel_rfl) Tryz.func5
  ⟨World.laidAll Tryz.prog os laidS, fun _ _ => 0, ⟨#[], #[.string ⟨#[]⟩, .string ⟨#[]⟩], []⟩, rfl, World.shaped_of_ZipB (by kernel_rfl) (by kernel_rfl), (Input.okWide_of_okWideB (base := 0) hok).1, (Input.okWide_of_okWideB hok).2,
   OpenSpec.preRow_of_cond 8 hx (by kernel_rfl) (fun k hk => by cases hk; kernel_rfl) (by kernel_rfl) (door_met os _), by
   simp only [Assume.holds]
   exact ⟨by simp, by simp, fun _ => Modest.zero, by simp, by simp⟩⟩ ?_
 intro W base args ds gs before hval0 hW _ hk _ hL _ _
 have hval : ∀ (j : Nat) t v, Tryz.f5.params[j]? = some t → args[j]? = some v → Value.okWide Tryz.prog W .any base t v := hval0
 have hW' := hW
 obtain ⟨p, q, hA0, hV, rfl, hfz, hnd⟩ := hW
 have hA : DataW.TrodAll enc Tryz.prog W 0 (fun _ => true) true Tryz.f5.params.toList args.toList ds p := hA0
 rw [Tryz.params5] at hA hval
 obtain ⟨v0, v1, d0, d1, p0, p1, rfl, rfl, rfl, h0, h1⟩ := trodAll_two hA
 obtain ⟨rfl, rfl⟩ := trodVars_none hV
 obtain ⟨c0, rfl, rfl, rfl, w0⟩ := ChangeMaps.open_string Tryz.underlying9 (hval 0 9 v0 rfl rfl) h0
 obtain ⟨c1, rfl, rfl, rfl, w1⟩ := ChangeMaps.open_string Tryz.underlying9 (hval 1 9 v1 rfl rfl) h1
 clear hA0 hval0
 simp only [List.append_nil] at hW'
 have hs : c1.size ≤ 1048576 := by
  have h1 := strings_bound (hk _ rfl)
  rw [Array.length_toList] at h1
  exact Nat.le_trans h1 (by decide)
 refine (simstrings_any (tabs_of_laid hL) c0 c1 hs).mono fun e W' ⟨he, hb⟩ => ?_
 subst he
 exact ⟨_, rfl, post_of_below (pa := []) (pv := []) hW' (fun _ _ _ => trodAll_mk1 (shut_bool Tryz.underlying4 true)) (fun sp _ => trodAll_mk2 (ChangeMaps.shut_string Tryz.underlying9 w0) (ChangeMaps.shut_string Tryz.underlying9 w1)) (fun _ _ => rfl) rfl hb (ok_one (by kernel_rfl) rfl (okWide_bool_mk Tryz.underlying4 true))⟩
theorem strings_row : Rows.SimStringsUptoSaid :=
 OpenClaim.holds_of_cond 5 Tryz.f5 rfl rfl rfl rfl rfl rfl rfl ⟨rfl, rfl, rfl, rfl, rfl⟩ rfl rfl rfl rfl rfl (by kernel_rfl) Tryz.func5 (by kernel_rfl)
  (of_decide_eq_true (by kernel_rfl)) (by unfold Func.isWrapper; rw [if_neg (of_decide_eq_false (by kernel_rfl))]; exact ⟨rfl, rfl⟩)
  (fun os started H enc _ F => by rw [OpenClaim.pre_eq_preRow]; exact strings_lifted os started H enc F)
end Go.Proofs.YthhnmpkgleelfaaGreatDoor
namespace Go.Proofs.YthhnmpkgleelfaaGreatDoor
open Go
theorem strings_plain (f : FuncId) (fn : Func) (hf : Tryz.pinned.checked.prog.funcNamed "wicket/wicketlaw12.SimStrings" = some f) (hfn : Tryz.pinned.checked.prog.funcs[f]? = some fn) :
  true = Tryz.pinned.checked.prog.looks [] ∧ ∀ (j : Nat) t, fn.params[j]? = some t → Tryz.pinned.checked.prog.wantsStandIn t = false := by
 obtain rfl : f = 5 := Option.some.inj ((show Tryz.prog.funcNamed "wicket/wicketlaw12.SimStrings" = some 5 by kernel_rfl).symm.trans hf) |>.symm
 obtain rfl : fn = Tryz.f5 := (Option.some.inj (Tryz.func5.symm.trans hfn)).symm
 refine ⟨by kernel_rfl, fun j t ht => ?_⟩
 rw [Tryz.params5] at ht
 have hm : t ∈ [9, 9] := by simpa using Array.mem_of_getElem? ht
 have hall : ([9, 9].all fun u => !Tryz.prog.wantsStandIn u) = true := by kernel_rfl
 exact (show Tryz.prog.wantsStandIn t = false by simpa using List.all_eq_true.1 hall t hm)
theorem strings_card : Rows.SimStringsUptoCardSaid :=
 Claim7.holds_tied_plain_at .later [] _ _ _ _ strings_row (fun _ h => by cases h) (by kernel_rfl) (fun _ h => by cases h) simStringsUpto_row_tie rfl ⟨rfl, rfl⟩ (by kernel_rfl) rfl strings_plain (by kernel_rfl)
#print axioms strings_card
end Go.Proofs.YthhnmpkgleelfaaGreatDoor
