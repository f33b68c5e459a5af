/- The tied Upto card of wicketlaw12.SimLonger is proved: the call returns true, and the strings read afterwards as before. Conditions: the arguments hold at most 1048576 values and letters together (the Upto form). Condition: the listed package-level variables read as their text lays them (the card ties them). -/
import Derived.Test.YthhnmpkgleelfaaGreatDoorM41
import Derived.Test.YthhnmpkgleelfaaGreatDoorM35
import Derived.Test.YthhnmpkgleelfaaGreatDoorM23
import Derived.Test.YthhnmpkgleelfaaGreatDoorM22
import Derived.Test.YthhnmpkgleelfaaGreatDoorM21
import Derived.Test.YthhnmpkgleelfaaGreatDoorM20
import Derived.Test.YthhnmpkgleelfaaGreatDoorM19
import Derived.Test.YthhnmpkgleelfaaGreatDoorM18
import Derived.Test.YthhnmpkgleelfaaGreatDoorM17
import Derived.Test.YthhnmpkgleelfaaGreatDoorM16
import Derived.Test.YthhnmpkgleelfaaGreatDoorM12
import Derived.Test.YthhnmpkgleelfaaGreatDoorM11
import Derived.Test.YthhnmpkgleelfaaGreatDoorM10
import Derived.Test.YthhnmpkgleelfaaGreatDoorM9
import Derived.Test.YthhnmpkgleelfaaGreatDoorM8
import Derived.Test.YthhnmpkgleelfaaGreatDoorM1
import Derived.Test.YthhnmpkgleelfaaGreatDoorM3
import Derived.Test.YthhnmpkgleelfaaGreatDoorM2
import Derived.Test.YthhnmpkgleelfaaGreatDoorM4
import Derived.Test.YthhnmpkgleelfaaGreatDoorM15
import Derived.Test.YthhnmpkgleelfaaGreatDoorM13
import Derived.Test.YthhnmpkgleelfaaGreatDoorM14
import Derived.Test.YthhnmpkgleelfaaGreatDoorM6
import Derived.Test.YthhnmpkgleelfaaGreatDoorM5
import Derived.Test.YthhnmpkgleelfaaGreatDoorM34
import Derived.Test.YthhnmpkgleelfaaGreatDoorM33
import Derived.Test.YthhnmpkgleelfaaGreatDoorM32
import Derived.Test.YthhnmpkgleelfaaGreatDoorM31
import Derived.Test.YthhnmpkgleelfaaGreatDoorM30
import Derived.Test.YthhnmpkgleelfaaGreatDoorM29
import Derived.Test.YthhnmpkgleelfaaGreatDoorM28
import Derived.Test.YthhnmpkgleelfaaGreatDoorM26
import Derived.Test.YthhnmpkgleelfaaGreatDoorM25
import Derived.Test.YthhnmpkgleelfaaGreatDoorM24
import Derived.Test.YthhnmpkgleelfaaGreatDoorM27
import Derived.Test.YthhnmpkgleelfaaGreatDoorM7
import Derived.Test.YthhnmpkgleelfaaGreatDoorM40
import Derived.Test.YthhnmpkgleelfaaGreatDoorM39
import Derived.Test.YthhnmpkgleelfaaGreatDoorM38
import Derived.Test.YthhnmpkgleelfaaGreatDoorM37
import Derived.Test.YthhnmpkgleelfaaGreatDoorM36
import Derived.Test.YthhnmpkgleelfaaGreatDoorM42
import Derived.Deep.DeepHandedRow
set_option linter.unusedVariables false
set_option linter.unusedSimpArgs false
namespace Go.Proofs.YthhnmpkgleelfaaGreatDoor
def noAn : Rx → Prop
 | .beg => False
 | .fin => False
 | .cat a b => noAn a ∧ noAn b
 | .alt a b => noAn a ∧ noAn b
 | .rep x _ _ => noAn x
 | _ => True
theorem noAn_of : ∀ (r : Rx) (p : Nat), (∀ x ∈ r.flat p, x.kind ≠ 5 ∧ x.kind ≠ 6) → noAn r
 | .emp, _, _ => trivial
 | .chr _, _, _ => trivial
 | .any, _, _ => trivial
 | .set _, _, _ => trivial
 | .beg, p, h => (h _ (List.mem_singleton.2 rfl)).1 rfl
 | .fin, p, h => (h _ (List.mem_singleton.2 rfl)).2 rfl
 | .cat a b, p, h => ⟨noAn_of a (p + 1) (fun x hx => h x (by simp [Rx.flat, hx])), noAn_of b (p + 1 + a.size) (fun x hx => h x (by simp [Rx.flat, hx]))⟩
 | .alt a b, p, h => ⟨noAn_of a (p + 1) (fun x hx => h x (by simp [Rx.flat, hx])), noAn_of b (p + 1 + a.size) (fun x hx => h x (by simp [Rx.flat, hx]))⟩
 | .rep a _ _, p, h => noAn_of a (p + 1) (fun x hx => h x (by simp [Rx.flat, hx]))
theorem Pw.ext {R S : Nat → Nat → Prop} {n : Nat} (hle : ∀ i j, R i j → i ≤ j) (hle2 : ∀ i j, S i j → i ≤ j) (h : ∀ i j, j ≤ n → (R i j ↔ S i j)) : ∀ m i j, j ≤ n → (Pw R m i j ↔ Pw S m i j)
 | 0, _, _, _ => Iff.rfl
 | m + 1, i, j, hj => by
  constructor
  ·rintro ⟨k, h1, h2⟩
   have := hle k j h2
   exact ⟨k, (Pw.ext hle hle2 h m i k (by omega)).1 h1, (h k j hj).1 h2⟩
  ·rintro ⟨k, h1, h2⟩
   have := hle2 k j h2
   exact ⟨k, (Pw.ext hle hle2 h m i k (by omega)).2 h1, (h k j hj).2 h2⟩
theorem app_at {S T : List Int} {i j : Nat} (hj : j ≤ S.length) (he : j = i + 1) : (S ++ T)[i]? = S[i]? := List.getElem?_append_left (by omega)
theorem Mt.ext {S T : List Int} : ∀ (r : Rx), noAn r → ∀ i j, j ≤ S.length → (Mt (S ++ T) r i j ↔ Mt S r i j)
 | .emp, _, _, _, _ => Iff.rfl
 | .chr d, _, i, j, hj => ⟨fun ⟨h1, c, h2, h3⟩ => ⟨h1, c, by rw [← app_at hj h1]; exact h2, h3⟩, fun ⟨h1, c, h2, h3⟩ => ⟨h1, c, by rw [app_at hj h1]; exact h2, h3⟩⟩
 | .any, _, i, j, hj => ⟨fun ⟨h1, c, h2, h3⟩ => ⟨h1, c, by rw [← app_at hj h1]; exact h2, h3⟩, fun ⟨h1, c, h2, h3⟩ => ⟨h1, c, by rw [app_at hj h1]; exact h2, h3⟩⟩
 | .set cs, _, i, j, hj => ⟨fun ⟨h1, c, h2, h3⟩ => ⟨h1, c, by rw [← app_at hj h1]; exact h2, h3⟩, fun ⟨h1, c, h2, h3⟩ => ⟨h1, c, by rw [app_at hj h1]; exact h2, h3⟩⟩
 | .beg, h, _, _, _ => h.elim
 | .fin, h, _, _, _ => h.elim
 | .cat a b, h, i, j, hj => by
  constructor
  ·rintro ⟨k, h1, h2⟩
   have := Mt.le b k j h2
   exact ⟨k, (Mt.ext a h.1 i k (by omega)).1 h1, (Mt.ext b h.2 k j hj).1 h2⟩
  ·rintro ⟨k, h1, h2⟩
   have := Mt.le b k j h2
   exact ⟨k, (Mt.ext a h.1 i k (by omega)).2 h1, (Mt.ext b h.2 k j hj).2 h2⟩
 | .alt a b, h, i, j, hj => or_congr (Mt.ext a h.1 i j hj) (Mt.ext b h.2 i j hj)
 | .rep x mn mx, h, i, j, hj => by
  have ih := Pw.ext (n := S.length) (fun i j => Mt.le (s := S ++ T) x i j) (fun i j => Mt.le (s := S) x i j) (fun i j hj => Mt.ext x h i j hj)
  constructor
  ·rintro ⟨m, h1, h2, h3⟩
   exact ⟨m, h1, h2, (ih m i j hj).1 h3⟩
  ·rintro ⟨m, h1, h2, h3⟩
   exact ⟨m, h1, h2, (ih m i j hj).2 h3⟩
theorem ends_longer {S T : List Int} {r : Rx} {y z : List Bool} (hok : r.ok) (hn : noAn r) (h : EndsAt (mcS r) (mcT r) S true y) (k : EndsAt (mcS r) (mcT r) (S ++ T) true z) : y = z.take (S.length + 1) := by
 refine bools_ext (by rw [h.1, List.length_take, k.1, List.length_append]; omega) (fun j => ?_)
 rw [h.2 j, rch_mt hok, List.getElem?_take]
 by_cases hj : j < S.length + 1
 ·rw [if_pos hj, k.2 j, rch_mt hok]
  constructor
  ·rintro ⟨i, hi, hm⟩
   exact ⟨i, by rw [List.length_append]; omega, (Mt.ext r hn i j (by omega)).2 hm⟩
  ·rintro ⟨i, hi, hm⟩
   have h2 := (Mt.ext r hn i j (by omega)).1 hm
   have := Mt.le r i j h2
   exact ⟨i, by omega, h2⟩
 ·rw [if_neg hj]
  constructor
  ·rintro ⟨i, hi, hm⟩
   have h3 := ((h.2 j).2 ((rch_mt hok j).2 ⟨i, hi, hm⟩))
   have h4 := (List.getElem?_eq_some_iff.1 h3).1
   rw [h.1] at h4
   omega
  ·intro e; cases e
theorem runes_utf8_app (bad : UInt8 → Int) (xs : List UInt8) : ∀ {cs : List Int}, (∀ c ∈ cs, isR c = true) → runes bad (cs.flatMap frm ++ xs) = cs ++ runes bad xs
 | [], _ => rfl
 | c :: cs, h => by
  have hc := h c (by simp)
  have h0 := isR_pos hc
  obtain ⟨n, rfl⟩ : ∃ n : Nat, c = n := ⟨c.toNat, by omega⟩
  have hd := dec_of_frm n hc (cs.flatMap frm ++ xs)
  rw [List.flatMap_cons, List.append_assoc, runes_good (by simp [frm_ne hc]) (by rw [hd]), hd]
  simp only [List.drop_left]
  rw [runes_utf8_app bad xs (fun c hm => h c (List.mem_cons_of_mem _ hm))]
  rfl
end Go.Proofs.YthhnmpkgleelfaaGreatDoor
namespace Go.Proofs.YthhnmpkgleelfaaGreatDoor
open Go.RowKit Go.Shelf
def LgR (w : World) (ys : List Ex) (s11 : Value) (wr : World) : Prop := ∃ i : Nat, i ≤ ys.length ∧ s11 = .int .i64 i ∧ w = wr ∧ ∀ x ∈ ys.take i, x.kind ≠ 5 ∧ x.kind ≠ 6
set_option maxHeartbeats 16000000 in
set_option maxRecDepth 100000 in
theorem simlonger_any {w : World} (hT : Tabs w) (p s t : ByteArray) (hs : s.size ≤ 1048576) : Calls Tryz.prog 7 #[.string p, .string s, .string t] w fun e w' => TrP w e w' := by
 have Hf := Lib.hid (first_any hT)
 have Hg := Lib.hid (fun w0 : World => good2_any (w := w0) p)
 have HT := Lib.hid hT
 clear hT
 go_enter Tryz.func7, Tryz.ntmps7
 go_wp2_with fail
 (with_reducible refine Hf.out.mono ?_)
 rintro e w1 ⟨rfl, hb1⟩
 obtain ⟨W2, cap, hconv, hbc, hbs⟩ := conv_bytes w1 s (by omega)
 have Hb2 := Lib.hid (hb1.trans (hbc.mono hb1.size))
 have Hbs := Lib.hid hbs
 clear hb1 hbc hbs
 go_wp2_with fail
 clear hconv
 (with_reducible refine (refvalid_any Hbs.out (by rw [Array.length_toList]; exact Nat.le_trans hs (by decide))).mono ?_)
 rintro e w3 ⟨c, hh, ll, fA, fn, fq, rfl, hok, hb3⟩
 have hal := alloc_below w3 (.cells #[.int .i64 c, .int .i64 hh, .int .i64 ll, .slice fA fn fq] 52)
 have Hok := Lib.hid hok
 have Hb3 := Lib.hid (Hb2.out.trans (hb3.mono Hb2.out.size))
 have Hb4 := Lib.hid (Hb3.out.trans (hal.mono Hb3.out.size))
 have Hbox := Lib.hid (heap_alloc_new w3 (.cells #[.int .i64 c, .int .i64 hh, .int .i64 ll, .slice fA fn fq] 52))
 unfold fltV
 clear hok hb3 hal Hbs Hb2
 go_wp2_with fail
 obtain ⟨w4, hw4⟩ : ∃ w4, w3.alloc (.cells #[.int .i64 c, .int .i64 hh, .int .i64 ll, .slice fA fn fq] 52) = w4 := ⟨_, rfl⟩
 rw [hw4] at Hb4 Hbox ⊢
 clear hw4
 (with_reducible refine (Hg.out w4).mono ?_)
 rintro e w5 ⟨b, rfl, hb5, ht, -⟩
 have Hb5 := Lib.hid (Hb4.out.trans (hb5.mono Hb4.out.size))
 have Hbox5 := Lib.hid ((hb5.block _ (lt_of_heap Hbox.out)).trans Hbox.out)
 have d0 := row_cell Hbox5.out (j := 0) (u := .int .i64 c) rfl
 clear hb5 Hbox
 cases b with
 | false =>
  clear ht
  go_wp2_with fail
  go_ret
  exact ⟨rfl, Hb5.out⟩
 | true =>
 obtain ⟨r, hr⟩ := ht rfl
 by_cases hl : 2000 < s.size
 ·have hl2 : 2000 < (s.size : Int) := by omega
  clear ht
  go_wp2_with fail
  go_ret
  exact ⟨rfl, Hb5.out⟩
 have hl2 : ¬ 2000 < (s.size : Int) := by omega
 by_cases hlt : 2000 < t.size
 ·have hl3 : 2000 < (t.size : Int) := by omega
  clear ht
  go_wp2_with fail
  go_ret
  exact ⟨rfl, Hb5.out⟩
 have hl3 : ¬ 2000 < (t.size : Int) := by omega
 by_cases hc0 : c = 0
 case neg =>
  have hc1 : (c != 0) = true := by simpa using hc0
  clear ht
  go_wp2_with fail
  go_ret
  exact ⟨rfl, Hb5.out⟩
 case pos =>
  subst hc0
  obtain ⟨S, hS1, hS2, hS3⟩ := okU_runes (Hok.out rfl)
  have HS2 := Lib.hid hS2
  have HS1 := Lib.hid hS1
  have HS3 := Lib.hid hS3
  obtain ⟨ho, hx, hz, hw⟩ := hr.facts
  have hst := hr.2.2
  have Hmo := Lib.hid (mc_ok ho hst)
  have Ho := Lib.hid ho
  have Hof := Lib.hid (of_any hr (HT.out.below Hb5.out))
  clear ht hr ho hx hw hS1 hS2 hS3
  go_wp2_with fail
  clear d0
  (with_reducible refine Hof.out.mono ?_)
  rintro e w6 ⟨mg, Ax, nx, qx, rfl, hm6, hx6, -, hb6⟩
  have Hb6 := Lib.hid (Hb5.out.trans (hb6.mono Hb5.out.size))
  have Hm6 := Lib.hid hm6
  have Hx6 := Lib.hid hx6
  obtain rfl : nx = (r.flat 0).length := by obtain ⟨_, _, e, _⟩ := hx6.form; exact (Value.slice.inj e).2.1
  obtain ⟨ys, hys⟩ : ∃ ys, r.flat 0 = ys := ⟨_, rfl⟩
  have Hys := Lib.hid hys
  have hyl : ys.length ≤ 1000 := by rw [← hys, r.flat_len]; exact hz
  rw [hys] at Hx6 ⊢
  clear hm6 hb6 hx6 hys Hof
  go_wp2_with fail
  go_loopw [11] (fun s11 wr => LgR w6 ys s11 wr) (fun v _ => ys.length + 1 - (intOf v).toNat)
  case atStart => exact ⟨0, Nat.zero_le _, rfl, rfl, fun x hx => by rw [List.take_zero] at hx; cases hx⟩
  case round =>
   obtain ⟨i, hi, rfl, rfl, hk⟩ := hrel
   have Hk := Lib.hid hk
   clear hk
   by_cases hlt2 : i < ys.length
   ·obtain ⟨x, hx⟩ : ∃ x, ys[i]? = some x := ⟨_, List.getElem?_eq_getElem hlt2⟩
    obtain ⟨gx, qx2, ex, hp, c0, -⟩ := node_at Hx6.out hx
    obtain ⟨rfl, -, -⟩ := Value.slice.inj ex
    have hii : (i : Int) < (ys.length : Int) := by omega
    have Htk := Lib.hid (take_next hx)
    obtain ⟨kd, hkd⟩ : ∃ kd, x.kind = kd := ⟨_, rfl⟩
    rw [hkd] at c0
    have Hkd := Lib.hid hkd
    clear hx ex hp hkd
    by_cases h5 : kd = 5
    ·subst h5
     go_wp2_with fail
     go_ret
     exact ⟨rfl, Hb6.out⟩
    by_cases h6 : kd = 6
    ·subst h6
     go_wp2_with fail
     go_ret
     exact ⟨rfl, Hb6.out⟩
    have h5b : (kd == 5) = false := by simpa using h5
    have h6b : (kd == 6) = false := by simpa using h6
    have H56 := Lib.hid (And.intro h5 h6)
    clear h5 h6
    go_wp2_with fail
    refine ⟨⟨i + 1, by omega, by go_num, rfl, fun y hy => ?_⟩, by simp [intOf]; omega⟩
    rw [Htk.out] at hy
    rcases List.mem_append.1 hy with hy | hy
    ·exact Hk.out y hy
    ·rw [List.mem_singleton.1 hy, Hkd.out]; exact H56.out
   ·have hii : ¬ (i : Int) < (ys.length : Int) := by omega
    have Hna := Lib.hid (noAn_of r 0 (fun x hx => Hk.out x (by rw [List.take_of_length_le (by omega), ← Hys.out]; exact hx)))
    clear Hk
    have hst9 : (s ++ t).size ≤ 4000 := by rw [ByteArray.size_append]; omega
    have hrun : runes badR (s ++ t).data.toList = S ++ runes badR t.data.toList := by rw [app_list, HS2.out]; exact runes_utf8_app badR _ HS1.out
    obtain ⟨T, hT2⟩ : ∃ T, runes badR t.data.toList = T := ⟨_, rfl⟩
    rw [hT2] at hrun
    have Hrun := Lib.hid hrun
    obtain ⟨u, hu⟩ : ∃ u, s ++ t = u := ⟨_, rfl⟩
    rw [hu] at Hrun hst9
    clear hrun hT2
    go_wp2_with fail
    (with_reducible refine (refrunes_any w6 s (by omega)).mono ?_)
    rintro e w7 ⟨AR, nR, qR, rfl, hb7, ho7⟩
    rw [HS3.out] at ho7
    obtain rfl : nR = S.length := by obtain ⟨_, _, e, _⟩ := ownsRow_slice ho7; exact (Value.slice.inj e).2.1
    have Hb7 := Lib.hid (Hb6.out.trans (hb7.mono Hb6.out.size))
    have Hm7 := Lib.hid (Hm6.out.below hb7)
    clear hb7 ho7
    go_wp2_with fail
    (with_reducible refine (sends_any Hmo.out Hm7.out (by omega)).mono ?_)
    rintro e w8 ⟨y, hy, A8, rfl, hb8, q8, ho8⟩
    rw [HS3.out] at hy
    have Hy := Lib.hid hy
    have Hb8 := Lib.hid (Hb7.out.trans (hb8.mono Hb7.out.size))
    have Hm8 := Lib.hid (Hm7.out.below hb8)
    have Hsa := Lib.hid (Sl.clip (Ints.sl ho8))
    clear hy hb8 ho8
    go_wp2_with fail
    (with_reducible refine (sends_any Hmo.out Hm8.out hst9).mono ?_)
    rintro e w9 ⟨z, hz9, A9, rfl, hb9, q9, ho9⟩
    rw [Hrun.out] at hz9
    have hyz := ends_longer Ho.out Hna.out Hy.out hz9
    subst hyz
    have Hb9 := Lib.hid (Hb8.out.trans (hb9.mono Hb8.out.size))
    have Hsa9 := Lib.hid (Hsa.out.below hb9)
    have Hsb := Lib.hid (Sl.clip (Ints.sl ho9))
    have HA9 := Lib.hid (show ∀ a, A9 = some a → ∃ g, a = ⟨g, 0, none⟩ from fun a ha => by
     subst ha
     obtain ⟨_, ⟨e, _⟩ | ⟨g, _, _, e, _⟩⟩ := ho9
     ·obtain ⟨e, _, _⟩ := Value.slice.inj e; cases e
     ·obtain ⟨e, _, _⟩ := Value.slice.inj e; exact ⟨g, Option.some.inj e⟩)
    obtain ⟨hp1, hp2⟩ := idx_pre z (S.length + 1)
    have hap := idx_take z (S.length + 1)
    have hzl : (z.take (S.length + 1)).length = S.length + 1 := by rw [List.length_take, hz9.1, List.length_append]; omega
    have hmem : ∀ (i : Nat) (c : Int), (idx 0 (z.take (S.length + 1)))[i]? = some c → c ≤ (S.length : Int) := fun i c hc => by
     obtain ⟨j, h1, h2⟩ := (idx_mem _ 0 c).1 (List.mem_of_getElem? hc)
     have h3 := (List.getElem?_eq_some_iff.1 h2).1
     rw [hzl] at h3
     push_cast at h1
     omega
    have hil := idx_len z 0
    have hzz := hz9.1
    have hTl : T.length + S.length ≤ 4000 := by
     have h1 := runes_sz u hst9
     rw [Hrun.out, List.length_append] at h1
     omega
    rw [List.length_append] at hzz
    have Hp1 := Lib.hid hp1
    have Hap := Lib.hid hap
    have Hzl := Lib.hid hzl
    have Hmem := Lib.hid hmem
    obtain ⟨na, hna⟩ : ∃ na, (idx 0 (z.take (S.length + 1))).length = na := ⟨_, rfl⟩
    obtain ⟨nb, hnb⟩ : ∃ nb, (idx 0 z).length = nb := ⟨_, rfl⟩
    have Hna2 := Lib.hid hna
    have Hnb := Lib.hid hnb
    rw [hna] at Hsa9 hp2 ⊢
    rw [hnb] at Hsb hp2 hil ⊢
    have hnb2 : nb ≤ 4001 := by omega
    clear hz9 hb9 ho9 hp1 hap hzl hmem hna hnb hzz hil Hsa
    go_wp2_with fail
    go_loopw [15] (fun s15 wx => ∃ k : Nat, k ≤ na ∧ s15 = .int .i64 k ∧ w9 = wx) (fun v _ => nb + 1 - (intOf v).toNat)
    case atStart => exact ⟨0, Nat.zero_le _, rfl, rfl⟩
    case round =>
     obtain ⟨k, hk, rfl, rfl⟩ := hrel
     by_cases hlt3 : k < na
     ·obtain ⟨-, _, _, e9, -, h9⟩ := Hsb.out
      obtain ⟨rfl, -, -⟩ := Value.slice.inj e9
      obtain ⟨g9, o9, rfl, hcl⟩ := h9 (by rw [List.length_map, Hnb.out]; omega)
      obtain ⟨a, ha⟩ : ∃ a, (idx 0 (z.take (S.length + 1)))[k]? = some a := ⟨_, List.getElem?_eq_getElem (by rw [Hna2.out]; exact hlt3)⟩
      have ha2 : (idx 0 z)[k]? = some a := by rw [Hap.out, List.getElem?_append_left (by rw [Hna2.out]; exact hlt3)]; exact ha
      have c1 : w9.cell? ⟨g9, o9 + k, none⟩ = some (.int .i64 a) := hcl k (intV a) (by rw [List.getElem?_map, ha2]; rfl)
      have hle := Hmem.out k a ha
      have hkn : (k : Int) < (nb : Int) := by omega
      clear ha ha2 hcl e9 h9
      go_wp2_with fail
      exact ⟨⟨k + 1, by omega, by go_num, trivial⟩, by simp [intOf]; omega⟩
     ·obtain rfl : k = na := by omega
      have Hfr := Lib.hid (Sl.front Hsb.out hp2)
      rw [← List.map_take, show (idx 0 z).take k = idx 0 (z.take (S.length + 1)) by have h := Hp1.out; rw [Hna2.out] at h; exact h] at Hfr
      have hsf := slice_front HA9.out (n := nb) (m := k) hp2
      have Hsi := Lib.hid (sameints_any (x := idx 0 (z.take (S.length + 1))) (y := idx 0 (z.take (S.length + 1))) Hsa9.out Hfr.out (by rw [Hna2.out]; omega) (by rw [Hna2.out]; omega))
      by_cases hkb : k < nb
      ·obtain ⟨-, _, _, e9, -, h9⟩ := Hsb.out
       obtain ⟨rfl, -, -⟩ := Value.slice.inj e9
       obtain ⟨g9, o9, rfl, hcl⟩ := h9 (by rw [List.length_map, Hnb.out]; omega)
       obtain ⟨b, hb⟩ : ∃ b, (idx 0 z)[k]? = some b := ⟨_, List.getElem?_eq_getElem (by rw [Hnb.out]; exact hkb)⟩
       have c1 : w9.cell? ⟨g9, o9 + k, none⟩ = some (.int .i64 b) := hcl k (intV b) (by rw [List.getElem?_map, hb]; rfl)
       have hgt : ¬ b ≤ (S.length : Int) := by
        rw [Hap.out, List.getElem?_append_right (by rw [Hna2.out]; exact Nat.le_refl _)] at hb
        obtain ⟨j, h1, -⟩ := (idx_mem _ _ b).1 (List.mem_of_getElem? hb)
        rw [Hzl.out] at h1
        push_cast at h1
        omega
       have hkn : (k : Int) < (nb : Int) := by omega
       clear hb hcl e9 h9 hlt3
       go_wp2_with fail
       (with_reducible refine Hsi.out.mono ?_)
       rintro e w10 ⟨he, hb10⟩
       obtain rfl : e = .returned (.bool true) := by rw [he]; simp
       have Hb10 := Lib.hid (Hb9.out.trans (hb10.mono Hb9.out.size))
       clear hb10 he
       go_wp2_with fail
       go_ret
       exact ⟨rfl, Hb10.out⟩
      ·have hkn : ¬ (k : Int) < (nb : Int) := by omega
       clear hlt3
       go_wp2_with fail
       (with_reducible refine Hsi.out.mono ?_)
       rintro e w10 ⟨he, hb10⟩
       obtain rfl : e = .returned (.bool true) := by rw [he]; simp
       have Hb10 := Lib.hid (Hb9.out.trans (hb10.mono Hb9.out.size))
       clear hb10 he
       go_wp2_with fail
       go_ret
       exact ⟨rfl, Hb10.out⟩
end Go.Proofs.YthhnmpkgleelfaaGreatDoor
namespace Go.Proofs.YthhnmpkgleelfaaGreatDoor
open Go.ChangeShapes Go.WideShapes Go.ChangeAt Go.WideMaps Go.WideElems Go.RowKit
set_option maxRecDepth 100000 in
theorem longer_bound {H : Type} {l0 l1 l2 : List UInt8} (h : Rows.uptoSmall H [.lit (.string l0), .lit (.string l1), .lit (.string l2)] = true) : l1.length ≤ 1048575 := by
 have h1 : Rows.uptoBulkAll (H := H) [.lit (.string l0), .lit (.string l1), .lit (.string l2)] ≤ 1048576 := of_decide_eq_true h
 simp only [Rows.uptoBulkAll, Rows.uptoBulk] at h1
 omega
set_option maxRecDepth 100000 in
theorem longer_lifted (os : Os) (started : os.Started) (H : Type) (enc : TypeId × Value → H) (F : Stop.Interp) :
  ReturnsInHanded {} Tryz.checked os 7 .any ((Rows.OpenSpec.upto Rows.simLongerSpec).preRow enc Tryz.prog Tryz.f7 Rows.simLongerUptoRow.domain false Rows.simLongerUptoRow.laid) (((Rows.OpenSpec.upto Rows.simLongerSpec).at F).post enc Tryz.prog Tryz.f7 false true false false) := by
 obtain ⟨places, hx⟩ : ∃ places, DataW.whole enc Tryz.prog ((World.laidAll Tryz.prog os laidS).forCall (fun _ _ => 0) ⟨#[], #[.string ⟨#[]⟩, .string ⟨#[]⟩, .string ⟨#[]⟩], []⟩).memory Tryz.f7.params.toList Rows.simLongerSpec.vars false (#[.string ⟨#[]⟩, .string ⟨#[]⟩, .string ⟨#[]⟩] : Array Value).toList 8 = some ([.lit (.string []), .lit (.string []), .lit (.string [])], [], places) := ⟨[], by kernel_rfl⟩
 have hok : Input.okWideB Tryz.checked.prog ((World.laidAll Tryz.prog os laidS).forCall (fun _ _ => 0) ⟨#[], #[.string ⟨#[]⟩, .string ⟨#[]⟩, .string ⟨#[]⟩], []⟩) 7 ⟨#[], #[.string ⟨#[]⟩, .string ⟨#[]⟩, .string ⟨#[]⟩], []⟩ = true := by kernel_rfl
 refine returnsInHanded_of_row (C := Tryz.checked) (s := Rows.OpenSpec.upto Rows.simLongerSpec) Tryz.own started (by kernel_rfl) Tryz.func7
  ⟨World.laidAll Tryz.prog os laidS, fun _ _ => 0, ⟨#[], #[.string ⟨#[]⟩, .string ⟨#[]⟩, .string ⟨#[]⟩], []⟩, rfl, World.shaped_of_ZipB (by kernel_rfl) (by kernel_rfl), (Input.okWide_of_okWideB (base := 0) hok).1, (Input.okWide_of_okWideB hok).2,
   OpenSpec.preRow_of_cond 8 hx (by kernel_rfl) (fun k hk => by cases hk; kernel_rfl) (by kernel_rfl) (door_met os _), by
   simp only [Assume.holds]
   exact ⟨by simp, by simp, fun _ => Modest.zero, by simp, by simp⟩⟩ ?_
 intro W base args ds gs before hval0 hW _ hk _ hL _ _
 have hval : ∀ (j : Nat) t v, Tryz.f7.params[j]? = some t → args[j]? = some v → Value.okWide Tryz.prog W .any base t v := hval0
 have hW' := hW
 obtain ⟨p, q, hA0, hV, rfl, hfz, hnd⟩ := hW
 have hA : DataW.TrodAll enc Tryz.prog W 0 (fun _ => true) true Tryz.f7.params.toList args.toList ds p := hA0
 rw [Tryz.params7] at hA hval
 obtain ⟨v0, v1, v2, d0, d1, d2, p0, p1, p2, rfl, rfl, rfl, h0, h1, h2⟩ := trodAll_three hA
 obtain ⟨rfl, rfl⟩ := trodVars_none hV
 obtain ⟨c0, rfl, rfl, rfl, w0⟩ := ChangeMaps.open_string Tryz.underlying9 (hval 0 9 v0 rfl rfl) h0
 obtain ⟨c1, rfl, rfl, rfl, w1⟩ := ChangeMaps.open_string Tryz.underlying9 (hval 1 9 v1 rfl rfl) h1
 obtain ⟨c2, rfl, rfl, rfl, w2⟩ := ChangeMaps.open_string Tryz.underlying9 (hval 2 9 v2 rfl rfl) h2
 clear hA0 hval0
 simp only [List.append_nil] at hW'
 have hs : c1.size ≤ 1048576 := by
  have h1 := longer_bound (hk _ rfl)
  rw [Array.length_toList] at h1
  exact Nat.le_trans h1 (by decide)
 refine (simlonger_any (tabs_of_laid hL) c0 c1 c2 hs).mono fun e W' ⟨he, hb⟩ => ?_
 subst he
 exact ⟨_, rfl, post_of_below (pa := []) (pv := []) hW' (fun _ _ _ => trodAll_mk1 (shut_bool Tryz.underlying4 true)) (fun sp _ => trodAll_mk3 (ChangeMaps.shut_string Tryz.underlying9 w0) (ChangeMaps.shut_string Tryz.underlying9 w1) (ChangeMaps.shut_string Tryz.underlying9 w2)) (fun _ _ => rfl) rfl hb (ok_one (by kernel_rfl) rfl (okWide_bool_mk Tryz.underlying4 true))⟩
theorem longer_row : Rows.SimLongerUptoSaid :=
 OpenClaim.holds_of_cond 7 Tryz.f7 rfl rfl rfl rfl rfl rfl rfl ⟨rfl, rfl, rfl, rfl, rfl⟩ rfl rfl rfl rfl rfl (by kernel_rfl) Tryz.func7 (by kernel_rfl)
  (of_decide_eq_true (by kernel_rfl)) (by unfold Func.isWrapper; rw [if_neg (of_decide_eq_false (by kernel_rfl))]; exact ⟨rfl, rfl⟩)
  (fun os started H enc _ F => by rw [OpenClaim.pre_eq_preRow]; exact longer_lifted os started H enc F)
end Go.Proofs.YthhnmpkgleelfaaGreatDoor
namespace Go.Proofs.YthhnmpkgleelfaaGreatDoor
open Go
theorem longer_plain (f : FuncId) (fn : Func) (hf : Tryz.pinned.checked.prog.funcNamed "wicket/wicketlaw12.SimLonger" = some f) (hfn : Tryz.pinned.checked.prog.funcs[f]? = some fn) :
  true = Tryz.pinned.checked.prog.looks [] ∧ ∀ (j : Nat) t, fn.params[j]? = some t → Tryz.pinned.checked.prog.wantsStandIn t = false := by
 obtain rfl : f = 7 := Option.some.inj ((show Tryz.prog.funcNamed "wicket/wicketlaw12.SimLonger" = some 7 by kernel_rfl).symm.trans hf) |>.symm
 obtain rfl : fn = Tryz.f7 := (Option.some.inj (Tryz.func7.symm.trans hfn)).symm
 refine ⟨by kernel_rfl, fun j t ht => ?_⟩
 rw [Tryz.params7] at ht
 have hm : t ∈ [9, 9, 9] := by simpa using Array.mem_of_getElem? ht
 have hall : ([9, 9, 9].all fun u => !Tryz.prog.wantsStandIn u) = true := by kernel_rfl
 exact (show Tryz.prog.wantsStandIn t = false by simpa using List.all_eq_true.1 hall t hm)
theorem longer_card : Rows.SimLongerUptoCardSaid :=
 Claim7.holds_tied_plain_at .later [] _ _ _ _ longer_row (fun _ h => by cases h) (by kernel_rfl) (fun _ h => by cases h) simLongerUpto_row_tie rfl ⟨rfl, rfl⟩ (by kernel_rfl) rfl longer_plain (by kernel_rfl)
#print axioms longer_card
end Go.Proofs.YthhnmpkgleelfaaGreatDoor
