import Derived.Test.YthhnmpkgleelfaaGreatDoorM34
import Derived.Test.YthhnmpkgleelfaaGreatDoorM40
import Derived.Test.YthhnmpkgleelfaaGreatDoorM22
import Derived.Test.YthhnmpkgleelfaaGreatDoorM6
import Derived.Test.YthhnmpkgleelfaaGreatDoorM23
import Derived.Test.YthhnmpkgleelfaaGreatDoorM7
import Derived.Test.YthhnmpkgleelfaaGreatDoorM35
import Derived.Test.YthhnmpkgleelfaaGreatDoorM15
set_option linter.unusedVariables false
set_option linter.unusedSimpArgs false
namespace Go.Proofs.YthhnmpkgleelfaaGreatDoor
open Go.RowKit Go.Shelf
theorem wlen_le : ∀ r : Rx, r.ok → wlen r ≤ 40000000 * r.size
 | .emp, _ => Nat.zero_le _
 | .chr _, _ => by simp [wlen, Rx.size]
 | .any, _ => by simp [wlen, Rx.size]
 | .set cs, h => by have := (rng_size h.1 h.2).2.2; simp [wlen, Rx.size]; omega
 | .beg, _ => by simp [wlen, Rx.size]
 | .fin, _ => by simp [wlen, Rx.size]
 | .cat a b, h => by have h1 := wlen_le a h.1; have h2 := wlen_le b h.2; rw [wlen, Rx.size]; omega
 | .alt a b, h => by have h1 := wlen_le a h.1; have h2 := wlen_le b h.2; rw [wlen, Rx.size]; omega
 | .rep x _ _, h => by have h1 := wlen_le x h.1; rw [wlen, Rx.size]; omega
def Good (s : ByteArray) (r : Rx) : Prop := s.size ≤ 400 ∧ Parsed s.data.toList r ∧ statesF r ≤ 3000
structure GoodR (s : ByteArray) (r : Rx) : Prop where
 ok : r.ok
 nox : r.nox
 size : r.size ≤ 1000
 wl : wlen r ≤ 10000000000000
theorem Good.facts {s : ByteArray} {r : Rx} (h : Good s r) : GoodR s r := by
 have h1 := h.2.1.size
 have h2 : s.data.toList.length = s.size := by rw [Array.length_toList]; rfl
 have h3 := h.1
 have h4 := wlen_le r h.2.1.ok
 exact ⟨h.2.1.ok, h.2.1.nox, by omega, by omega⟩
def GdP (s : ByteArray) (w : World) (e : Ending) (w' : World) : Prop := ∃ b : Bool, e = .returned (.bool b) ∧ Below w.heap.size w w' ∧ (b = true → ∃ r, Good s r) ∧ (b = false → ∀ r, ¬ Good s r)
set_option maxHeartbeats 8000000 in
set_option maxRecDepth 100000 in
theorem good2_any {w : World} (s : ByteArray) : Calls Tryz.prog 11 #[.string s] w fun e w' => GdP s w e w' := by
 by_cases hl : 400 < s.size
 ·have hl2 : 400 < (s.size : Int) := by omega
  go_enter Tryz.func11, Tryz.ntmps11
  go_wp2_with fail
  go_ret
  exact ⟨false, rfl, Below.refl _ _, fun e => (by cases e), fun _ r h => by have := h.1; omega⟩
 ·have hl2 : ¬ 400 < (s.size : Int) := by omega
  have hl3 : s.size ≤ 400 := by omega
  have Hp := Lib.hid (rparse_any (w := w) hl3)
  go_enter Tryz.func11, Tryz.ntmps11
  go_wp2_with fail
  (with_reducible refine Hp.out.mono ?_)
  rintro e w1 ⟨A, n, q, c, hh, ll, fA, fn, fq, rfl, hb1, h0, h1⟩
  have Hb1 := Lib.hid (hb1.trans ((alloc_below w1 (.cells #[.int .i64 c, .int .i64 hh, .int .i64 ll, .slice fA fn fq] 52)).mono hb1.size))
  unfold fltV
  by_cases hc : c = 0
  ·subst hc
   obtain ⟨r, hr, hx⟩ := h0 rfl
   have hrs := hr.size
   have hls : s.data.toList.length = s.size := by rw [Array.length_toList]; rfl
   have Hst := Lib.hid (rstates_any (hx.below (alloc_below w1 (.cells #[.int .i64 0, .int .i64 hh, .int .i64 ll, .slice fA fn fq] 52))) hr.ok (by omega))
   have Hr := Lib.hid hr
   clear hb1 h0 h1 hr hx hrs hls
   go_wp2_with fail
   (with_reducible refine Hst.out.mono ?_)
   rintro e w2 ⟨rfl, hb2⟩
   have Hb2 := Lib.hid (Hb1.out.trans (hb2.mono Hb1.out.size))
   clear hb2
   generalize hst : statesF r = k at *
   have Hst2 := Lib.hid hst
   clear hst
   by_cases hk : k ≤ 3000
   ·go_wp2_with fail
    go_ret
    exact ⟨true, by simp [hk], Hb2.out, fun _ => ⟨r, hl3, Hr.out, by rw [Hst2.out]; exact hk⟩, fun e => by cases e⟩
   ·go_wp2_with fail
    go_ret
    exact ⟨false, by simp [hk], Hb2.out, fun e => (by cases e), fun _ r' h' => by have := h'.2.2; rw [h'.2.1.uniq Hr.out, Hst2.out] at this; omega⟩
  ·have n0 : (c == 0) = false := by simpa using hc
   have Hn := Lib.hid (h1 hc)
   clear hb1 h0 h1 hc
   go_wp2_with fail
   go_ret
   exact ⟨false, rfl, Hb1.out, fun e => (by cases e), fun _ r h => Hn.out r h.2.1⟩
def OfP (r : Rx) (w : World) (e : Ending) (w' : World) : Prop := ∃ (mg : Nat) (A : Option Addr) (n q : Nat), e = .returned (.tuple #[.pointer (some ⟨mg, 0, none⟩), .slice A n q]) ∧ Mch w' mg (mcS r) (mcT r) ∧ XRow w' 0 (.slice A n q) (r.flat 0) ∧ w.heap.size ≤ mg ∧ Below w.heap.size w w'
set_option maxHeartbeats 8000000 in
set_option maxRecDepth 100000 in
theorem of_any {w : World} {s : ByteArray} {r : Rx} (hg : Good s r) (hT : Tabs w) : Calls Tryz.prog 12 #[.string s] w fun e w' => OfP r w e w' := by
 obtain ⟨ho, hx, hz, hw⟩ := hg.facts
 obtain ⟨hl3, hr, hst⟩ := hg
 have hl2 : ¬ 400 < (s.size : Int) := by omega
 have Hp := Lib.hid (rparse_any (w := w) hl3)
 have Hr := Lib.hid hr
 have Hps := Lib.hid (fun (w0 : World) (h : Tabs w0) => pparse_any hr (by omega) h)
 have Hcm := Lib.hid (fun (w0 : World) (h : Tabs w0) => compile_any ho hx hst h hw)
 have Hsr := Lib.hid (fun (w0 : World) (v : Value) (h : XRow w0 0 v (r.flat 0)) => rstates_any h ho (by omega))
 have HT := Lib.hid hT
 clear ho hx hr hT
 obtain ⟨tv, xv, hv⟩ := nodeV_iface r
 have Hv := Lib.hid hv
 rw [hv] at Hps Hcm
 clear hv
 go_enter Tryz.func12, Tryz.ntmps12
 go_wp2_with fail
 (with_reducible refine Hp.out.mono ?_)
 rintro e w1 ⟨A, n, q, c, hh, ll, fA, fn, fq, rfl, hb1, h0, h1⟩
 have hc : c = 0 := Classical.byContradiction (fun hc => h1 hc r Hr.out)
 subst hc
 obtain ⟨r', hr', hx'⟩ := h0 rfl
 obtain rfl := hr'.uniq Hr.out
 have hal := alloc_below w1 (.cells #[.int .i64 0, .int .i64 hh, .int .i64 ll, .slice fA fn fq] 52)
 have Hb1 := Lib.hid (hb1.trans (hal.mono hb1.size))
 have Hx1 := Lib.hid (hx'.below hal)
 unfold fltV
 clear hb1 h0 h1 hr' hx' hal
 go_wp2_with fail
 (with_reducible refine (Hsr.out _ _ Hx1.out).mono ?_)
 rintro e w2 ⟨rfl, hb2⟩
 have Hb2 := Lib.hid (Hb1.out.trans (hb2.mono Hb1.out.size))
 have Hx2 := Lib.hid (Hx1.out.below hb2)
 have hgt : ¬ 3000 < statesF r' := by omega
 generalize statesF r' = k at *
 clear hb2
 go_wp2_with fail
 (with_reducible refine (Hps.out w2 (HT.out.below Hb2.out)).mono ?_)
 rintro e w3 ⟨rfl, hb3⟩
 have Hb3 := Lib.hid (Hb2.out.trans (hb3.mono Hb2.out.size))
 have Hx3 := Lib.hid (Hx2.out.below hb3)
 clear hb3
 go_wp2_with fail
 (with_reducible refine (Hcm.out w3 (HT.out.below Hb3.out)).mono ?_)
 rintro e w4 ⟨mg, rfl, hmg, hm4, hb4⟩
 have Hb4 := Lib.hid (Hb3.out.trans (hb4.mono Hb3.out.size))
 have Hx4 := Lib.hid (Hx3.out.below hb4)
 have Hm4 := Lib.hid hm4
 have Hmg := Lib.hid (Nat.le_trans Hb3.out.size hmg)
 clear hb4 hm4 hmg
 go_wp2_with fail
 go_ret2
 exact ⟨mg, A, n, q, rfl, Hm4.out, Hx4.out, Hmg.out, Hb4.out⟩
abbrev bF : ByteArray := { data := #[97, 98, 42] }
abbrev bX : ByteArray := { data := #[120, 97, 98, 98] }
abbrev rF : Rx := .cat (.chr 97) (.rep (.chr 98) 0 (-1))
abbrev sX : List Int := [120, 97, 98, 98]
theorem nx98 : nx [98, 42] = 98 ∧ nl [98, 42] = 1 := nx_ascii 98 [42] (by decide)
theorem nx97 : nx [97, 98, 42] = 97 ∧ nl [97, 98, 42] = 1 := nx_ascii 97 [98, 42] (by decide)
theorem nx0 : nx ([] : List UInt8) = -1 := rfl
theorem first_parsed : Parsed bF.data.toList rF := by
 show Parsed [97, 98, 42] rF
 have a1 : Atom [97, 98, 42] (.chr 97) [98, 42] := by
  have h := Atom.chr (xs := [97, 98, 42]) (by rw [nx97.1]; decide) (by rw [nx97.1]; decide) (by rw [nx97.1]; decide)
  rw [nx97.1, nx97.2] at h
  exact h
 have a2 : Atom [98, 42] (.chr 98) [42] := by
  have h := Atom.chr (xs := [98, 42]) (by rw [nx98.1]; decide) (by rw [nx98.1]; decide) (by rw [nx98.1]; decide)
  rw [nx98.1, nx98.2] at h
  exact h
 have p1 : Piece [97, 98, 42] (.chr 97) [98, 42] := Piece.bare a1 (by rw [nx98.1]; decide)
 have p2 : Piece [98, 42] (.rep (.chr 98) 0 (-1)) [] := Piece.rep (by rw [nx98.1]; decide) a2 Quant.star (by rw [nx0]; decide)
 have q : SeqL [97, 98, 42] [.chr 97, .rep (.chr 98) 0 (-1)] [] := SeqL.more (by rw [nx97.1]; decide) p1 (SeqL.more (by rw [nx98.1]; decide) p2 (SeqL.done (.inl nx0)))
 exact ⟨_, AltL.one q (by rw [nx0]; decide), rfl⟩
theorem first_good : Good bF rF := ⟨by decide, first_parsed, by decide⟩
theorem first_runes : runes badR bX.data.toList = sX := by
 have h := runes_utf8 badR (cs := sX) (by decide)
 have e : sX.flatMap frm = bX.data.toList := by
  have f1 := frm_1 120 (by decide)
  have f2 := frm_1 97 (by decide)
  have f3 := frm_1 98 (by decide)
  have g1 : frm 120 = [120] := f1
  have g2 : frm 97 = [97] := f2
  have g3 : frm 98 = [98] := f3
  simp [sX, List.flatMap_cons, g1, g2, g3]
 rw [← e]; exact h
theorem pw_b {s : List Int} : ∀ {m i j : Nat}, Pw (Mt s (.chr 98)) m i j → j = i + m
 | 0, i, j, h => h.symm
 | m + 1, i, j, ⟨k, h1, h2⟩ => by have := pw_b h1; have := h2.1; omega
theorem at_a {c : Int} (h : atomT (.chr 97) c = true) : c = 97 := by
 unfold atomT at h
 simp at h
 omega
theorem first_mt (j : Nat) : (∃ i, i ≤ sX.length ∧ Mt sX rF i j) ↔ 2 ≤ j ∧ j ≤ 4 := by
 constructor
 ·rintro ⟨i, hi, k, ⟨hk, c, hc, ha⟩, m, -, -, hp⟩
  have := at_a ha
  subst this
  have hi1 : i = 1 := by
   rcases i with _ | _ | _ | _ | i
   ·simp at hc
   ·rfl
   ·simp at hc
   ·simp at hc
   ·simp at hc
  have hj := pw_b hp
  refine ⟨by omega, ?_⟩
  cases m with
  | zero => omega
  | succ m =>
   obtain ⟨k2, h1, h2, c2, h3, -⟩ := hp
   have := (List.getElem?_eq_some_iff.1 h3).1
   have : sX.length = 4 := rfl
   omega
 ·rintro ⟨h1, h2⟩
  have m0 : Mt sX (.chr 97) 1 2 := ⟨rfl, 97, rfl, by decide⟩
  have m1 : Mt sX (.chr 98) 2 3 := ⟨rfl, 98, rfl, by decide⟩
  have m2 : Mt sX (.chr 98) 3 4 := ⟨rfl, 98, rfl, by decide⟩
  refine ⟨1, by decide, 2, m0, ?_⟩
  rcases (show j = 2 ∨ j = 3 ∨ j = 4 by omega) with rfl | rfl | rfl
  ·exact ⟨0, by decide, .inl (by decide), rfl⟩
  ·exact ⟨1, by decide, .inl (by decide), 2, rfl, m1⟩
  ·exact ⟨2, by decide, .inl (by decide), 3, ⟨2, rfl, m1⟩, m2⟩
theorem first_ends {z : List Bool} (h : EndsAt (mcS rF) (mcT rF) sX true z) : idx 0 z = [2, 3, 4] := by
 have e : z = [false, false, true, true, true] := by
  refine bools_ext (by rw [h.1]; rfl) (fun j => ?_)
  rw [h.2, rch_mt first_good.facts.ok, first_mt]
  rcases j with _ | _ | _ | _ | _ | j <;> simp
 rw [e]; rfl
theorem first_feed : Rch (mcS rF) (mcT rF) [97] false 0 1 := by
 have m0 : Mt [97, -1] (.chr 97) 0 1 := ⟨rfl, 97, rfl, by decide⟩
 have hm : Mt [97, -1] rF 0 1 := ⟨1, m0, 0, by decide, .inl (by decide), rfl⟩
 have h1 : Rch (mcS rF) (mcT rF) ([97] ++ [-1]) true 0 1 := (rch_mt first_good.facts.ok 1).2 ⟨0, by decide, hm⟩
 exact (h1.early (by decide)).less (by decide)
theorem first_n : statesF rF = 4 := by decide
theorem first_len : (mcS rF).length = 4 := by
 have h := mc_len first_good.facts.ok first_good.2.2
 rw [first_n] at h
 omega
theorem Sl.clip {w : World} {A : Option Addr} {n q : Nat} {us : List Value} (h : Sl w (.slice A n q) us) : Sl w (.slice A n n) us := by
 obtain ⟨h1, A', c, e, h2, h3⟩ := h
 obtain ⟨rfl, rfl, rfl⟩ := Value.slice.inj e
 exact ⟨h1, A, _, rfl, Nat.le_refl _, h3⟩
theorem ints_lit {w : World} {l : List Int} {cs : Array Value} (hc : cs.toList = l.map intV) (hs : cs.size = l.length) (hl : l.length ≤ 1000) : Ints (w.alloc (.cells cs 3)) w.heap.size (.slice (some ⟨w.heap.size, 0, none⟩) l.length l.length) l := by
 refine ⟨by rw [List.length_map]; omega, .inr ⟨w.heap.size, l.length, cs, rfl, Nat.le_refl _, heap_alloc_new w _, Nat.le_refl _, by unfold maxLen; omega, by omega, ?_⟩⟩
 rw [List.take_of_length_le (by rw [Array.length_toList, hs]; omega)]
 exact hc
def TrP (w : World) (e : Ending) (w' : World) : Prop := e = .returned (.bool true) ∧ Below w.heap.size w w'
set_option maxHeartbeats 16000000 in
set_option maxRecDepth 100000 in
theorem first_any {w : World} (hT : Tabs w) : Calls Tryz.prog 10 #[] w fun e w' => TrP w e w' := by
 have Hof := Lib.hid (of_any first_good hT)
 have Hmo := Lib.hid (mc_ok first_good.facts.ok first_good.2.2)
 clear hT
 go_enter Tryz.func10, Tryz.ntmps10
 go_wp2_with fail
 (with_reducible refine Hof.out.mono ?_)
 rintro e w1 ⟨mg, A, n, q, rfl, hm1, hx1, hmg, hb1⟩
 have hn : n = 4 := by obtain ⟨_, _, e, _⟩ := hx1.form; exact (Value.slice.inj e).2.1
 subst hn
 have Hm1 := Lib.hid hm1
 have Hx1 := Lib.hid hx1
 have Hb1 := Lib.hid hb1
 have HSt := Lib.hid (fun (w0 : World) (h : XRow w0 0 (.slice A 4 q) (rF.flat 0)) => rstates_any h first_good.facts.ok (by decide))
 have Hrn := Lib.hid first_runes
 clear hm1 hx1 hb1 hmg
 go_wp2_with fail
 (with_reducible refine (sends_any (s := bX) Hmo.out Hm1.out (by decide)).mono ?_)
 rintro e w2 ⟨z, hz, A2, rfl, hb2, q2, ho2⟩
 rw [Hrn.out] at hz
 have hi := first_ends hz
 rw [hi] at ho2 ⊢
 have Hz := Lib.hid hz
 have Hb2 := Lib.hid (Hb1.out.trans (hb2.mono Hb1.out.size))
 have Hm2 := Lib.hid (Hm1.out.below hb2)
 have Hx2 := Lib.hid (Hx1.out.below hb2)
 have hal := alloc_below w2 (.cells #[.int .i64 2, .int .i64 3, .int .i64 4] 3)
 have Hb2a := Lib.hid (Hb2.out.trans (hal.mono Hb2.out.size))
 have Hm2a := Lib.hid (Hm2.out.below hal)
 have Hx2a := Lib.hid (Hx2.out.below hal)
 have ho2a : Ints _ _ (.slice A2 3 q2) [2, 3, 4] := Ints.below ho2 hal
 have Hsi := Lib.hid (sameints_any (x := [2, 3, 4]) (y := [2, 3, 4]) (Sl.clip (Ints.sl ho2a)) (Ints.sl (show Ints _ _ (.slice (some ⟨w2.heap.size, 0, none⟩) 3 3) [2, 3, 4] from ints_lit (w := w2) (l := [2, 3, 4]) (cs := #[.int .i64 2, .int .i64 3, .int .i64 4]) rfl rfl (by decide))) (by decide) (by decide))
 clear hb2 ho2 ho2a hi hz hal Hof
 go_wp2_with fail
 (with_reducible refine Hsi.out.mono ?_)
 rintro e w3 ⟨rfl, hb3⟩
 have Hb3 := Lib.hid (Hb2a.out.trans (hb3.mono Hb2a.out.size))
 have Hm3 := Lib.hid (Hm2a.out.below hb3)
 have Hx3 := Lib.hid (Hx2a.out.below hb3)
 clear hb3 Hsi
 rw [show decide (([2, 3, 4] : List Int) = [2, 3, 4]) = true by decide]
 go_wp2_with fail
 (with_reducible refine (smatch_any (s := bX) Hmo.out Hm3.out (by decide)).mono ?_)
 rintro e w4 ⟨z4, hz4, rfl, hb4⟩
 rw [Hrn.out] at hz4 ⊢
 rw [first_ends hz4, first_len, show decide (0 < ([2, 3, 4] : List Int).length) = true by decide, show ((4 * (sX.length + 1) : Nat) : Int) = 20 by decide]
 have Hb4 := Lib.hid (Hb3.out.trans (hb4.mono Hb3.out.size))
 have Hm4 := Lib.hid (Hm3.out.below hb4)
 have Hx4 := Lib.hid (Hx3.out.below hb4)
 clear hb4 hz4
 go_wp2_with fail
 (with_reducible refine (new_any Hmo.out Hm4.out).mono ?_)
 rintro e w5 ⟨g, pg, vs, ve, rfl, hr5, hb5⟩
 have Hb5 := Lib.hid (Hb4.out.trans (hb5.mono Hb4.out.size))
 have Hx5 := Lib.hid (Hx4.out.below hb5)
 have Hr5 := Lib.hid hr5
 have Hb45 := Lib.hid hb5
 clear hb5 hr5
 have hs4 := Hb4.out.size
 go_wp2_with fail
 (with_reducible refine (feed_any Hmo.out Hr5.out (by decide) 97).mono ?_)
 rintro e w6 ⟨rfl, vs6, ve6, hr6, hc6, -⟩
 have hbl := hc6.below (B := w4.heap.size) Hr5.out.mch.size (fun i hi => (Hr5.out.foot hi).1)
 have hb46 := Hb45.out.trans hbl
 have Hb6 := Lib.hid (Hb4.out.trans (hb46.mono hs4))
 have Hx6 := Lib.hid (Hx4.out.below hb46)
 have hkn : kn 97 = 97 := by decide
 rw [hkn, List.nil_append] at hr6
 obtain ⟨z6, -, hz6⟩ := hr6.ends
 have Hst := Lib.hid (HSt.out w6 Hx6.out)
 have Hr6 := Lib.hid hr6
 have Hz6 := Lib.hid hz6
 have hpos : decide (0 < (idx 0 z6).length) = true := by
  rw [decide_eq_true_iff]
  exact List.length_pos_of_mem ((mem0 z6 1).2 ((hz6.2 1).2 first_feed))
 have Hpos := Lib.hid hpos
 unfold StP at Hst
 rw [first_n] at Hst
 clear hbl hb46 hr6 hc6 hkn hz6 hpos
 go_wp2_with fail
 (with_reducible refine Hst.out.mono ?_)
 rintro e w7 ⟨rfl, hb7⟩
 have hr7 := Hr6.out.stay (Chg.of_below (F := fun _ => False) hb7) (fun _ h => h.elim) (fun _ _ h => h)
 have Hhit := Lib.hid (hit_any hr7 Hz6.out)
 rw [Hpos.out] at Hhit
 have Hsp := Lib.hid (steps_any hr7 Hmo.out.len (by decide))
 rw [first_len] at Hsp
 have Hb7 := Lib.hid (Hb6.out.trans (hb7.mono Hb6.out.size))
 have Hst7 := Lib.hid (HSt.out w7 (Hx6.out.below hb7))
 unfold StP at Hst7
 rw [first_n] at Hst7
 clear hr7 hb7
 go_wp2_with fail
 (with_reducible refine Hhit.out.mono ?_)
 rintro e w8 ⟨rfl, rfl⟩
 go_wp2_with fail
 (with_reducible refine Hsp.out.mono ?_)
 rintro e w9 ⟨rfl, rfl⟩
 rw [show ((4 * ([(97 : Int)].length + if false = true then 1 else 0) : Nat) : Int) = 4 by decide]
 go_wp2_with fail
 (with_reducible refine Hst7.out.mono ?_)
 rintro e w10 ⟨rfl, hb10⟩
 have Hb10 := Lib.hid (Hb7.out.trans (hb10.mono Hb7.out.size))
 clear hb10
 go_wp2_with fail
 go_ret
 exact ⟨rfl, Hb10.out⟩
end Go.Proofs.YthhnmpkgleelfaaGreatDoor
namespace Go.Proofs.YthhnmpkgleelfaaGreatDoor
theorem app_list (a b : ByteArray) : (a ++ b).data.toList = a.data.toList ++ b.data.toList := by
 rw [ByteArray.data_append, Array.toList_append]
end Go.Proofs.YthhnmpkgleelfaaGreatDoor
namespace Go.Proofs.YthhnmpkgleelfaaGreatDoor
open Go.RowKit Go.Shelf
theorem Rns.stay {F : Nat → Prop} {w w' : World} {base : Nat} {v : Value} {l : List Int} (h : Rns w base v l) (hc : Chg F w w') (hf : ∀ b, v.ownBlock = some b → ¬ F b) : Rns w' base v l :=
 own_stay h (fun b hb => by obtain ⟨_, cur, hg⟩ := ownsRow_block h hb; exact hc.block b (lt_of_heap hg) (hf b hb))
def VldP (xs : List UInt8) (w : World) (e : Ending) (w' : World) : Prop := ∃ (c h l : Int) (A : Option Addr) (n q : Nat), e = .returned (fltV c h l (.slice A n q)) ∧ (c = 0 → OkU xs) ∧ Below w.heap.size w w'
set_option maxRecDepth 100000 in
set_option maxHeartbeats 8000000 in
theorem refvalid_any {w : World} {v : Value} {xs : List UInt8} (hb : Bs w v xs) (hlen : xs.length ≤ 2000000) : Calls Tryz.prog 29 #[v] w fun e w' => VldP xs w e w' := by
 have hb1 := alloc_below w (.cells #[.int .i64 0, .int .i64 0, .int .i64 0, .slice none 0 0] 52)
 have Hbox := Lib.hid (heap_alloc_new w (.cells #[.int .i64 0, .int .i64 0, .int .i64 0, .slice none 0 0] 52))
 have Hc := Lib.hid (refchs_any (hb.below hb1) hlen)
 have Hb1 := Lib.hid hb1
 clear hb hb1
 go_enter Tryz.func29, Tryz.ntmps29
 go_wp2_with fail
 (with_reducible refine Hc.out.mono ?_)
 rintro e w2 ⟨v1, v2, c, hh, ll, fA, fn, fq, rfl, hok, hb2⟩
 have Hok := Lib.hid hok
 have Hb2 := Lib.hid hb2
 have Hbox2 := Lib.hid ((hb2.block w.heap.size (by simp)).trans Hbox.out)
 have hal := alloc_below w2 (.cells #[.int .i64 c, .int .i64 hh, .int .i64 ll, .slice fA fn fq] 52)
 have Hbox3 := Lib.hid ((hal.block w.heap.size (lt_of_heap Hbox2.out)).trans Hbox2.out)
 have Hb3 := Lib.hid (Hb1.out.trans ((hb2.trans (hal.mono hb2.size)).mono Hb1.out.size))
 unfold fltV
 clear hok hb2 hal Hc
 go_wp2_with (refine wpList_store_rowTo rfl 52 (.tmp 2) (.tmp 12) rfl rfl w.heap.size #[.int .i64 c, .int .i64 hh, .int .i64 ll, .slice fA fn fq] (by simp [Act.eval]) (by simp [Act.eval]) 52 _ Hbox3.out infoFault rfl (flt_one c hh ll rfl) ?_)
 refine bodyPost_ret (results_cell_row Tryz.results29 _ _ w.heap.size 52 #[.int .i64 c, .int .i64 hh, .int .i64 ll, .slice fA fn fq] (0, 0) _ (by simp) (setRow_heap _ _ _ _ _ _ Hbox3.out) Tryz.underlying52 rfl infoFault) rfl ⟨c, hh, ll, fA, fn, fq, rfl, Hok.out, below_setRow Hb3.out (Nat.le_refl _) _⟩
theorem okU_runes {xs : List UInt8} (h : OkU xs) : ∃ cs : List Int, (∀ c ∈ cs, isR c = true) ∧ xs = cs.flatMap frm ∧ runes badR xs = cs := by
 obtain ⟨cs, h1, rfl⟩ := h
 exact ⟨cs, h1, rfl, runes_utf8 badR h1⟩
theorem idx_take (z : List Bool) (n : Nat) : idx 0 z = idx 0 (z.take n) ++ idx (0 + (z.take n).length) (z.drop n) := by
 rw [← idx_app, List.take_append_drop]
theorem idx_pre (z : List Bool) (n : Nat) : (idx 0 z).take (idx 0 (z.take n)).length = idx 0 (z.take n) ∧ (idx 0 (z.take n)).length ≤ (idx 0 z).length := by
 rw [idx_take z n]
 exact ⟨List.take_left' rfl, by rw [List.length_append]; omega⟩
theorem Sl.front {w : World} {A : Option Addr} {n c m : Nat} {us : List Value} (h : Sl w (.slice A n c) us) (hm : m ≤ n) : Sl w (.slice A m c) (us.take m) := by
 obtain ⟨h1, A', c', e, h2, h3⟩ := h
 obtain ⟨rfl, rfl, rfl⟩ := Value.slice.inj e
 have hl : (us.take m).length = m := by rw [List.length_take]; omega
 refine ⟨by omega, A, _, by rw [hl], by omega, fun h0 => ?_⟩
 obtain ⟨g, o, e, hc⟩ := h3 (by omega)
 refine ⟨g, o, e, fun i u hu => hc i u ?_⟩
 rw [List.getElem?_take] at hu
 split at hu
 ·exact hu
 ·cases hu
theorem slice_front {A : Option Addr} (hA : ∀ a, A = some a → ∃ g, a = ⟨g, 0, none⟩) {n m : Nat} (hm : m ≤ n) (W : World) : (Instr.sliceAt 30 (.slice A n n) none (some (.int .i64 (m : Int))) none).run Tryz.prog W = .ok (.slice A m n) W := by
 have h0 : (0 : Int) ≤ (m : Int) := Int.natCast_nonneg _
 have h1 : (m : Int) ≤ (n : Int) := by omega
 cases A with
 | none => go_simp
 | some a =>
  obtain ⟨g, rfl⟩ := hA a rfl
  go_simp
end Go.Proofs.YthhnmpkgleelfaaGreatDoor
