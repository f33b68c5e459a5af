import Derived.Test.YthhnmpkgleelfaaGreatDoorM11
import Derived.Test.YthhnmpkgleelfaaGreatDoorM3
set_option linter.unusedVariables false
set_option linter.unusedSimpArgs false
namespace Go.Proofs.YthhnmpkgleelfaaGreatDoor
open Go.RowKit
def ItP (first : Bool) (xs : List UInt8) (rb k : Nat) (w : World) (e : Ending) (w' : World) : Prop := ∃ (A : Option Addr) (q : Nat) (l : List Int) (k' : Nat) (c : Int), e = .returned (.slice A l.length q) ∧ Rd xs rb w' k' c ∧ Fr rb w w' ∧ l.length ≤ 100 ∧ Rns w' 0 (.slice A l.length q) l ∧ (c = 0 → ∃ L, l = flatS L ∧ Item first (xs.drop k) L (xs.drop k')) ∧ (c ≠ 0 → NoItem first (xs.drop k))
theorem Rns.rd {w w' : World} {rb base : Nat} {v : Value} {l : List Int} (h : Rns w base v l) (hg : Fr rb w w') (ht : Typed w rb 98) : Rns w' base v l := own_rd h hg ht (by decide)
theorem rns_two {w : World} (a b : Int) : Rns (w.alloc (.cells #[.int .i32 a, .int .i32 b] 21)) 0 (.slice (some ⟨w.heap.size, 0, none⟩) 2 2) [a, b] :=
 rns_lit (l := [a, b]) (heap_alloc_new w _) (Nat.zero_le _) rfl (by simp)
theorem not_rg {xs : List UInt8} (h : nx xs ≠ 45 ∨ nx (xs.drop 1) = 93) : ¬ ranges xs := fun ⟨a, b⟩ => by
 rcases h with h | h
 ·exact h a
 ·exact b h
set_option maxHeartbeats 16000000 in
set_option maxRecDepth 100000 in
theorem ritem_any (first : Bool) {xs : List UInt8} {rb k : Nat} {w : World} (h : Rd xs rb w k 0) (hk : k ≤ xs.length + 1) (hl : xs.length ≤ 1000000) (h93 : nx (xs.drop k) ≠ 93) : Calls Tryz.prog 143 #[.pointer (some ⟨rb, 0, none⟩), .bool first] w fun e w' => ItP first xs rb k w e w' := by
 have H := Lib.hid h
 have F0 := Lib.hid (Fr.refl rb w)
 have H93 := Lib.hid h93
 obtain ⟨pb, cap, -, c0, c1, c2, f1⟩ := h.cells
 clear h h93
 go_enter Tryz.func143, Tryz.ntmps143
 go_wp2_with fail
 (with_reducible refine (lookz_any H.out _ (k) (by omega) (by omega)).mono ?_)
 rintro e w1 ⟨rfl, hb⟩
 have F1 := Lib.hid (F0.out.then (Fr.of_below hb))
 have h1 := H.out.below hb
 clear hb c0 c1 c2 f1
 obtain ⟨pb1, cap1, -, c01, c11, c21, f11⟩ := h1.cells
 have H1 := Lib.hid h1
 obtain ⟨c, hc⟩ : ∃ c, nx (xs.drop (k)) = c := ⟨_, rfl⟩
 rw [hc]
 have hbc := nx_le (xs.drop (k))
 rw [hc] at hbc
 obtain ⟨hbc1, hbc2⟩ := hbc
 obtain ⟨nc, hnc⟩ : ∃ n : Int, ((nl (xs.drop (k)) : Nat) : Int) = n := ⟨_, rfl⟩
 rw [hnc]
 have Hc := Lib.hid hc
 have Hnc := Lib.hid hnc
 clear h1 hc hnc
 by_cases e1 : c = -1
 ·subst e1
  go_wp2_with fail
  (with_reducible refine (wrongz_any H1.out _ (k) (by omega) (by omega)).mono ?_)
  rintro e w2 ⟨rfl, q2, hq, h2, hf⟩
  have H2 := Lib.hid (And.intro hq (And.intro h2 (F1.out.then hf)))
  clear hq h2 hf c01 c11 c21 f11
  go_wp2_with fail
  go_ret
  exact ⟨none, 0, [], k, q2, rfl, H2.out.2.1, H2.out.2.2, by simp, Rns.nil _ _, fun e => absurd e H2.out.1, fun _ => noitem_neg (by rw [Hc.out]; decide)⟩
 have n1 : (c == -1) = false := by simpa using e1
 by_cases e2 : c = -2
 ·subst e2
  go_wp2_with fail
  (with_reducible refine (wrongz_any H1.out _ (k) (by omega) (by omega)).mono ?_)
  rintro e w2 ⟨rfl, q2, hq, h2, hf⟩
  have H2 := Lib.hid (And.intro hq (And.intro h2 (F1.out.then hf)))
  clear hq h2 hf c01 c11 c21 f11
  go_wp2_with fail
  go_ret
  exact ⟨none, 0, [], k, q2, rfl, H2.out.2.1, H2.out.2.2, by simp, Rns.nil _ _, fun e => absurd e H2.out.1, fun _ => noitem_neg (by rw [Hc.out]; decide)⟩
 have n2 : (c == -2) = false := by simpa using e2
 have hlt := nx_drop_lt (xs := xs) (k := k) (by rw [Hc.out]; omega)
 have hnc : 1 ≤ nc ∧ (k : Int) + nc ≤ xs.length := by have := Hnc.out; omega
 obtain ⟨hnc1, hnc2⟩ := hnc
 have Hlt := Lib.hid hlt
 clear hlt
 have F1s := Lib.hid (fun (z : Int) => F1.out.then (Fr.set rb 1 w1 (.int .i64 z)))
 have H1s := Lib.hid (fun (z : Int) (hz : z = ((k + nl (xs.drop k) : Nat) : Int)) => H1.out.setz (m := k + nl (xs.drop k)) hz (by have := Hlt.out; omega))
 by_cases e45 : c = 45
 ·subst e45
  have hd0 := nx_drop Hc.out (by omega) (by omega)
  have Hd0 := Lib.hid hd0
  have hk1 : k + 1 ≤ xs.length := by have := hd0.1; omega
  obtain rfl : nc = 1 := by have h1 := hd0.2.1; have := Hnc.out; omega
  have H1t := Lib.hid (fun (z : Int) (hz : z = ((k + 1 : Nat) : Int)) => H1.out.setz (m := k + 1) hz (by omega))
  clear hd0
  cases first
  ·skip
   go_wp2_with fail
   (with_reducible refine (lookz_any (H1t.out _ (by omega)) _ (k + 1) (by omega) (by omega)).mono ?_)
   rintro e w2 ⟨rfl, hb⟩
   have F2 := Lib.hid ((F1s.out _).then (Fr.of_below hb))
   have h2 := (H1t.out _ (by omega)).below hb
   clear hb c01 c11 c21 f11
   obtain ⟨pb2, cap2, -, c02, c12, c22, f12⟩ := h2.cells
   have H2 := Lib.hid h2
   obtain ⟨d, hd⟩ : ∃ c, nx (xs.drop (k + 1)) = c := ⟨_, rfl⟩
   rw [hd]
   have Hd := Lib.hid hd
   clear h2 hd
   generalize ((nl (xs.drop (k + 1)) : Nat) : Int) = nd
   by_cases e93 : d = 93
   ·subst e93
    go_wp2_with fail
    go_ret
    refine ⟨_, 2, [45, 45], k + 1, 0, rfl, H2.out.below (alloc_below _ _), F2.out.then (Fr.of_below (alloc_below _ _)), by simp, rns_two 45 45, fun _ => ⟨[(45, 45)], rfl, ?_⟩, fun e => absurd rfl e⟩
    rw [Hd0.out.2.2]
    exact Item.one (Single.dash Hd.out) (not_rg (.inl (by rw [Hd.out]; decide)))
   have n93 : (d != 93) = true := by simpa using e93
   go_wp2_with fail
   (with_reducible refine (wrongz_any H2.out _ (k + 1) (by omega) (by omega)).mono ?_)
   rintro e w3 ⟨rfl, q3, hq, h3, hf⟩
   have H3 := Lib.hid (And.intro hq (And.intro h3 (F2.out.then hf)))
   clear hq h3 hf c02 c12 c22 f12
   go_wp2_with fail
   go_ret
   exact ⟨_, 2, [45, 45], k + 1, q3, rfl, H3.out.2.1.below (alloc_below _ _), H3.out.2.2.then (Fr.of_below (alloc_below _ _)), by simp, rns_two 45 45, fun e => absurd e H3.out.1, fun _ => by rw [Hd0.out.2.2]; exact noitem_dash (by rw [Hd.out]; exact e93)⟩
  ·have Hsg : Hid (Single true (xs.drop k) 45 (xs.drop (k + 1))) := Lib.hid (by rw [Hd0.out.2.2]; exact Single.dash1)
   have hkk : k + 1 ≤ xs.length + 1 := by omega
   obtain ⟨wz, hwz⟩ : ∃ wz, w1.setCell ⟨rb, 1, none⟩ (.int .i64 ((k : Int) + 1)) = wz := ⟨_, rfl⟩
   have hz := H1t.out ((k : Int) + 1) (by omega)
   have fz := F1s.out ((k : Int) + 1)
   rw [hwz] at hz fz
   have Hz := Lib.hid hz
   have Fz := Lib.hid fz
   have Hwz := Lib.hid hwz
   clear hz fz hwz
   go_wp2_with fail
   rw [Hwz.out]
   (with_reducible refine (lookz_any Hz.out _ (k + 1) (by omega) (by omega)).mono ?_)
   rintro e wta ⟨rfl, hb⟩
   have Fta := Lib.hid (Fz.out.then (Fr.of_below hb))
   have hta := Hz.out.below hb
   clear hb
   obtain ⟨pbta, capta, -, c0ta, c1ta, c2ta, f1ta⟩ := hta.cells
   have Hta := Lib.hid hta
   obtain ⟨d, hd⟩ : ∃ c, nx (xs.drop (k + 1)) = c := ⟨_, rfl⟩
   rw [hd]
   have hbd := nx_le (xs.drop (k + 1))
   rw [hd] at hbd
   obtain ⟨hbd1, hbd2⟩ := hbd
   obtain ⟨nd, hnd⟩ : ∃ n : Int, ((nl (xs.drop (k + 1)) : Nat) : Int) = n := ⟨_, rfl⟩
   rw [hnd]
   have Hd := Lib.hid hd
   have Hnd := Lib.hid hnd
   clear hta hd hnd
   go_wp2_with fail
   (with_reducible refine (lookz_any Hta.out _ (k + 1 + 1) (by omega) (by omega)).mono ?_)
   rintro e wtb ⟨rfl, hb⟩
   have Ftb := Lib.hid (Fta.out.then (Fr.of_below hb))
   have htb := Hta.out.below hb
   clear hb c0ta c1ta c2ta f1ta
   obtain ⟨pbtb, captb, -, c0tb, c1tb, c2tb, f1tb⟩ := htb.cells
   have Htb := Lib.hid htb
   obtain ⟨ee, hee⟩ : ∃ c, nx (xs.drop (k + 1 + 1)) = c := ⟨_, rfl⟩
   rw [hee]
   have hbee := nx_le (xs.drop (k + 1 + 1))
   rw [hee] at hbee
   obtain ⟨hbee1, hbee2⟩ := hbee
   obtain ⟨nee, hnee⟩ : ∃ n : Int, ((nl (xs.drop (k + 1 + 1)) : Nat) : Int) = n := ⟨_, rfl⟩
   rw [hnee]
   have Hee := Lib.hid hee
   have Hnee := Lib.hid hnee
   clear htb hee hnee
   by_cases e45 : d = 45
   case neg =>
    have n45 : (d != 45) = true := by simpa using e45
    have Hne := Lib.hid e45
    clear e45
    go_wp2_with fail
    go_ret
    exact ⟨_, 2, [45, 45], k + 1, 0, rfl, Htb.out.below (alloc_below _ _), Ftb.out.then (Fr.of_below (alloc_below _ _)), by simp, rns_two 45 45, fun _ => ⟨[(45, 45)], rfl, Item.one Hsg.out (not_rg (.inl (by rw [Hd.out]; exact Hne.out)))⟩, fun e => absurd rfl e⟩
   subst e45
   have hd1 := nx_drop Hd.out (by omega) (by omega)
   have Hd1 := Lib.hid hd1
   have hkk1 : k + 1 + 1 ≤ xs.length := by have := hd1.1; omega
   clear hd1
   by_cases e93 : ee = 93
   ·subst e93
    go_wp2_with fail
    go_ret
    exact ⟨_, 2, [45, 45], k + 1, 0, rfl, Htb.out.below (alloc_below _ _), Ftb.out.then (Fr.of_below (alloc_below _ _)), by simp, rns_two 45 45, fun _ => ⟨[(45, 45)], rfl, Item.one Hsg.out (not_rg (.inr (by rw [List.drop_drop]; exact Hee.out)))⟩, fun e => absurd rfl e⟩
   have n93 : (ee == 93) = false := by simpa using e93
   have Hn93 := Lib.hid e93
   have Hrg := Lib.hid (show ranges (45 :: xs.drop (k + 1 + 1)) from ⟨by rw [nx_lit _ _ (by decide)]; rfl, by show nx (xs.drop (k + 1 + 1)) ≠ 93; rw [Hee.out]; exact Hn93.out⟩)
   have hsg0 := Hsg.out
   rw [Hd1.out.2.2] at hsg0
   have Hsg2 := Lib.hid (show Single _ (xs.drop k) 45 (45 :: xs.drop (k + 1 + 1)) from hsg0)
   clear hsg0
   clear e93
   go_wp2_with fail
   (with_reducible refine (rsingle_any (k := k + 1 + 1) (Htb.out.setz (by omega) (by omega)) (by omega) hl (by rw [Hee.out]; exact Hn93.out)).mono ?_)
   rintro e wts ⟨y, kts, qts, rfl, hts, hf, ⟨hy1, hy2⟩, hok⟩
   have Hts := Lib.hid hts
   have Fts := Lib.hid ((Ftb.out.then (Fr.set _ _ _ _)).then hf)
   have Hokts := Lib.hid hok
   clear hts hf hok c0tb c1tb c2tb f1tb
   go_wp2_with fail
   (with_reducible refine (good_any Hts.out).mono ?_)
   rintro e w' ⟨rfl, rfl⟩
   by_cases hq : qts = 0
   case neg =>
    have hq' : decide (qts = 0) = false := by simpa using hq
    have Hq := Lib.hid hq
    clear hq
    go_wp2_with fail
    go_ret
    exact ⟨_, 2, [45, y], kts, qts, rfl, Hts.out.below (alloc_below _ _), Fts.out.then (Fr.of_below (alloc_below _ _)), by simp, rns_two 45 y, fun e => absurd e Hq.out, fun h => noitem_two Hsg2.out Hrg.out (.inl (Hokts.out.2 h))⟩
   subst hq
   have Hsy := Lib.hid (Hokts.out.1 rfl)
   clear Hokts
   by_cases hyc : y < 45
   case neg =>
    go_wp2_with fail
    go_ret
    refine ⟨_, 2, [45, y], kts, 0, rfl, Hts.out.below (alloc_below _ _), Fts.out.then (Fr.of_below (alloc_below _ _)), by simp, rns_two 45 y, fun _ => ⟨[(45, y)], rfl, ?_⟩, fun e => absurd rfl e⟩
    have hsg := Hsg.out
    rw [Hd1.out.2.2] at hsg
    refine Item.two hsg ⟨?_, ?_⟩ Hsy.out (by omega)
    ·rw [nx_lit _ _ (by decide)]; rfl
    ·show nx (xs.drop (k + 1 + 1)) ≠ 93; rw [Hee.out]; exact Hn93.out
   go_wp2_with fail
   (with_reducible refine (refplaced_any 120 k wts).mono ?_)
   rintro e wtsf ⟨hh, ll, A, n, q, rfl, hbf⟩
   obtain ⟨old, new, g1, g2, g3, g4, g5⟩ := (Hts.out.below hbf).flt 120 hh ll A n q
   have G1 := Lib.hid g1
   have G2 := Lib.hid g2
   have G3 := Lib.hid g3
   have G4 := Lib.hid g4
   have G5 := Lib.hid ((Fts.out.then (Fr.of_below hbf)).then g5)
   clear g1 g2 g3 g4 g5 hbf
   unfold fltV
   go_wp2_with (refine wpList_store_tail rfl 52 (.tmp 141) (.tmp 139) rfl rfl rb 2 #[.int .i64 120, .int .i64 hh, .int .i64 ll, .slice A n q] new (by simp [Act.eval]) (by simp [Act.eval]) 98 old G1.out infoFault G2.out (flt_one 120 hh ll rfl) G3.out ?_)
   go_ret
   exact ⟨_, 2, [45, y], kts, 120, rfl, G4.out.below (alloc_below _ _), G5.out.then (Fr.of_below (alloc_below _ _)), by simp, (by have h9 := rns_two (w := wtsf.setRow rb new) 45 y; rw [show (wtsf.setRow rb new).heap.size = wtsf.heap.size by simp [World.setRow]] at h9; exact h9), fun e => (by cases e), fun _ => noitem_two Hsg2.out Hrg.out (.inr ⟨y, _, Hsy.out, hyc⟩)⟩
 have n45 : (c == 45) = false := by simpa using e45
 by_cases e92 : c = 92
 case neg =>
  have n92 : (c == 92) = false := by simpa using e92
  have Hsg : Hid (Single first (xs.drop k) c (xs.drop (k + nl (xs.drop k)))) := Lib.hid (by
   have hs := Single.chr (f := first) (xs := xs.drop k) (by rw [Hc.out]; omega) (by rw [Hc.out]; exact e92) H93.out (by rw [Hc.out]; exact e45)
   rw [List.drop_drop] at hs; rw [Hc.out] at hs; exact hs)
  have hkk : k + nl (xs.drop k) ≤ xs.length + 1 := by have := Hlt.out; omega
  clear e92 e45 e1 e2
  obtain ⟨wz, hwz⟩ : ∃ wz, w1.setCell ⟨rb, 1, none⟩ (.int .i64 ((k : Int) + nc)) = wz := ⟨_, rfl⟩
  have hz := H1s.out ((k : Int) + nc) (by have := Hnc.out; omega)
  have fz := F1s.out ((k : Int) + nc)
  rw [hwz] at hz fz
  have Hz := Lib.hid hz
  have Fz := Lib.hid fz
  have Hwz := Lib.hid hwz
  clear hz fz hwz
  obtain ⟨kk, hkke⟩ : ∃ kk, k + nl (xs.drop k) = kk := ⟨_, rfl⟩
  rw [hkke] at Hz Hsg hkk
  have hkk3 : (k : Int) + nc ≤ kk := by have := Hnc.out; omega
  have hkk4 : (kk : Int) ≤ k + nc := by have := Hnc.out; omega
  clear hkke
  go_wp2_with fail
  rw [Hwz.out]
  (with_reducible refine (lookz_any Hz.out _ (kk) (by omega) (by omega)).mono ?_)
  rintro e wta ⟨rfl, hb⟩
  have Fta := Lib.hid (Fz.out.then (Fr.of_below hb))
  have hta := Hz.out.below hb
  clear hb
  obtain ⟨pbta, capta, -, c0ta, c1ta, c2ta, f1ta⟩ := hta.cells
  have Hta := Lib.hid hta
  obtain ⟨d, hd⟩ : ∃ c, nx (xs.drop (kk)) = c := ⟨_, rfl⟩
  rw [hd]
  have hbd := nx_le (xs.drop (kk))
  rw [hd] at hbd
  obtain ⟨hbd1, hbd2⟩ := hbd
  obtain ⟨nd, hnd⟩ : ∃ n : Int, ((nl (xs.drop (kk)) : Nat) : Int) = n := ⟨_, rfl⟩
  rw [hnd]
  have Hd := Lib.hid hd
  have Hnd := Lib.hid hnd
  clear hta hd hnd
  go_wp2_with fail
  (with_reducible refine (lookz_any Hta.out _ (kk + 1) (by omega) (by omega)).mono ?_)
  rintro e wtb ⟨rfl, hb⟩
  have Ftb := Lib.hid (Fta.out.then (Fr.of_below hb))
  have htb := Hta.out.below hb
  clear hb c0ta c1ta c2ta f1ta
  obtain ⟨pbtb, captb, -, c0tb, c1tb, c2tb, f1tb⟩ := htb.cells
  have Htb := Lib.hid htb
  obtain ⟨ee, hee⟩ : ∃ c, nx (xs.drop (kk + 1)) = c := ⟨_, rfl⟩
  rw [hee]
  have hbee := nx_le (xs.drop (kk + 1))
  rw [hee] at hbee
  obtain ⟨hbee1, hbee2⟩ := hbee
  obtain ⟨nee, hnee⟩ : ∃ n : Int, ((nl (xs.drop (kk + 1)) : Nat) : Int) = n := ⟨_, rfl⟩
  rw [hnee]
  have Hee := Lib.hid hee
  have Hnee := Lib.hid hnee
  clear htb hee hnee
  by_cases e45 : d = 45
  case neg =>
   have n45 : (d != 45) = true := by simpa using e45
   have Hne := Lib.hid e45
   clear e45
   go_wp2_with fail
   go_ret
   exact ⟨_, 2, [c, c], kk, 0, rfl, Htb.out.below (alloc_below _ _), Ftb.out.then (Fr.of_below (alloc_below _ _)), by simp, rns_two c c, fun _ => ⟨[(c, c)], rfl, Item.one Hsg.out (not_rg (.inl (by rw [Hd.out]; exact Hne.out)))⟩, fun e => absurd rfl e⟩
  subst e45
  have hd1 := nx_drop Hd.out (by omega) (by omega)
  have Hd1 := Lib.hid hd1
  have hkk1 : kk + 1 ≤ xs.length := by have := hd1.1; omega
  clear hd1
  by_cases e93 : ee = 93
  ·subst e93
   go_wp2_with fail
   go_ret
   exact ⟨_, 2, [c, c], kk, 0, rfl, Htb.out.below (alloc_below _ _), Ftb.out.then (Fr.of_below (alloc_below _ _)), by simp, rns_two c c, fun _ => ⟨[(c, c)], rfl, Item.one Hsg.out (not_rg (.inr (by rw [List.drop_drop]; exact Hee.out)))⟩, fun e => absurd rfl e⟩
  have n93 : (ee == 93) = false := by simpa using e93
  have Hn93 := Lib.hid e93
  have Hrg := Lib.hid (show ranges (45 :: xs.drop (kk + 1)) from ⟨by rw [nx_lit _ _ (by decide)]; rfl, by show nx (xs.drop (kk + 1)) ≠ 93; rw [Hee.out]; exact Hn93.out⟩)
  have hsg0 := Hsg.out
  rw [Hd1.out.2.2] at hsg0
  have Hsg2 := Lib.hid (show Single _ (xs.drop k) c (45 :: xs.drop (kk + 1)) from hsg0)
  clear hsg0
  clear e93
  go_wp2_with fail
  (with_reducible refine (rsingle_any (k := kk + 1) (Htb.out.setz (by omega) (by omega)) (by omega) hl (by rw [Hee.out]; exact Hn93.out)).mono ?_)
  rintro e wts ⟨y, kts, qts, rfl, hts, hf, ⟨hy1, hy2⟩, hok⟩
  have Hts := Lib.hid hts
  have Fts := Lib.hid ((Ftb.out.then (Fr.set _ _ _ _)).then hf)
  have Hokts := Lib.hid hok
  clear hts hf hok c0tb c1tb c2tb f1tb
  go_wp2_with fail
  (with_reducible refine (good_any Hts.out).mono ?_)
  rintro e w' ⟨rfl, rfl⟩
  by_cases hq : qts = 0
  case neg =>
   have hq' : decide (qts = 0) = false := by simpa using hq
   have Hq := Lib.hid hq
   clear hq
   go_wp2_with fail
   go_ret
   exact ⟨_, 2, [c, y], kts, qts, rfl, Hts.out.below (alloc_below _ _), Fts.out.then (Fr.of_below (alloc_below _ _)), by simp, rns_two c y, fun e => absurd e Hq.out, fun h => noitem_two Hsg2.out Hrg.out (.inl (Hokts.out.2 h))⟩
  subst hq
  have Hsy := Lib.hid (Hokts.out.1 rfl)
  clear Hokts
  by_cases hyc : y < c
  case neg =>
   go_wp2_with fail
   go_ret
   refine ⟨_, 2, [c, y], kts, 0, rfl, Hts.out.below (alloc_below _ _), Fts.out.then (Fr.of_below (alloc_below _ _)), by simp, rns_two c y, fun _ => ⟨[(c, y)], rfl, ?_⟩, fun e => absurd rfl e⟩
   have hsg := Hsg.out
   rw [Hd1.out.2.2] at hsg
   refine Item.two hsg ⟨?_, ?_⟩ Hsy.out (by omega)
   ·rw [nx_lit _ _ (by decide)]; rfl
   ·show nx (xs.drop (kk + 1)) ≠ 93; rw [Hee.out]; exact Hn93.out
  go_wp2_with fail
  (with_reducible refine (refplaced_any 120 k wts).mono ?_)
  rintro e wtsf ⟨hh, ll, A, n, q, rfl, hbf⟩
  obtain ⟨old, new, g1, g2, g3, g4, g5⟩ := (Hts.out.below hbf).flt 120 hh ll A n q
  have G1 := Lib.hid g1
  have G2 := Lib.hid g2
  have G3 := Lib.hid g3
  have G4 := Lib.hid g4
  have G5 := Lib.hid ((Fts.out.then (Fr.of_below hbf)).then g5)
  clear g1 g2 g3 g4 g5 hbf
  unfold fltV
  go_wp2_with (refine wpList_store_tail rfl 52 (.tmp 141) (.tmp 139) rfl rfl rb 2 #[.int .i64 120, .int .i64 hh, .int .i64 ll, .slice A n q] new (by simp [Act.eval]) (by simp [Act.eval]) 98 old G1.out infoFault G2.out (flt_one 120 hh ll rfl) G3.out ?_)
  go_ret
  exact ⟨_, 2, [c, y], kts, 120, rfl, G4.out.below (alloc_below _ _), G5.out.then (Fr.of_below (alloc_below _ _)), by simp, (by have h9 := rns_two (w := wtsf.setRow rb new) c y; rw [show (wtsf.setRow rb new).heap.size = wtsf.heap.size by simp [World.setRow]] at h9; exact h9), fun e => (by cases e), fun _ => noitem_two Hsg2.out Hrg.out (.inr ⟨y, _, Hsy.out, hyc⟩)⟩
 subst e92
 have hd0 := nx_drop Hc.out (by omega) (by omega)
 have Hd0 := Lib.hid hd0
 have hk1 : k + 1 ≤ xs.length := by have := hd0.1; omega
 obtain rfl : nc = 1 := by have h1 := hd0.2.1; have := Hnc.out; omega
 have H1t := Lib.hid (fun (z : Int) (hz : z = ((k + 1 : Nat) : Int)) => H1.out.setz (m := k + 1) hz (by omega))
 clear hd0
 go_wp2_with fail
 (with_reducible refine (rescape_any (k := k + 1) (H1t.out _ (by omega)) (by omega) hl).mono ?_)
 rintro e w3 ⟨x, A, n, q, b, k3, q3, rfl, h3, hf3, ⟨hx1, hx2⟩, hb, hnb, hok⟩
 have H3 := Lib.hid h3
 have F3 := Lib.hid ((F1s.out _).then hf3)
 have Hb := Lib.hid hb
 have Hok := Lib.hid hok
 have hk3 := h3.le
 have Hnb := Lib.hid hnb
 clear h3 hf3 hb hok hnb c01 c11 c21 f11
 cases b
 case true =>
  obtain rfl := Hb.out rfl
  obtain ⟨L, hL, hr⟩ : ∃ L, EscS (xs.drop (k + 1)) L (xs.drop k3) ∧ Rns w3 0 (.slice A n q) (flatS L) := by
   rcases Hok.out.1 rfl with ⟨h, _⟩ | ⟨_, h⟩
   ·cases h
   ·exact h
  obtain rfl : n = (flatS L).length := by obtain ⟨_, _, e, _⟩ := ownsRow_slice hr; exact (Value.slice.inj e).2.1
  have HL := Lib.hid hL
  have Hr := Lib.hid hr
  clear hL hr
  go_wp2_with fail
  go_ret
  exact ⟨A, q, flatS L, k3, 0, rfl, H3.out, F3.out, by rw [flatS_len]; have := HL.out.ok.2; omega, Hr.out, fun _ => ⟨L, rfl, by rw [Hd0.out.2.2]; exact Item.cls HL.out⟩, fun e => absurd rfl e⟩
 obtain ⟨rfl, rfl, rfl⟩ := Hnb.out rfl
 go_wp2_with fail
 (with_reducible refine (good_any H3.out).mono ?_)
 rintro e w' ⟨rfl, rfl⟩
 by_cases hq : q3 = 0
 case neg =>
  have hq' : decide (q3 = 0) = false := by simpa using hq
  have Hq := Lib.hid hq
  clear hq
  go_wp2_with fail
  go_ret
  exact ⟨none, 0, [], k3, q3, rfl, H3.out, F3.out, by simp, Rns.nil _ _, fun e => absurd e Hq.out, fun h => by rw [Hd0.out.2.2]; exact noitem_esc (Hok.out.2 h).1 (Hok.out.2 h).2⟩
 subst hq
 have Hsg : Hid (Single first (xs.drop k) x (xs.drop k3)) := Lib.hid (by
  rcases Hok.out.1 rfl with ⟨_, h⟩ | ⟨h, _⟩
  ·rw [Hd0.out.2.2]; exact Single.esc h
  ·cases h)
 obtain ⟨pb3, cap3, -, c03, c13, c23, f13⟩ := H3.out.cells
 go_wp2_with fail
 (with_reducible refine (lookz_any H3.out _ (k3) (by omega) (by omega)).mono ?_)
 rintro e wua ⟨rfl, hb⟩
 have Fua := Lib.hid (F3.out.then (Fr.of_below hb))
 have hua := H3.out.below hb
 clear hb c03 c13 c23 f13
 obtain ⟨pbua, capua, -, c0ua, c1ua, c2ua, f1ua⟩ := hua.cells
 have Hua := Lib.hid hua
 obtain ⟨d, hd⟩ : ∃ c, nx (xs.drop (k3)) = c := ⟨_, rfl⟩
 rw [hd]
 have hbd := nx_le (xs.drop (k3))
 rw [hd] at hbd
 obtain ⟨hbd1, hbd2⟩ := hbd
 obtain ⟨nd, hnd⟩ : ∃ n : Int, ((nl (xs.drop (k3)) : Nat) : Int) = n := ⟨_, rfl⟩
 rw [hnd]
 have Hd := Lib.hid hd
 have Hnd := Lib.hid hnd
 clear hua hd hnd
 go_wp2_with fail
 (with_reducible refine (lookz_any Hua.out _ (k3 + 1) (by omega) (by omega)).mono ?_)
 rintro e wub ⟨rfl, hb⟩
 have Fub := Lib.hid (Fua.out.then (Fr.of_below hb))
 have hub := Hua.out.below hb
 clear hb c0ua c1ua c2ua f1ua
 obtain ⟨pbub, capub, -, c0ub, c1ub, c2ub, f1ub⟩ := hub.cells
 have Hub := Lib.hid hub
 obtain ⟨ee, hee⟩ : ∃ c, nx (xs.drop (k3 + 1)) = c := ⟨_, rfl⟩
 rw [hee]
 have hbee := nx_le (xs.drop (k3 + 1))
 rw [hee] at hbee
 obtain ⟨hbee1, hbee2⟩ := hbee
 obtain ⟨nee, hnee⟩ : ∃ n : Int, ((nl (xs.drop (k3 + 1)) : Nat) : Int) = n := ⟨_, rfl⟩
 rw [hnee]
 have Hee := Lib.hid hee
 have Hnee := Lib.hid hnee
 clear hub hee hnee
 by_cases e45 : d = 45
 case neg =>
  have n45 : (d != 45) = true := by simpa using e45
  have Hne := Lib.hid e45
  clear e45
  go_wp2_with fail
  go_ret
  exact ⟨_, 2, [x, x], k3, 0, rfl, Hub.out.below (alloc_below _ _), Fub.out.then (Fr.of_below (alloc_below _ _)), by simp, rns_two x x, fun _ => ⟨[(x, x)], rfl, Item.one Hsg.out (not_rg (.inl (by rw [Hd.out]; exact Hne.out)))⟩, fun e => absurd rfl e⟩
 subst e45
 have hd1 := nx_drop Hd.out (by omega) (by omega)
 have Hd1 := Lib.hid hd1
 have hkk1 : k3 + 1 ≤ xs.length := by have := hd1.1; omega
 clear hd1
 by_cases e93 : ee = 93
 ·subst e93
  go_wp2_with fail
  go_ret
  exact ⟨_, 2, [x, x], k3, 0, rfl, Hub.out.below (alloc_below _ _), Fub.out.then (Fr.of_below (alloc_below _ _)), by simp, rns_two x x, fun _ => ⟨[(x, x)], rfl, Item.one Hsg.out (not_rg (.inr (by rw [List.drop_drop]; exact Hee.out)))⟩, fun e => absurd rfl e⟩
 have n93 : (ee == 93) = false := by simpa using e93
 have Hn93 := Lib.hid e93
 have Hrg := Lib.hid (show ranges (45 :: xs.drop (k3 + 1)) from ⟨by rw [nx_lit _ _ (by decide)]; rfl, by show nx (xs.drop (k3 + 1)) ≠ 93; rw [Hee.out]; exact Hn93.out⟩)
 have hsg0 := Hsg.out
 rw [Hd1.out.2.2] at hsg0
 have Hsg2 := Lib.hid (show Single _ (xs.drop k) x (45 :: xs.drop (k3 + 1)) from hsg0)
 clear hsg0
 clear e93
 go_wp2_with fail
 (with_reducible refine (rsingle_any (k := k3 + 1) (Hub.out.setz (by omega) (by omega)) (by omega) hl (by rw [Hee.out]; exact Hn93.out)).mono ?_)
 rintro e wus ⟨y, kus, qus, rfl, hus, hf, ⟨hy1, hy2⟩, hok⟩
 have Hus := Lib.hid hus
 have Fus := Lib.hid ((Fub.out.then (Fr.set _ _ _ _)).then hf)
 have Hokus := Lib.hid hok
 clear hus hf hok c0ub c1ub c2ub f1ub
 go_wp2_with fail
 (with_reducible refine (good_any Hus.out).mono ?_)
 rintro e w' ⟨rfl, rfl⟩
 by_cases hq : qus = 0
 case neg =>
  have hq' : decide (qus = 0) = false := by simpa using hq
  have Hq := Lib.hid hq
  clear hq
  go_wp2_with fail
  go_ret
  exact ⟨_, 2, [x, y], kus, qus, rfl, Hus.out.below (alloc_below _ _), Fus.out.then (Fr.of_below (alloc_below _ _)), by simp, rns_two x y, fun e => absurd e Hq.out, fun h => noitem_two Hsg2.out Hrg.out (.inl (Hokus.out.2 h))⟩
 subst hq
 have Hsy := Lib.hid (Hokus.out.1 rfl)
 clear Hokus
 by_cases hyc : y < x
 case neg =>
  go_wp2_with fail
  go_ret
  refine ⟨_, 2, [x, y], kus, 0, rfl, Hus.out.below (alloc_below _ _), Fus.out.then (Fr.of_below (alloc_below _ _)), by simp, rns_two x y, fun _ => ⟨[(x, y)], rfl, ?_⟩, fun e => absurd rfl e⟩
  have hsg := Hsg.out
  rw [Hd1.out.2.2] at hsg
  refine Item.two hsg ⟨?_, ?_⟩ Hsy.out (by omega)
  ·rw [nx_lit _ _ (by decide)]; rfl
  ·show nx (xs.drop (k3 + 1)) ≠ 93; rw [Hee.out]; exact Hn93.out
 go_wp2_with fail
 (with_reducible refine (refplaced_any 120 k wus).mono ?_)
 rintro e wusf ⟨hh, ll, A, n, q, rfl, hbf⟩
 obtain ⟨old, new, g1, g2, g3, g4, g5⟩ := (Hus.out.below hbf).flt 120 hh ll A n q
 have G1 := Lib.hid g1
 have G2 := Lib.hid g2
 have G3 := Lib.hid g3
 have G4 := Lib.hid g4
 have G5 := Lib.hid ((Fus.out.then (Fr.of_below hbf)).then g5)
 clear g1 g2 g3 g4 g5 hbf
 unfold fltV
 go_wp2_with (refine wpList_store_tail rfl 52 (.tmp 141) (.tmp 139) rfl rfl rb 2 #[.int .i64 120, .int .i64 hh, .int .i64 ll, .slice A n q] new (by simp [Act.eval]) (by simp [Act.eval]) 98 old G1.out infoFault G2.out (flt_one 120 hh ll rfl) G3.out ?_)
 go_ret
 exact ⟨_, 2, [x, y], kus, 120, rfl, G4.out.below (alloc_below _ _), G5.out.then (Fr.of_below (alloc_below _ _)), by simp, (by have h9 := rns_two (w := wusf.setRow rb new) x y; rw [show (wusf.setRow rb new).heap.size = wusf.heap.size by simp [World.setRow]] at h9; exact h9), fun e => (by cases e), fun _ => noitem_two Hsg2.out Hrg.out (.inr ⟨y, _, Hsy.out, hyc⟩)⟩
theorem run_append_none {t e : TypeId} {z : Value} {k B : Nat} (E : ElemK t e z k B) (w : World) (base : Nat) (ty : TypeId) (v : Value) (n : Nat) (xs : List Value) (hown : w.ownsRow base e k v n xs) (c : Nat) :
  (Builtin.append_ #[t, t] ty #[v, .slice none 0 c]).run Tryz.prog w = .ok v w := by
 obtain ⟨i0, hi, hz0, hz1, hz2⟩ := info_parts E.hi
 rcases hown.2 with ⟨rfl, rfl⟩ | ⟨g, cap, cur, rfl, _, _, hnc, _⟩
 ·simp [Builtin.append_, run_underlying E.ht, sizeOf, typeInfo, hi, Builtin.lenOf, Builtin.firstCells]
 ·simp [Builtin.append_, run_underlying E.ht, sizeOf, typeInfo, hi, Builtin.lenOf, Builtin.firstCells, hnc, storeCells]
theorem wpList_append_none {t e : TypeId} {z : Value} {k B : Nat} (E : ElemK t e z k B) {ops : Array Oper} {rest : List Oper} {o : Oper} {a : Act} {Q : Exit → Act → World → Prop} {w : World} (hgd : o.guard = none) (s x : Operand)
  (ho : o.op = .call { callee := .builtin .append, args := #[s, x], argTypes := #[t, t] }) (base : Nat) (v : Value) (n : Nat) (us : List Value) (hs : a.eval s = v) (hown : w.ownsRow base e k v n us) (c : Nat) (hx : a.eval x = .slice none 0 c)
  (h : wpList Tryz.prog ops Q rest (a.put o.dst v) w) : wpList Tryz.prog ops Q (o :: rest) a w :=
 wpList_plain hgd fun _ hK => by
  unfold Oper.wp execOp
  simp only [ho, resolve, invoke, builtin, Sem.run_bind, Sem.run_pure, Result.andThen_ok, List.map_toArray, List.map_cons, List.map_nil, hs, hx, run_append_none E w base _ v n us hown c]
  exact hK _ _ h
theorem take_next {α : Type} {l : List α} {i : Nat} {a : α} (h : l[i]? = some a) : l.take (i + 1) = l.take i ++ [a] := by rw [List.take_add_one, h]; rfl
theorem Rns.slk {w : World} {base : Nat} {v : Value} {l : List Int} (h : Rns w base v l) : SlK 1 w v l.length (l.map runeV) := SlK.of_own h
theorem rns_take {w : World} {base g n q : Nat} {l : List Int} (h : Rns w base (.slice (some ⟨g, 0, none⟩) n q) l) (k : Nat) (hk : k ≤ l.length) (c : Nat) (hc : k ≤ c) : SlK 1 w (.slice (some ⟨g, 0, none⟩) k c) k ((l.take k).map runeV) := by
 obtain ⟨_, _, e, _, hm, _⟩ := ownsRow_slice h
 obtain ⟨_, rfl, _⟩ := Value.slice.inj e
 refine ⟨by simp; omega, by unfold maxLen at hm; omega, _, _, rfl, hc, fun _ => ⟨g, 0, rfl, fun i u hu => ?_⟩⟩
 have hi : i < k := by have := (List.getElem?_eq_some_iff.1 hu).1; simp at this; omega
 rw [Nat.zero_add, ownsRow_cell h rfl i (by omega)]
 rw [← hu, List.getElem?_map, List.getElem?_map, List.getElem?_take, if_pos hi]
theorem rns_drop {w : World} {base g n q : Nat} {l : List Int} (h : Rns w base (.slice (some ⟨g, 0, none⟩) n q) l) (k : Nat) (hk : k ≤ l.length) (c : Nat) (hc : l.length - k ≤ c) : SlK 1 w (.slice (some ⟨g, k, none⟩) (l.length - k) c) (l.length - k) ((l.drop k).map runeV) := by
 obtain ⟨_, _, e, _, hm, _⟩ := ownsRow_slice h
 obtain ⟨_, rfl, _⟩ := Value.slice.inj e
 refine ⟨by simp, by unfold maxLen at hm; omega, _, _, rfl, hc, fun _ => ⟨g, k, rfl, fun i u hu => ?_⟩⟩
 have hi : i < l.length - k := by have := (List.getElem?_eq_some_iff.1 hu).1; simp at this; omega
 rw [ownsRow_cell h rfl (k + i) (by omega)]
 rw [← hu, List.getElem?_map, List.getElem?_map, List.getElem?_drop]
theorem rns_empty (w : World) (ad : Addr) (c : Nat) : SlK 1 w (.slice (some ad) 0 c) 0 [] := ⟨rfl, Nat.zero_le _, _, _, rfl, Nat.zero_le _, fun h => by omega⟩
theorem flatS_take (L : Spans) (j : Nat) : flatS (L.take j) = (flatS L).take (2 * j) := by
 induction L generalizing j with
 | nil => simp [flatS]
 | cons x L ih =>
  obtain ⟨a, b⟩ := x
  cases j with
  | zero => simp [flatS]
  | succ j => rw [show 2 * (j + 1) = 2 * j + 1 + 1 by omega]; simp [flatS, ih]
theorem flatS_drop (L : Spans) (j : Nat) : flatS (L.drop j) = (flatS L).drop (2 * j) := by
 induction L generalizing j with
 | nil => simp [flatS]
 | cons x L ih =>
  obtain ⟨a, b⟩ := x
  cases j with
  | zero => simp
  | succ j => rw [show 2 * (j + 1) = 2 * j + 1 + 1 by omega]; simp [flatS, ih]
def PlP (w : World) (L : Spans) (a b : Int) (e : Ending) (w' : World) : Prop := ∃ j : Nat, j ≤ L.length ∧ (∀ p ∈ L.take j, p.1 < a) ∧ (∀ p, L[j]? = some p → a ≤ p.1) ∧ RnsP w (flatS (L.take j ++ (a, b) :: L.drop j)) e w'
def PlRel (w : World) (L : Spans) (a : Int) (s7 : Value) (wr : World) : Prop := ∃ j : Nat, j ≤ L.length ∧ s7 = .int .i64 ((2 * j : Nat) : Int) ∧ (∀ p ∈ L.take j, p.1 < a) ∧ w = wr
set_option maxHeartbeats 4000000 in
set_option maxRecDepth 100000 in
theorem rplaced_nil {w : World} (a b : Int) : Calls Tryz.prog 166 #[.slice none 0 0, .int .i32 a, .int .i32 b] w fun e w' => PlP w [] a b e w' := by
 go_enter Tryz.func166, Tryz.ntmps166
 go_wp2_with fail
 go_loopw [7] (fun s7 wr => s7 = .int .i64 0 ∧ w = wr) (fun _ _ => 0)
 case atStart => exact ⟨rfl, rfl⟩
 case round =>
  obtain ⟨rfl, rfl⟩ := hrel
  have Ho := Lib.hid (ownsRow_made (k := 1) (cap := 0) (heap_alloc_new w (.cells #[] 21)) (Nat.le_refl _) (by unfold maxLen; omega) (by rfl))
  have Hoa := Lib.hid (Ho.out.below' (alloc_below _ (.cells #[.int .i32 a, .int .i32 b] 21)))
  have Hcn := Lib.hid (cells_new (w.alloc (.cells #[] 21)) [.int .i32 a, .int .i32 b] 21)
  rw [World.size_alloc] at Hcn
  go_wp2_with (first
   | (at_builtin; refine wpList_append_k elRune rfl (.tmp 28) (.tmp 31) rfl w.heap.size (.slice (some ⟨w.heap.size, 0, none⟩) 0 0) 0 (w.heap.size + 1) 2 2 [] [.int .i32 a, .int .i32 b] (by simp [Act.eval]) Hoa.out (by simp [Act.eval]) rfl Hcn.out (by simp [Value.oneCell']) (by unfold maxLen; omega) (by omega) (by simp; omega) ?_; intro v' w5 h1 h2 h3; obtain ⟨A5, q5, rfl, -, -, hA5⟩ := ownsRow_slice h1; obtain ⟨g5, rfl⟩ := hA5 (by omega); clear hA5; have Hp := Lib.hid (show w5.ownsRow w.heap.size 21 1 (.slice (some ⟨g5, 0, none⟩) 2 q5) 2 ([] ++ [.int .i32 a, .int .i32 b]) from h1); have Hb5 : Hid (Below w.heap.size w w5) := Lib.hid (own_below (((Below.refl _ w).alloc (Nat.le_refl _) _).alloc (by simp) _) Hoa.out (by simp; omega) h2); clear h1 h2 h3)
   | (at_builtin; refine wpList_append_none elRune rfl (.tmp 33) (.tmp 36) rfl w.heap.size (.slice (some ⟨g5, 0, none⟩) 2 q5) 2 _ (by simp [Act.eval]) Hp.out 0 (by simp [Act.eval]) ?_))
  go_ret
  exact ⟨0, Nat.le_refl _, by simp, by simp, _, q5, rfl, Hb5.out, Hp.out⟩
set_option maxHeartbeats 8000000 in
set_option maxRecDepth 100000 in
theorem rplaced_some {w : World} {g q : Nat} {L : Spans} (h : Rns w 0 (.slice (some ⟨g, 0, none⟩) (2 * L.length) q) (flatS L)) (hl : L.length ≤ 100000) (a b : Int) (hb : ∀ p ∈ L, -10 ≤ p.1 ∧ p.1 ≤ 1114120) : Calls Tryz.prog 166 #[.slice (some ⟨g, 0, none⟩) ((2 * L.length : Nat)) q, .int .i32 a, .int .i32 b] w fun e w' => PlP w L a b e w' := by
 obtain ⟨_, _, e, hq, _, _⟩ := ownsRow_slice h
 obtain ⟨rfl, -, rfl⟩ := Value.slice.inj e
 rw [flatS_len] at hq
 have H := Lib.hid h
 have Hb := Lib.hid hb
 have hgw : g < w.heap.size := by obtain ⟨_, _, h2⟩ := ownsRow_block h (g := g) rfl; exact lt_of_heap h2
 clear h hb e
 go_enter Tryz.func166, Tryz.ntmps166
 go_wp2_with fail
 go_loopw [7] (fun s7 wr => PlRel w L a s7 wr) (fun v _ => 2 * L.length - (intOf v).toNat)
 case atStart => exact ⟨0, Nat.zero_le _, rfl, by simp, rfl⟩
 case round =>
  obtain ⟨j, hj, rfl, hlow, rfl⟩ := hrel
  have Hlow := Lib.hid hlow
  clear hlow
  have hend : (∀ p, L[j]? = some p → a ≤ p.1) → True := fun _ => trivial
  clear hend
  have hcond : (j < L.length ∧ (∃ x, L[j]? = some x ∧ x.1 < a)) ∨ (∀ p, L[j]? = some p → a ≤ p.1) := by
   cases hx : L[j]? with
   | none => exact .inr (by simp)
   | some x =>
    by_cases hxa : x.1 < a
    ·exact .inl ⟨(List.getElem?_eq_some_iff.1 hx).1, x, rfl, hxa⟩
    ·exact .inr (fun p hp => by cases hp; omega)
  rcases hcond with ⟨hlt, ⟨x1, x2⟩, hx, hxa⟩ | hge
  ·obtain ⟨ga, -⟩ := flatS_get L j x1 x2 hx
   have hrow := H.out
   unfold Rns at hrow
   rw [flatS_len] at hrow
   have ca := ownsRow_cell hrow rfl (2 * j) (by omega)
   rw [List.getElem?_map, ga] at ca
   simp only [Option.map_some, runeV] at ca
   have h2j : ((2 * j : Nat) : Int) < ((2 * L.length : Nat) : Int) := by omega
   have Hn := Lib.hid (show ∀ p ∈ L.take (j + 1), p.1 < a by rw [take_next hx]; intro p hp; rcases List.mem_append.1 hp with h | h; (· exact Hlow.out p h); (· simp at h; subst h; exact hxa))
   clear ga hrow hx
   go_wp2_with fail
   exact ⟨⟨j + 1, by omega, by go_num, Hn.out, rfl⟩, by simp [intOf]; omega⟩
  ·have Hge := Lib.hid hge
   clear hge
   have Ho := Lib.hid (ownsRow_made (k := 1) (cap := 0) (heap_alloc_new w (.cells #[] 21)) (Nat.le_refl _) (by unfold maxLen; omega) (by rfl))
   have hb1 := alloc_below w (.cells #[] 21)
   have Hs1 := Lib.hid (rns_take (H.out.below hb1) (2 * j) (by rw [flatS_len]; omega) q (by omega))
   have Htk := Lib.hid (flatS_take L j)
   have Hdr := Lib.hid (flatS_drop L j)
   have Hfl := Lib.hid (flatS_len L)
   have hjl : ((2 * j : Nat) : Int) ≤ ((2 * L.length : Nat) : Int) := by omega
   have hcnd : ((2 * j : Nat) : Int) < ((2 * L.length : Nat) : Int) → ∃ x : Int, w.cell? ⟨g, 2 * j, none⟩ = some (.int .i32 x) ∧ a ≤ x := by
    intro h
    obtain ⟨⟨x1, x2⟩, hx⟩ : ∃ x, L[j]? = some x := ⟨_, List.getElem?_eq_getElem (by omega)⟩
    obtain ⟨ga, -⟩ := flatS_get L j x1 x2 hx
    have hrow := H.out
    unfold Rns at hrow
    rw [flatS_len] at hrow
    have ca := ownsRow_cell hrow rfl (2 * j) (by omega)
    rw [List.getElem?_map, ga] at ca
    exact ⟨x1, ca, Hge.out _ hx⟩
   have Hcnd := Lib.hid hcnd
   clear hcnd hb1
   have fin : ∀ (ad : Addr) (cc : Nat), True := fun _ _ => trivial
   clear fin
   have HS2 : Hid (∀ w2, Below w.heap.size w w2 → SlK 1 w2 (.slice (some ⟨g, 2 * j, none⟩) (2 * L.length - 2 * j) (q - 2 * j)) (2 * L.length - 2 * j) (((flatS L).drop (2 * j)).map runeV)) := Lib.hid (by
    intro w2 hb2
    have := rns_drop (H.out.below hb2) (2 * j) (by rw [flatS_len]; omega) (q - 2 * j) (by rw [flatS_len]; omega)
    rw [flatS_len] at this
    exact this)
   by_cases hlt : ((2 * j : Nat) : Int) < ((2 * L.length : Nat) : Int)
   ·obtain ⟨x, hx, hax⟩ := Hcnd.out hlt
    have Hcn := Lib.hid (fun w3 => cells_new w3 [.int .i32 a, .int .i32 b] 21)
    go_wp2_with (first
     | (at_builtin; refine wpList_append_sl elRune rfl (.tmp 23) (.tmp 26) rfl w.heap.size (.slice (some ⟨w.heap.size, 0, none⟩) 0 0) 0 ⟨g, 0, none⟩ q (2 * j) [] (((flatS L).take (2 * j)).map runeV) (by simp [Act.eval]) Ho.out (by simp [Act.eval]) Hs1.out (runeVs_one _) (by unfold maxLen; omega) (by omega) (by simp) ?_; intro v1 w3 h1 h2 h3; rw [Nat.zero_add, List.nil_append] at h1; obtain ⟨A1, q1, rfl, -, -, -⟩ := ownsRow_slice h1; have hb3 := own_below (alloc_below w _) Ho.out (by simp) h2; have hsz3 := hb3.size; have Hb4 := Lib.hid (hb3.alloc hsz3 (.cells #[.int .i32 a, .int .i32 b] 21)); have Hoa := Lib.hid (h1.below' (alloc_below w3 (.cells #[.int .i32 a, .int .i32 b] 21))); clear h1 h2 h3 hb3)
     | (at_builtin; refine wpList_append_k elRune rfl (.tmp 28) (.tmp 31) rfl w.heap.size (.slice A1 (2 * j) q1) (2 * j) w3.heap.size 2 2 (((flatS L).take (2 * j)).map runeV) [.int .i32 a, .int .i32 b] (by simp [Act.eval]) Hoa.out (by simp [Act.eval]) rfl (Hcn.out w3) (by simp [Value.oneCell']) (by unfold maxLen; omega) (by omega) (by simp; omega) ?_; intro v5 w5 h1 h2 h3; obtain ⟨A5, q5, rfl, -, -, hA5⟩ := ownsRow_slice h1; obtain ⟨g5, rfl⟩ := hA5 (by omega); clear hA5; have hb5 := own_below Hb4.out Hoa.out Hb4.out.size h2; have hsz5 := hb5.size; have Hb5 := Lib.hid hb5; have Ho5 := Lib.hid h1; clear h1 h2 h3 hb5)
     | (at_builtin; refine wpList_append_sl elRune rfl (.tmp 33) (.tmp 36) rfl w.heap.size (.slice (some ⟨g5, 0, none⟩) (2 * j + 2) q5) (2 * j + 2) ⟨g, 2 * j, none⟩ (q - 2 * j) (2 * L.length - 2 * j) _ (((flatS L).drop (2 * j)).map runeV) (by simp [Act.eval]) Ho5.out (by simp [Act.eval]) (HS2.out _ Hb5.out) (runeVs_one _) (by unfold maxLen; omega) (by omega) hsz5 ?_; intro v7 w7 h1 h2 h3; obtain ⟨A7, q7, rfl, -, -, -⟩ := ownsRow_slice h1; have Hb7 := Lib.hid (own_below Hb5.out Ho5.out hsz5 h2); have Ho7 := Lib.hid h1; clear h1 h2 h3))
    go_ret
    have hlen : (flatS (L.take j ++ (a, b) :: L.drop j)).length = 2 * j + 2 + (2 * L.length - 2 * j) := by rw [flatS_len]; simp; omega
    refine ⟨j, hj, Hlow.out, Hge.out, ?_⟩
    unfold RnsP Rns
    rw [hlen]
    refine ⟨A7, q7, rfl, Hb7.out, ?_⟩
    rw [flatS_append, Htk.out, show flatS ((a, b) :: L.drop j) = [a, b] ++ flatS (L.drop j) from rfl, Hdr.out, List.map_append, List.map_append, ← List.append_assoc]
    exact Ho7.out
   ·have hjl2 : j = L.length := by omega
    subst hjl2
    have Hcn := Lib.hid (fun w3 => cells_new w3 [.int .i32 a, .int .i32 b] 21)
    by_cases hq2 : q = 2 * L.length
    ·subst hq2
     go_wp2_with (first
      | (at_builtin; refine wpList_append_sl elRune rfl (.tmp 23) (.tmp 26) rfl w.heap.size (.slice (some ⟨w.heap.size, 0, none⟩) 0 0) 0 ⟨g, 0, none⟩ (2 * L.length) (2 * L.length) [] (((flatS L).take (2 * L.length)).map runeV) (by simp [Act.eval]) Ho.out (by simp [Act.eval]) Hs1.out (runeVs_one _) (by unfold maxLen; omega) (by omega) (by simp) ?_; intro v1 w3 h1 h2 h3; rw [Nat.zero_add, List.nil_append] at h1; obtain ⟨A1, q1, rfl, -, -, -⟩ := ownsRow_slice h1; have hb3 := own_below (alloc_below w _) Ho.out (by simp) h2; have hsz3 := hb3.size; have Hb4 := Lib.hid (hb3.alloc hsz3 (.cells #[.int .i32 a, .int .i32 b] 21)); have Hoa := Lib.hid (h1.below' (alloc_below w3 (.cells #[.int .i32 a, .int .i32 b] 21))); clear h1 h2 h3 hb3)
      | (at_builtin; refine wpList_append_k elRune rfl (.tmp 28) (.tmp 31) rfl w.heap.size (.slice A1 (2 * L.length) q1) (2 * L.length) w3.heap.size 2 2 (((flatS L).take (2 * L.length)).map runeV) [.int .i32 a, .int .i32 b] (by simp [Act.eval]) Hoa.out (by simp [Act.eval]) rfl (Hcn.out w3) (by simp [Value.oneCell']) (by unfold maxLen; omega) (by omega) (by simp; omega) ?_; intro v5 w5 h1 h2 h3; obtain ⟨A5, q5, rfl, -, -, hA5⟩ := ownsRow_slice h1; obtain ⟨g5, rfl⟩ := hA5 (by omega); clear hA5; have hb5 := own_below Hb4.out Hoa.out Hb4.out.size h2; have hsz5 := hb5.size; have Hb5 := Lib.hid hb5; have Ho5 := Lib.hid h1; clear h1 h2 h3 hb5)
      | (at_builtin; refine wpList_append_sl elRune rfl (.tmp 33) (.tmp 36) rfl w.heap.size (.slice (some ⟨g5, 0, none⟩) (2 * L.length + 2) q5) (2 * L.length + 2) ⟨g, 0, none⟩ 0 0 _ [] (by simp [Act.eval]) Ho5.out (by simp [Act.eval]) (rns_empty _ _ _) (by simp) (by unfold maxLen; omega) (by omega) hsz5 ?_; intro v7 w7 h1 h2 h3; obtain ⟨A7, q7, rfl, -, -, -⟩ := ownsRow_slice h1; have Hb7 := Lib.hid (own_below Hb5.out Ho5.out hsz5 h2); have Ho7 := Lib.hid h1; clear h1 h2 h3))
     go_ret
     have hlen : (flatS (L.take L.length ++ (a, b) :: L.drop L.length)).length = 2 * L.length + 2 + 0 := by rw [flatS_len]; simp; omega
     refine ⟨L.length, hj, Hlow.out, Hge.out, ?_⟩
     unfold RnsP Rns
     rw [hlen]
     refine ⟨A7, q7, rfl, Hb7.out, ?_⟩
     rw [flatS_append, Htk.out, show flatS ((a, b) :: L.drop L.length) = [a, b] ++ flatS (L.drop L.length) from rfl, Hdr.out, List.map_append, List.map_append, ← List.append_assoc, List.drop_of_length_le (by rw [flatS_len]; omega)]
     exact Ho7.out
    ·skip
     go_wp2_with (first
      | (at_builtin; refine wpList_append_sl elRune rfl (.tmp 23) (.tmp 26) rfl w.heap.size (.slice (some ⟨w.heap.size, 0, none⟩) 0 0) 0 ⟨g, 0, none⟩ q (2 * L.length) [] (((flatS L).take (2 * L.length)).map runeV) (by simp [Act.eval]) Ho.out (by simp [Act.eval]) Hs1.out (runeVs_one _) (by unfold maxLen; omega) (by omega) (by simp) ?_; intro v1 w3 h1 h2 h3; rw [Nat.zero_add, List.nil_append] at h1; obtain ⟨A1, q1, rfl, -, -, -⟩ := ownsRow_slice h1; have hb3 := own_below (alloc_below w _) Ho.out (by simp) h2; have hsz3 := hb3.size; have Hb4 := Lib.hid (hb3.alloc hsz3 (.cells #[.int .i32 a, .int .i32 b] 21)); have Hoa := Lib.hid (h1.below' (alloc_below w3 (.cells #[.int .i32 a, .int .i32 b] 21))); clear h1 h2 h3 hb3)
      | (at_builtin; refine wpList_append_k elRune rfl (.tmp 28) (.tmp 31) rfl w.heap.size (.slice A1 (2 * L.length) q1) (2 * L.length) w3.heap.size 2 2 (((flatS L).take (2 * L.length)).map runeV) [.int .i32 a, .int .i32 b] (by simp [Act.eval]) Hoa.out (by simp [Act.eval]) rfl (Hcn.out w3) (by simp [Value.oneCell']) (by unfold maxLen; omega) (by omega) (by simp; omega) ?_; intro v5 w5 h1 h2 h3; obtain ⟨A5, q5, rfl, -, -, hA5⟩ := ownsRow_slice h1; obtain ⟨g5, rfl⟩ := hA5 (by omega); clear hA5; have hb5 := own_below Hb4.out Hoa.out Hb4.out.size h2; have hsz5 := hb5.size; have Hb5 := Lib.hid hb5; have Ho5 := Lib.hid h1; clear h1 h2 h3 hb5)
      | (at_builtin; refine wpList_append_sl elRune rfl (.tmp 33) (.tmp 36) rfl w.heap.size (.slice (some ⟨g5, 0, none⟩) (2 * L.length + 2) q5) (2 * L.length + 2) ⟨g, 2 * L.length, none⟩ (q - 2 * L.length) 0 _ [] (by simp [Act.eval]) Ho5.out (by simp [Act.eval]) (rns_empty _ _ _) (by simp) (by unfold maxLen; omega) (by omega) hsz5 ?_; intro v7 w7 h1 h2 h3; obtain ⟨A7, q7, rfl, -, -, -⟩ := ownsRow_slice h1; have Hb7 := Lib.hid (own_below Hb5.out Ho5.out hsz5 h2); have Ho7 := Lib.hid h1; clear h1 h2 h3))
     go_ret
     have hlen : (flatS (L.take L.length ++ (a, b) :: L.drop L.length)).length = 2 * L.length + 2 + 0 := by rw [flatS_len]; simp; omega
     refine ⟨L.length, hj, Hlow.out, Hge.out, ?_⟩
     unfold RnsP Rns
     rw [hlen]
     refine ⟨A7, q7, rfl, Hb7.out, ?_⟩
     rw [flatS_append, Htk.out, show flatS ((a, b) :: L.drop L.length) = [a, b] ++ flatS (L.drop L.length) from rfl, Hdr.out, List.map_append, List.map_append, ← List.append_assoc, List.drop_of_length_le (by rw [flatS_len]; omega)]
     exact Ho7.out
end Go.Proofs.YthhnmpkgleelfaaGreatDoor
