/- The tied card of wicketlaw12.SimParts is proved: whatever the three strings, the call returns true, and they read afterwards as before. Condition: the listed package-level variables read as their text lays them (the card ties them). -/
import Derived.Test.YthhnmpkgleelfaaGreatDoorMW8a
import Derived.Test.YthhnmpkgleelfaaGreatDoorM41
import Derived.Test.YthhnmpkgleelfaaGreatDoorM34
import Derived.Test.YthhnmpkgleelfaaGreatDoorM33
import Derived.Test.YthhnmpkgleelfaaGreatDoorM32
import Derived.Test.YthhnmpkgleelfaaGreatDoorM31
import Derived.Test.YthhnmpkgleelfaaGreatDoorM30
import Derived.Test.YthhnmpkgleelfaaGreatDoorM29
import Derived.Test.YthhnmpkgleelfaaGreatDoorM28
import Derived.Test.YthhnmpkgleelfaaGreatDoorM26
import Derived.Test.YthhnmpkgleelfaaGreatDoorM25
import Derived.Test.YthhnmpkgleelfaaGreatDoorM24
import Derived.Test.YthhnmpkgleelfaaGreatDoorM23
import Derived.Test.YthhnmpkgleelfaaGreatDoorM22
import Derived.Test.YthhnmpkgleelfaaGreatDoorM21
import Derived.Test.YthhnmpkgleelfaaGreatDoorM20
import Derived.Test.YthhnmpkgleelfaaGreatDoorM19
import Derived.Test.YthhnmpkgleelfaaGreatDoorM18
import Derived.Test.YthhnmpkgleelfaaGreatDoorM17
import Derived.Test.YthhnmpkgleelfaaGreatDoorM16
import Derived.Test.YthhnmpkgleelfaaGreatDoorM12
import Derived.Test.YthhnmpkgleelfaaGreatDoorM11
import Derived.Test.YthhnmpkgleelfaaGreatDoorM10
import Derived.Test.YthhnmpkgleelfaaGreatDoorM9
import Derived.Test.YthhnmpkgleelfaaGreatDoorM8
import Derived.Test.YthhnmpkgleelfaaGreatDoorM1
import Derived.Test.YthhnmpkgleelfaaGreatDoorM3
import Derived.Test.YthhnmpkgleelfaaGreatDoorM2
import Derived.Test.YthhnmpkgleelfaaGreatDoorM4
import Derived.Test.YthhnmpkgleelfaaGreatDoorM15
import Derived.Test.YthhnmpkgleelfaaGreatDoorM13
import Derived.Test.YthhnmpkgleelfaaGreatDoorM14
import Derived.Test.YthhnmpkgleelfaaGreatDoorM6
import Derived.Test.YthhnmpkgleelfaaGreatDoorM5
import Derived.Test.YthhnmpkgleelfaaGreatDoorM27
import Derived.Test.YthhnmpkgleelfaaGreatDoorM7
import Derived.Test.YthhnmpkgleelfaaGreatDoorM40
import Derived.Test.YthhnmpkgleelfaaGreatDoorM39
import Derived.Test.YthhnmpkgleelfaaGreatDoorM38
import Derived.Test.YthhnmpkgleelfaaGreatDoorM37
import Derived.Test.YthhnmpkgleelfaaGreatDoorM36
import Derived.Test.YthhnmpkgleelfaaGreatDoorM42
import Derived.Deep.Strs
import Derived.Deep.OwnShut
set_option linter.unusedVariables false
set_option linter.unusedSimpArgs false
namespace Go.Proofs.YthhnmpkgleelfaaGreatDoor
open Go.RowKit Go.Shelf
def Ms (w : World) (L : List (Nat × Rx)) : Prop := ∀ p ∈ L, Mch w p.1 (mcS p.2) (mcT p.2)
theorem Ms.below {w w' : World} {L : List (Nat × Rx)} (h : Ms w L) (hb : Below w.heap.size w w') : Ms w' L := fun p hp => (h p hp).below hb
theorem Ms.cons {w : World} {L : List (Nat × Rx)} {g : Nat} {r : Rx} (h : Mch w g (mcS r) (mcT r)) (k : Ms w L) : Ms w ((g, r) :: L) := fun p hp => by
 rcases List.mem_cons.1 hp with rfl | hp
 ·exact h
 ·exact k p hp
def SpsRel (w : World) (Ls : List ByteArray) (s9 : Value) (wr : World) : Prop := ∃ k : Nat, k ≤ Ls.length ∧ s9 = .int .i64 k ∧ Below w.heap.size w wr ∧ ∀ t ∈ Ls.take k, ∃ r, Good t r
def SpaRel (w : World) (N : Nat) (s28 s29 : Value) (wr : World) : Prop := ∃ (k : Nat) (A : Option Addr) (q : Nat), k ≤ N + 1 ∧ s29 = .int .i64 k ∧ s28 = .slice A k q ∧ Below w.heap.size w wr ∧ wr.ownsRow w.heap.size 3 1 (.slice A k q) k ((idx 0 (List.replicate k true)).map intV)
theorem idx_all : ∀ k : Nat, (idx 0 (List.replicate k true)).length = k ∧ idx 0 (List.replicate (k + 1) true) = idx 0 (List.replicate k true) ++ [(k : Int)] := by
 intro k
 have h2 : ∀ k : Nat, idx 0 (List.replicate (k + 1) true) = idx 0 (List.replicate k true) ++ [(k : Int)] := fun k => by
  rw [List.replicate_succ', idx_snoc, if_pos rfl, List.length_replicate]
 refine ⟨?_, h2 k⟩
 induction k with
 | zero => rfl
 | succ k ih => rw [h2 k, List.length_append, ih]; rfl
set_option maxHeartbeats 16000000 in
set_option maxRecDepth 100000 in
theorem simparts_any {w : World} (hT : Tabs w) (p q s : ByteArray) : Calls Tryz.prog 6 #[.string p, .string q, .string s] w fun e w' => TrP w e w' := by
 have Hf := Lib.hid (first_any hT)
 have Hg := Lib.hid (fun (w0 : World) (t : ByteArray) => good2_any (w := w0) t)
 have HT := Lib.hid hT
 clear hT
 go_enter Tryz.func6, Tryz.ntmps6
 go_wp2_with fail
 (with_reducible refine Hf.out.mono ?_)
 rintro e w1 ⟨rfl, hb1⟩
 have Hb1 := Lib.hid hb1
 clear hb1
 go_wp2_with fail
 (with_reducible refine (Hg.out w1 p).mono ?_)
 rintro e w2 ⟨b, rfl, hb2, hp, -⟩
 have Hb2 := Lib.hid (Hb1.out.trans (hb2.mono Hb1.out.size))
 clear hb2
 cases b with
 | false =>
  clear hp
  go_wp2_with fail
  go_ret
  exact ⟨rfl, Hb2.out⟩
 | true =>
 obtain ⟨x, hx⟩ := hp rfl
 clear hp
 have Hx := Lib.hid hx
 clear hx
 go_wp2_with fail
 (with_reducible refine (Hg.out w2 q).mono ?_)
 rintro e w3 ⟨b, rfl, hb3, hq, -⟩
 have Hb3 := Lib.hid (Hb2.out.trans (hb3.mono Hb2.out.size))
 clear hb3
 cases b with
 | false =>
  clear hq
  go_wp2_with fail
  go_ret
  exact ⟨rfl, Hb3.out⟩
 | true =>
 obtain ⟨y, hy⟩ := hq rfl
 clear hq
 have Hy := Lib.hid hy
 clear hy
 by_cases h1 : 100 < p.size
 ·have h1i : 100 < (p.size : Int) := by omega
  go_wp2_with fail
  go_ret
  exact ⟨rfl, Hb3.out⟩
 by_cases h2 : 100 < q.size
 ·have h1i : ¬ 100 < (p.size : Int) := by omega
  have h2i : 100 < (q.size : Int) := by omega
  go_wp2_with fail
  go_ret
  exact ⟨rfl, Hb3.out⟩
 by_cases h3 : 300 < s.size
 ·have h1i : ¬ 100 < (p.size : Int) := by omega
  have h2i : ¬ 100 < (q.size : Int) := by omega
  have h3i : 300 < (s.size : Int) := by omega
  go_wp2_with fail
  go_ret
  exact ⟨rfl, Hb3.out⟩
 have h1i : ¬ 100 < (p.size : Int) := by omega
 have h2i : ¬ 100 < (q.size : Int) := by omega
 have h3i : ¬ 300 < (s.size : Int) := by omega
 have l_a1 : (({ data := #[40, 63, 58] } : ByteArray) ++ p ++ { data := #[41, 124, 40, 63, 58] } ++ q ++ { data := #[41] }).data.toList = grp p.data.toList (124 :: grp q.data.toList []) := by unfold grp; simp only [app_list]; simp
 have L_a1 := Lib.hid l_a1
 obtain ⟨a1, e_a1⟩ : ∃ a1 : ByteArray, ({ data := #[40, 63, 58] } : ByteArray) ++ p ++ { data := #[41, 124, 40, 63, 58] } ++ q ++ { data := #[41] } = a1 := ⟨_, rfl⟩
 rw [e_a1] at L_a1
 clear l_a1
 have l_a2 : (({ data := #[40, 63, 58] } : ByteArray) ++ p ++ { data := #[41, 42] }).data.toList = grp p.data.toList [42] := by unfold grp; simp only [app_list]; simp
 have L_a2 := Lib.hid l_a2
 obtain ⟨a2, e_a2⟩ : ∃ a2 : ByteArray, ({ data := #[40, 63, 58] } : ByteArray) ++ p ++ { data := #[41, 42] } = a2 := ⟨_, rfl⟩
 rw [e_a2] at L_a2
 clear l_a2
 have l_a3 : (({ data := #[40, 63, 58] } : ByteArray) ++ p ++ { data := #[41, 63] }).data.toList = grp p.data.toList [63] := by unfold grp; simp only [app_list]; simp
 have L_a3 := Lib.hid l_a3
 obtain ⟨a3, e_a3⟩ : ∃ a3 : ByteArray, ({ data := #[40, 63, 58] } : ByteArray) ++ p ++ { data := #[41, 63] } = a3 := ⟨_, rfl⟩
 rw [e_a3] at L_a3
 clear l_a3
 have l_a4 : (({ data := #[40, 63, 58] } : ByteArray) ++ p ++ { data := #[41, 123, 50, 125] }).data.toList = grp p.data.toList [123, 50, 125] := by unfold grp; simp only [app_list]; simp
 have L_a4 := Lib.hid l_a4
 obtain ⟨a4, e_a4⟩ : ∃ a4 : ByteArray, ({ data := #[40, 63, 58] } : ByteArray) ++ p ++ { data := #[41, 123, 50, 125] } = a4 := ⟨_, rfl⟩
 rw [e_a4] at L_a4
 clear l_a4
 have l_a5 : (({ data := #[40, 63, 58] } : ByteArray) ++ p ++ { data := #[41, 40, 63, 58] } ++ p ++ { data := #[41] }).data.toList = grp p.data.toList (grp p.data.toList []) := by unfold grp; simp only [app_list]; simp
 have L_a5 := Lib.hid l_a5
 obtain ⟨a5, e_a5⟩ : ∃ a5 : ByteArray, ({ data := #[40, 63, 58] } : ByteArray) ++ p ++ { data := #[41, 40, 63, 58] } ++ p ++ { data := #[41] } = a5 := ⟨_, rfl⟩
 rw [e_a5] at L_a5
 clear l_a5
 have l_a6 : (({ data := #[40, 63, 58] } : ByteArray) ++ p ++ { data := #[41, 43] }).data.toList = grp p.data.toList [43] := by unfold grp; simp only [app_list]; simp
 have L_a6 := Lib.hid l_a6
 obtain ⟨a6, e_a6⟩ : ∃ a6 : ByteArray, ({ data := #[40, 63, 58] } : ByteArray) ++ p ++ { data := #[41, 43] } = a6 := ⟨_, rfl⟩
 rw [e_a6] at L_a6
 clear l_a6
 have l_a7 : (({ data := #[40, 63, 58] } : ByteArray) ++ p ++ { data := #[41, 40, 63, 58] } ++ p ++ { data := #[41, 42] }).data.toList = grp p.data.toList (grp p.data.toList [42]) := by unfold grp; simp only [app_list]; simp
 have L_a7 := Lib.hid l_a7
 obtain ⟨a7, e_a7⟩ : ∃ a7 : ByteArray, ({ data := #[40, 63, 58] } : ByteArray) ++ p ++ { data := #[41, 40, 63, 58] } ++ p ++ { data := #[41, 42] } = a7 := ⟨_, rfl⟩
 rw [e_a7] at L_a7
 clear l_a7
 have hcs := cells_new w3 ([a1, a2, a3, a4, a5, a6, a7].map strV) 9
 have Hcs := Lib.hid hcs
 have Hal := Lib.hid (alloc_below w3 (.cells ([a1, a2, a3, a4, a5, a6, a7].map strV).toArray 9))
 clear hcs
 go_wp2_with fail
 generalize hLs : [a1, a2, a3, a4, a5, a6, a7] = Ls at Hcs Hal
 have HLs := Lib.hid hLs.symm
 have hL7 : Ls.length = 7 := by rw [← hLs]; rfl
 obtain ⟨w4, hw4⟩ : ∃ w4, w3.alloc (.cells (Ls.map strV).toArray 9) = w4 := ⟨_, rfl⟩
 have hw5 : w3.alloc (.cells #[.string a1, .string a2, .string a3, .string a4, .string a5, .string a6, .string a7] 9) = w4 := by rw [← hw4, ← hLs]; rfl
 rw [hw5]
 rw [hw4] at Hcs Hal
 have Hb4 := Lib.hid (Hb3.out.trans (Hal.out.mono Hb3.out.size))
 have HL7 := Lib.hid hL7
 clear hw4 hw5 hLs hL7 Hal
 go_loopw [9] (fun s9 wr => SpsRel w4 Ls s9 wr) (fun v _ => 7 - (intOf v).toNat)
 case atStart => exact ⟨0, Nat.zero_le _, rfl, Below.refl _ _, fun t ht => by rw [List.take_zero] at ht; cases ht⟩
 case round =>
  obtain ⟨i, hi, rfl, hb, hgd⟩ := hrel
  have hi7 : i ≤ 7 := by rw [← HL7.out]; exact hi
  have Hb := Lib.hid hb
  have Hgd := Lib.hid hgd
  have hbs := hb.size
  clear hb hgd hi
  by_cases hlt : i < 7
  case pos =>
   obtain ⟨t, ht⟩ : ∃ t, Ls[i]? = some t := ⟨_, List.getElem?_eq_getElem (by rw [HL7.out]; exact hlt)⟩
   have c1 : wr.cell? ⟨w3.heap.size, i, none⟩ = some (.string t) := cell_later Hb.out (Hcs.out i (strV t) (by rw [List.getElem?_map, ht]; rfl))
   have hii : (i : Int) < 7 := by omega
   have Htk := Lib.hid (take_next ht)
   clear ht
   go_wp2_with fail
   (with_reducible refine (Hg.out wr t).mono ?_)
   rintro e w5 ⟨b, rfl, hb5, hgt, -⟩
   have Hb5 := Lib.hid (Hb.out.trans (hb5.mono hbs))
   clear hb5
   cases b with
   | false =>
    clear hgt
    go_wp2_with fail
    go_ret
    exact ⟨rfl, Hb4.out.trans (Hb5.out.mono Hb4.out.size)⟩
   | true =>
    have Hgt := Lib.hid (hgt rfl)
    clear hgt
    go_wp2_with fail
    refine ⟨⟨i + 1, by rw [HL7.out]; omega, by go_num, Hb5.out, fun u hu => ?_⟩, by simp [intOf]; omega⟩
    rw [Htk.out] at hu
    rcases List.mem_append.1 hu with hu | hu
    ·exact Hgd.out u hu
    ·rw [List.mem_singleton.1 hu]; exact Hgt.out
  have hi8 : i = 7 := by omega
  subst hi8
  have hgd2 : ∀ t ∈ [a1, a2, a3, a4, a5, a6, a7], ∃ r, Good t r := by have h9 := Hgd.out; rw [List.take_of_length_le (by rw [HL7.out]; omega), HLs.out] at h9; exact h9
  have G_a1 := Lib.hid (show Good a1 (.alt x y) from by obtain ⟨r0, hr0⟩ := hgd2 a1 (by simp); exact good_is hr0 (by rw [L_a1.out]; exact sh_alt Hx.out.2.1 Hy.out.2.1))
  have G_a2 := Lib.hid (show Good a2 (.rep x 0 (-1)) from by obtain ⟨r0, hr0⟩ := hgd2 a2 (by simp); exact good_is hr0 (by rw [L_a2.out]; exact sh_rep Hx.out.2.1 .star))
  have G_a3 := Lib.hid (show Good a3 (.rep x 0 1) from by obtain ⟨r0, hr0⟩ := hgd2 a3 (by simp); exact good_is hr0 (by rw [L_a3.out]; exact sh_rep Hx.out.2.1 .quest))
  have G_a4 := Lib.hid (show Good a4 (.rep x 2 2) from by obtain ⟨r0, hr0⟩ := hgd2 a4 (by simp); exact good_is hr0 (by rw [L_a4.out]; exact sh_rep Hx.out.2.1 q_two))
  have G_a5 := Lib.hid (show Good a5 (.cat x x) from by obtain ⟨r0, hr0⟩ := hgd2 a5 (by simp); exact good_is hr0 (by rw [L_a5.out]; exact sh_two Hx.out.2.1))
  have G_a6 := Lib.hid (show Good a6 (.rep x 1 (-1)) from by obtain ⟨r0, hr0⟩ := hgd2 a6 (by simp); exact good_is hr0 (by rw [L_a6.out]; exact sh_rep Hx.out.2.1 .plus))
  have G_a7 := Lib.hid (show Good a7 (.cat x (.rep x 0 (-1))) from by obtain ⟨r0, hr0⟩ := hgd2 a7 (by simp); exact good_is hr0 (by rw [L_a7.out]; exact sh_long Hx.out.2.1))
  have Hb5 := Lib.hid (Hb4.out.trans (Hb.out.mono Hb4.out.size))
  have HM5 := Lib.hid (show Ms wr [] from fun _ h => by cases h)
  clear hgd2 Hb Hgd hbs hlt Hcs HLs HL7 hi7
  obtain ⟨w5, rfl⟩ : ∃ w5 : World, w5 = wr := ⟨_, rfl⟩
  go_wp2_with fail
  (with_reducible refine (of_any Hx.out (HT.out.below Hb5.out)).mono ?_)
  rintro e w6 ⟨ga, A_ga, n_ga, q_ga, rfl, hm, -, -, hb⟩
  have Hb6 := Lib.hid (Hb5.out.trans (hb.mono Hb5.out.size))
  have HM6 := Lib.hid (Ms.cons hm (HM5.out.below hb))
  clear hm hb HM5
  go_wp2_with fail
  (with_reducible refine (of_any Hy.out (HT.out.below Hb6.out)).mono ?_)
  rintro e w7 ⟨gb, A_gb, n_gb, q_gb, rfl, hm, -, -, hb⟩
  have Hb7 := Lib.hid (Hb6.out.trans (hb.mono Hb6.out.size))
  have HM7 := Lib.hid (Ms.cons hm (HM6.out.below hb))
  clear hm hb HM6
  go_wp2_with fail
  (with_reducible refine (of_any G_a1.out (HT.out.below Hb7.out)).mono ?_)
  rintro e w8 ⟨g1, A_g1, n_g1, q_g1, rfl, hm, -, -, hb⟩
  have Hb8 := Lib.hid (Hb7.out.trans (hb.mono Hb7.out.size))
  have HM8 := Lib.hid (Ms.cons hm (HM7.out.below hb))
  clear hm hb HM7
  go_wp2_with fail
  (with_reducible refine (of_any G_a2.out (HT.out.below Hb8.out)).mono ?_)
  rintro e w9 ⟨g2, A_g2, n_g2, q_g2, rfl, hm, -, -, hb⟩
  have Hb9 := Lib.hid (Hb8.out.trans (hb.mono Hb8.out.size))
  have HM9 := Lib.hid (Ms.cons hm (HM8.out.below hb))
  clear hm hb HM8
  go_wp2_with fail
  (with_reducible refine (of_any G_a3.out (HT.out.below Hb9.out)).mono ?_)
  rintro e w10 ⟨g3, A_g3, n_g3, q_g3, rfl, hm, -, -, hb⟩
  have Hb10 := Lib.hid (Hb9.out.trans (hb.mono Hb9.out.size))
  have HM10 := Lib.hid (Ms.cons hm (HM9.out.below hb))
  clear hm hb HM9
  go_wp2_with fail
  (with_reducible refine (of_any G_a4.out (HT.out.below Hb10.out)).mono ?_)
  rintro e w11 ⟨g4, A_g4, n_g4, q_g4, rfl, hm, -, -, hb⟩
  have Hb11 := Lib.hid (Hb10.out.trans (hb.mono Hb10.out.size))
  have HM11 := Lib.hid (Ms.cons hm (HM10.out.below hb))
  clear hm hb HM10
  go_wp2_with fail
  (with_reducible refine (of_any G_a5.out (HT.out.below Hb11.out)).mono ?_)
  rintro e w12 ⟨g5, A_g5, n_g5, q_g5, rfl, hm, -, -, hb⟩
  have Hb12 := Lib.hid (Hb11.out.trans (hb.mono Hb11.out.size))
  have HM12 := Lib.hid (Ms.cons hm (HM11.out.below hb))
  clear hm hb HM11
  go_wp2_with fail
  (with_reducible refine (of_any G_a6.out (HT.out.below Hb12.out)).mono ?_)
  rintro e w13 ⟨g6, A_g6, n_g6, q_g6, rfl, hm, -, -, hb⟩
  have Hb13 := Lib.hid (Hb12.out.trans (hb.mono Hb12.out.size))
  have HM13 := Lib.hid (Ms.cons hm (HM12.out.below hb))
  clear hm hb HM12
  go_wp2_with fail
  (with_reducible refine (of_any G_a7.out (HT.out.below Hb13.out)).mono ?_)
  rintro e w14 ⟨g7, A_g7, n_g7, q_g7, rfl, hm, -, -, hb⟩
  have Hb14 := Lib.hid (Hb13.out.trans (hb.mono Hb13.out.size))
  have HM14 := Lib.hid (Ms.cons hm (HM13.out.below hb))
  clear hm hb HM13
  have hsz := runes_sz s (by omega)
  obtain ⟨S, hS⟩ : ∃ S, runes badR s.data.toList = S := ⟨_, rfl⟩
  rw [hS] at hsz
  have HS := Lib.hid hS
  clear hS
  go_wp2_with fail
  go_loopw [28, 29] (fun s28 s29 wx => SpaRel w14 S.length s28 s29 wx) (fun _ v _ => S.length + 2 - (intOf v).toNat)
  case atStart => exact ⟨0, none, 0, Nat.zero_le _, rfl, rfl, Below.refl _ _, ⟨rfl, .inl ⟨rfl, rfl⟩⟩⟩
  case round =>
   obtain ⟨i, A28, q28, hi, rfl, rfl, hb, ho⟩ := hrel
   have Hb := Lib.hid hb
   have Ho := Lib.hid ho
   have hbs := hb.size
   clear hb ho
   go_wp2_with fail
   (with_reducible refine (refrunes_any wr s (by omega)).mono ?_)
   rintro e wa ⟨Ar, nr, qr, rfl, hba, hra⟩
   rw [HS.out] at hra
   obtain rfl : nr = S.length := by obtain ⟨_, _, e, _⟩ := ownsRow_slice hra; exact (Value.slice.inj e).2.1
   have Hba := Lib.hid (Hb.out.trans (hba.mono hbs))
   have Hoa := Lib.hid (ownsRow_below Ho.out hba (Nat.le_refl _))
   have hsa := Hba.out.size
   clear hba hra
   by_cases hlt : i ≤ S.length
   case pos =>
    have hii : (i : Int) ≤ (S.length : Int) := by omega
    have Hob := Lib.hid (ownsRow_below Hoa.out (alloc_below wa (.cells #[.int .i64 (i : Int)] 3)) (Nat.le_refl _))
    have Hcn := Lib.hid (cells_new wa [intV i] 3)
    have Hbb := Lib.hid (Hba.out.alloc hsa (.cells #[.int .i64 (i : Int)] 3))
    go_wp2_with (at_builtin; refine wpList_append_k elInt rfl (.tmp 218) (.tmp 220) rfl w14.heap.size (.slice A28 i q28) i wa.heap.size 1 1 ((idx 0 (List.replicate i true)).map intV) [intV i] (by simp [Act.eval]) Hob.out (by simp [Act.eval]) rfl Hcn.out (by simp [intV, Value.oneCell']) (by unfold maxLen; omega) (by omega) (by simp; omega) ?_; intro v' w50 p1 p2 p3; have Hp := Lib.hid p1; have Hg50 := Lib.hid p2; clear p1 p2 p3)
    obtain ⟨A50, q50, rfl, -, -, -⟩ := ownsRow_slice Hp.out
    refine ⟨⟨i + 1, A50, q50, by omega, by go_num, rfl, own_below Hbb.out Hob.out Hbb.out.size Hg50.out, ?_⟩, by simp [intOf]; omega⟩
    rw [(idx_all i).2, List.map_append]
    exact Hp.out
   have hii : ¬ (i : Int) ≤ (S.length : Int) := by omega
   obtain rfl : i = S.length + 1 := by omega
   have Hal := Lib.hid (show Ints wa w14.heap.size (.slice A28 (S.length + 1) q28) (idx 0 (List.replicate (S.length + 1) true)) from by unfold Ints; rw [(idx_all _).1]; exact Hoa.out)
   have Hbx := Lib.hid (Hb14.out.trans (Hba.out.mono Hb14.out.size))
   have HMx := Lib.hid (HM14.out.below Hba.out)
   clear Hb Ho Hba Hoa hbs hsa hlt hi
   obtain ⟨u0, rfl⟩ : ∃ u0 : World, u0 = wa := ⟨_, rfl⟩
   go_wp2_with fail
   have hmo := Lib.hid (mc_ok Hx.out.facts.ok Hx.out.2.2)
   have hmg := Lib.hid (HMx.out (ga, x) (by simp))
   (with_reducible refine (sends_any hmo.out hmg.out (by omega)).mono ?_)
   rintro e u1 ⟨za, hz, Aza, rfl, hb, qza, hoz⟩
   rw [HS.out] at hz
   have Eza := Lib.hid hz
   have hlza := idx_len za 0
   have hmza := hz.1
   have Hbx := Lib.hid (Hbx.out.trans (hb.mono Hbx.out.size))
   have HMx := Lib.hid (HMx.out.below hb)
   have Hal := Lib.hid (Ints.below Hal.out hb)
   have Sza := Lib.hid (Sl.clip (Ints.sl hoz))
   clear hz hb hoz hmo hmg
   go_wp2_with fail
   have hmo := Lib.hid (mc_ok G_a1.out.facts.ok G_a1.out.2.2)
   have hmg := Lib.hid (HMx.out (g1, (.alt x y)) (by simp))
   (with_reducible refine (sends_any hmo.out hmg.out (by omega)).mono ?_)
   rintro e u2 ⟨ze, hz, Aze, rfl, hb, qze, hoz⟩
   rw [HS.out] at hz
   have Eze := Lib.hid hz
   have hlze := idx_len ze 0
   have hmze := hz.1
   have Hbx := Lib.hid (Hbx.out.trans (hb.mono Hbx.out.size))
   have HMx := Lib.hid (HMx.out.below hb)
   have Hal := Lib.hid (Ints.below Hal.out hb)
   have Sza := Lib.hid (Sza.out.below hb)
   have Sze := Lib.hid (Sl.clip (Ints.sl hoz))
   clear hz hb hoz hmo hmg
   go_wp2_with fail
   have hmo := Lib.hid (mc_ok Hy.out.facts.ok Hy.out.2.2)
   have hmg := Lib.hid (HMx.out (gb, y) (by simp))
   (with_reducible refine (sends_any hmo.out hmg.out (by omega)).mono ?_)
   rintro e u3 ⟨zb, hz, Azb, rfl, hb, qzb, hoz⟩
   rw [HS.out] at hz
   have Ezb := Lib.hid hz
   have hlzb := idx_len zb 0
   have hmzb := hz.1
   have Hbx := Lib.hid (Hbx.out.trans (hb.mono Hbx.out.size))
   have HMx := Lib.hid (HMx.out.below hb)
   have Hal := Lib.hid (Ints.below Hal.out hb)
   have Sza := Lib.hid (Sza.out.below hb)
   have Sze := Lib.hid (Sze.out.below hb)
   have Szb := Lib.hid (Sl.clip (Ints.sl hoz))
   clear hz hb hoz hmo hmg
   have hze := alt_ends G_a1.out.facts.ok Eze.out Eza.out Ezb.out
   go_wp2_with fail
   (with_reducible refine (union_any Sza.out Szb.out (by omega) (by omega)).mono ?_)
   rintro e u4 ⟨Au, qu, rfl, hb, hou⟩
   rw [← hze] at hou ⊢
   have Hbx := Lib.hid (Hbx.out.trans (hb.mono Hbx.out.size))
   have HMx := Lib.hid (HMx.out.below hb)
   have Hal := Lib.hid (Ints.below Hal.out hb)
   have Sza := Lib.hid (Sza.out.below hb)
   have Sze := Lib.hid (Sze.out.below hb)
   have Szb := Lib.hid (Szb.out.below hb)
   have Su := Lib.hid (Ints.sl hou)
   clear hb hou hze
   have Hsi := Lib.hid (sameints_any (x := idx 0 ze) (y := idx 0 ze) Sze.out Su.out (by omega) (by omega))
   go_wp2_with fail
   (with_reducible refine Hsi.out.mono ?_)
   rintro e u5 ⟨he, hb⟩
   obtain rfl : e = .returned (.bool true) := by rw [he]; simp
   clear Sze
   clear Su
   clear Szb
   have Hbx := Lib.hid (Hbx.out.trans (hb.mono Hbx.out.size))
   have HMx := Lib.hid (HMx.out.below hb)
   have Hal := Lib.hid (Ints.below Hal.out hb)
   have Sza := Lib.hid (Sza.out.below hb)
   clear hb he Hsi
   have hra : (idx 0 (List.replicate (S.length + 1) true)).length ≤ 4002 := by rw [(idx_all (S.length + 1)).1]; omega
   go_wp2_with fail
   have hmo := Lib.hid (mc_ok G_a2.out.facts.ok G_a2.out.2.2)
   have hmg := Lib.hid (HMx.out (g2, (.rep x 0 (-1))) (by simp))
   (with_reducible refine (sends_any hmo.out hmg.out (by omega)).mono ?_)
   rintro e u6 ⟨zs, hz, Azs, rfl, hb, qzs, hoz⟩
   rw [HS.out] at hz
   have Ezs := Lib.hid hz
   have hlzs := idx_len zs 0
   have hmzs := hz.1
   have Hbx := Lib.hid (Hbx.out.trans (hb.mono Hbx.out.size))
   have HMx := Lib.hid (HMx.out.below hb)
   have Hal := Lib.hid (Ints.below Hal.out hb)
   have Sza := Lib.hid (Sza.out.below hb)
   have Szs := Lib.hid (Sl.clip (Ints.sl hoz))
   clear hz hb hoz hmo hmg
   have hzs := zero_ends G_a2.out.facts.ok (by omega) Ezs.out
   subst hzs
   have Hsi := Lib.hid (sameints_any (x := idx 0 (List.replicate (S.length + 1) true)) (y := idx 0 (List.replicate (S.length + 1) true)) Szs.out (Ints.sl Hal.out) (by omega) (by omega))
   go_wp2_with fail
   (with_reducible refine Hsi.out.mono ?_)
   rintro e u7 ⟨he, hb⟩
   obtain rfl : e = .returned (.bool true) := by rw [he]; simp
   clear Szs
   have Hbx := Lib.hid (Hbx.out.trans (hb.mono Hbx.out.size))
   have HMx := Lib.hid (HMx.out.below hb)
   have Hal := Lib.hid (Ints.below Hal.out hb)
   have Sza := Lib.hid (Sza.out.below hb)
   clear hb he Hsi
   go_wp2_with fail
   have hmo := Lib.hid (mc_ok G_a3.out.facts.ok G_a3.out.2.2)
   have hmg := Lib.hid (HMx.out (g3, (.rep x 0 1)) (by simp))
   (with_reducible refine (sends_any hmo.out hmg.out (by omega)).mono ?_)
   rintro e u8 ⟨zm, hz, Azm, rfl, hb, qzm, hoz⟩
   rw [HS.out] at hz
   have Ezm := Lib.hid hz
   have hlzm := idx_len zm 0
   have hmzm := hz.1
   have Hbx := Lib.hid (Hbx.out.trans (hb.mono Hbx.out.size))
   have HMx := Lib.hid (HMx.out.below hb)
   have Hal := Lib.hid (Ints.below Hal.out hb)
   have Sza := Lib.hid (Sza.out.below hb)
   have Szm := Lib.hid (Sl.clip (Ints.sl hoz))
   clear hz hb hoz hmo hmg
   have hzm := zero_ends G_a3.out.facts.ok (by omega) Ezm.out
   subst hzm
   have Hsi := Lib.hid (sameints_any (x := idx 0 (List.replicate (S.length + 1) true)) (y := idx 0 (List.replicate (S.length + 1) true)) Szm.out (Ints.sl Hal.out) (by omega) (by omega))
   go_wp2_with fail
   (with_reducible refine Hsi.out.mono ?_)
   rintro e u9 ⟨he, hb⟩
   obtain rfl : e = .returned (.bool true) := by rw [he]; simp
   clear Szm
   have Hbx := Lib.hid (Hbx.out.trans (hb.mono Hbx.out.size))
   have HMx := Lib.hid (HMx.out.below hb)
   have Hal := Lib.hid (Ints.below Hal.out hb)
   have Sza := Lib.hid (Sza.out.below hb)
   clear hb he Hsi
   go_wp2_with fail
   have hmo := Lib.hid (mc_ok G_a4.out.facts.ok G_a4.out.2.2)
   have hmg := Lib.hid (HMx.out (g4, (.rep x 2 2)) (by simp))
   (with_reducible refine (sends_any hmo.out hmg.out (by omega)).mono ?_)
   rintro e u10 ⟨zt, hz, Azt, rfl, hb, qzt, hoz⟩
   rw [HS.out] at hz
   have Ezt := Lib.hid hz
   have hlzt := idx_len zt 0
   have hmzt := hz.1
   have Hbx := Lib.hid (Hbx.out.trans (hb.mono Hbx.out.size))
   have HMx := Lib.hid (HMx.out.below hb)
   have Hal := Lib.hid (Ints.below Hal.out hb)
   have Sza := Lib.hid (Sza.out.below hb)
   have Szt := Lib.hid (Sl.clip (Ints.sl hoz))
   clear hz hb hoz hmo hmg
   go_wp2_with fail
   have hmo := Lib.hid (mc_ok G_a5.out.facts.ok G_a5.out.2.2)
   have hmg := Lib.hid (HMx.out (g5, (.cat x x)) (by simp))
   (with_reducible refine (sends_any hmo.out hmg.out (by omega)).mono ?_)
   rintro e u11 ⟨zc, hz, Azc, rfl, hb, qzc, hoz⟩
   rw [HS.out] at hz
   have Ezc := Lib.hid hz
   have hlzc := idx_len zc 0
   have hmzc := hz.1
   have Hbx := Lib.hid (Hbx.out.trans (hb.mono Hbx.out.size))
   have HMx := Lib.hid (HMx.out.below hb)
   have Hal := Lib.hid (Ints.below Hal.out hb)
   have Sza := Lib.hid (Sza.out.below hb)
   have Szt := Lib.hid (Szt.out.below hb)
   have Szc := Lib.hid (Sl.clip (Ints.sl hoz))
   clear hz hb hoz hmo hmg
   have hzt := ok_ends G_a4.out.facts.ok G_a5.out.facts.ok Ezt.out Ezc.out (fun j _ => by simp only [two_mt])
   subst hzt
   have Hsi := Lib.hid (sameints_any (x := idx 0 zt) (y := idx 0 zt) Szt.out Szc.out (by omega) (by omega))
   go_wp2_with fail
   (with_reducible refine Hsi.out.mono ?_)
   rintro e u12 ⟨he, hb⟩
   obtain rfl : e = .returned (.bool true) := by rw [he]; simp
   clear Szt
   clear Szc
   have Hbx := Lib.hid (Hbx.out.trans (hb.mono Hbx.out.size))
   have HMx := Lib.hid (HMx.out.below hb)
   have Hal := Lib.hid (Ints.below Hal.out hb)
   have Sza := Lib.hid (Sza.out.below hb)
   clear hb he Hsi
   go_wp2_with fail
   have hmo := Lib.hid (mc_ok G_a6.out.facts.ok G_a6.out.2.2)
   have hmg := Lib.hid (HMx.out (g6, (.rep x 1 (-1))) (by simp))
   (with_reducible refine (sends_any hmo.out hmg.out (by omega)).mono ?_)
   rintro e u13 ⟨zp, hz, Azp, rfl, hb, qzp, hoz⟩
   rw [HS.out] at hz
   have Ezp := Lib.hid hz
   have hlzp := idx_len zp 0
   have hmzp := hz.1
   have Hbx := Lib.hid (Hbx.out.trans (hb.mono Hbx.out.size))
   have HMx := Lib.hid (HMx.out.below hb)
   have Hal := Lib.hid (Ints.below Hal.out hb)
   have Sza := Lib.hid (Sza.out.below hb)
   have Szp := Lib.hid (Sl.clip (Ints.sl hoz))
   clear hz hb hoz hmo hmg
   go_wp2_with fail
   have hmo := Lib.hid (mc_ok G_a7.out.facts.ok G_a7.out.2.2)
   have hmg := Lib.hid (HMx.out (g7, (.cat x (.rep x 0 (-1)))) (by simp))
   (with_reducible refine (sends_any hmo.out hmg.out (by omega)).mono ?_)
   rintro e u14 ⟨zl, hz, Azl, rfl, hb, qzl, hoz⟩
   rw [HS.out] at hz
   have Ezl := Lib.hid hz
   have hlzl := idx_len zl 0
   have hmzl := hz.1
   have Hbx := Lib.hid (Hbx.out.trans (hb.mono Hbx.out.size))
   have HMx := Lib.hid (HMx.out.below hb)
   have Hal := Lib.hid (Ints.below Hal.out hb)
   have Sza := Lib.hid (Sza.out.below hb)
   have Szp := Lib.hid (Szp.out.below hb)
   have Szl := Lib.hid (Sl.clip (Ints.sl hoz))
   clear hz hb hoz hmo hmg
   have hzp := ok_ends G_a6.out.facts.ok G_a7.out.facts.ok Ezp.out Ezl.out (fun j _ => by simp only [plus_mt])
   have Hzx := Lib.hid (ok_ends G_a6.out.facts.ok Hx.out.facts.ok Ezp.out Eza.out (fun j hj => plus_one hj))
   subst hzp
   have Hsi := Lib.hid (sameints_any (x := idx 0 zp) (y := idx 0 zp) Szp.out Szl.out (by omega) (by omega))
   go_wp2_with fail
   (with_reducible refine Hsi.out.mono ?_)
   rintro e u15 ⟨he, hb⟩
   obtain rfl : e = .returned (.bool true) := by rw [he]; simp
   clear Szp
   clear Szl
   have Hbx := Lib.hid (Hbx.out.trans (hb.mono Hbx.out.size))
   have HMx := Lib.hid (HMx.out.below hb)
   have Hal := Lib.hid (Ints.below Hal.out hb)
   have Sza := Lib.hid (Sza.out.below hb)
   clear hb he Hsi
   go_wp2_with fail
   have hmo := Lib.hid (mc_ok G_a6.out.facts.ok G_a6.out.2.2)
   have hmg := Lib.hid (HMx.out (g6, (.rep x 1 (-1))) (by simp))
   (with_reducible refine (sends_any hmo.out hmg.out (by omega)).mono ?_)
   rintro e u16 ⟨zq, hz, Azq, rfl, hb, qzq, hoz⟩
   rw [HS.out] at hz
   have Ezq := Lib.hid hz
   have hlzq := idx_len zq 0
   have hmzq := hz.1
   have Hbx := Lib.hid (Hbx.out.trans (hb.mono Hbx.out.size))
   have HMx := Lib.hid (HMx.out.below hb)
   have Hal := Lib.hid (Ints.below Hal.out hb)
   have Sza := Lib.hid (Sza.out.below hb)
   have Szq := Lib.hid (Sl.clip (Ints.sl hoz))
   clear hz hb hoz hmo hmg
   have hzq := EndsAt.uniq Ezq.out Ezp.out
   subst hzq
   have hzx := Hzx.out
   subst hzx
   have Hsi := Lib.hid (sameints_any (x := idx 0 zq) (y := idx 0 zq) Szq.out Sza.out (by omega) (by omega))
   go_wp2_with fail
   (with_reducible refine Hsi.out.mono ?_)
   rintro e u17 ⟨he, hb⟩
   obtain rfl : e = .returned (.bool true) := by rw [he]; simp
   clear Szq
   clear Sza
   have Hbx := Lib.hid (Hbx.out.trans (hb.mono Hbx.out.size))
   have HMx := Lib.hid (HMx.out.below hb)
   have Hal := Lib.hid (Ints.below Hal.out hb)
   clear hb he Hsi
   go_wp2_with fail
   go_ret
   exact ⟨by simp, Hbx.out⟩
end Go.Proofs.YthhnmpkgleelfaaGreatDoor
namespace Go.Proofs.YthhnmpkgleelfaaGreatDoor
open Go.ChangeShapes Go.WideShapes Go.ChangeAt Go.WideMaps Go.WideElems Go.RowKit
theorem Tryz.laidOut : laidOutB Tryz.prog = true := by kernel_rfl
section
variable {H : Type} {enc : TypeId × Value → H}
theorem stay {t : TypeId} (hr : Tryz.prog.readableRec t = true) (hrow : t < Tryz.prog.types.size) {W W' : World} {v : Value} {d : DataW H} {ps before : List MemPlace}
  (h : DataW.Trod enc Tryz.prog W 0 (fun _ => true) true t v d ps) (hb : Below W.heap.size W W') (hlt : ∀ x ∈ ps, x.block < W.heap.size) (sp : Nat → Bool) (hsub : ∀ x ∈ ps, x ∈ before) (hsp : ∀ p ∈ before, sp p.block = true) :
  DataW.Trod enc Tryz.prog W' 0 sp true t v d ps :=
 Trod_stays Tryz.laidOut hr hrow h (fun x hx => hb.same (hlt x hx)) (fun x hx => hsp x (hsub x hx))
end
end Go.Proofs.YthhnmpkgleelfaaGreatDoor
namespace Go.Proofs.YthhnmpkgleelfaaGreatDoor
open Go.ChangeShapes Go.WideShapes Go.ChangeAt Go.WideMaps Go.WideElems Go.RowKit
set_option maxRecDepth 100000 in
theorem parts_lifted (os : Os) (started : os.Started) (H : Type) (enc : TypeId × Value → H) :
  ReturnsInHanded {} Tryz.checked os 6 .any (fun w args => (Rows.simPartsSpec.pre enc Tryz.prog Tryz.f6 [] false w args ∧ laidMetH Tryz.prog laidS w) ∧ sizedMet enc Tryz.prog Tryz.f6 (OpenSpec.ofChange Rows.simPartsSpec) false w args)
   (Rows.simPartsSpec.post enc Tryz.prog Tryz.f6 false true false false) := by
 refine returnsInHanded_of_change_and (C := Tryz.checked) (X := fun w _ => laidMetH Tryz.prog laidS w) (fun _ _ _ hh h => h.of_heap hh) Tryz.own started (by kernel_rfl) Tryz.func6
  (ChangeSpec.witness_shaped (enc := enc) (C := Tryz.checked) (os := os) (X := fun w _ => laidMetH Tryz.prog laidS w) false (World.laidAll Tryz.prog os laidS) #[.string ⟨#[]⟩, .string ⟨#[]⟩, .string ⟨#[]⟩] 8 rfl (World.shaped_of_ZipB (by kernel_rfl) (by kernel_rfl)) (by kernel_rfl) (by kernel_rfl) (by kernel_rfl) (door_met os _)) ?_
 intro W base args ds gs before hval0 hW _ _ hL _
 have hval : ∀ (j : Nat) t v, Tryz.f6.params[j]? = some t → args[j]? = some v → Value.okWide Tryz.prog W .any base t v := hval0
 have hW' := hW
 have hlt : ∀ p ∈ before, p.block < W.heap.size := fun p hp => hW.lt p hp
 obtain ⟨p, q, hA0, hV, rfl, hfz, hnd⟩ := hW
 have hA : DataW.TrodAll enc Tryz.prog W 0 (fun _ => true) true Tryz.f6.params.toList args.toList ds p := hA0
 rw [Tryz.params6] at hA hval
 obtain ⟨v0, v1, v2, d0, d1, d2, p0, p1, p2, rfl, rfl, rfl, h0, h1, h2⟩ := trodAll_three hA
 obtain ⟨rfl, rfl⟩ := trodVars_none hV
 obtain ⟨c0, rfl, rfl, rfl, w0⟩ := ChangeMaps.open_string Tryz.underlying9 (hval 0 9 v0 rfl rfl) h0
 obtain ⟨c1, rfl, rfl, rfl, w1⟩ := ChangeMaps.open_string Tryz.underlying9 (hval 1 9 v1 rfl rfl) h1
 obtain ⟨c2, rfl, rfl, rfl, w2⟩ := ChangeMaps.open_string Tryz.underlying9 (hval 2 9 v2 rfl rfl) h2
 clear hA0 hval0
 simp only [List.append_nil, List.nil_append] at hW' hlt
 refine (simparts_any (tabs_of_laid hL) c0 c1 c2).mono fun e W' ⟨he, hb⟩ => ?_
 subst he
 exact ⟨_, rfl, post_of_below (pa := []) (pv := []) hW' (fun _ _ _ => trodAll_mk1 (shut_bool Tryz.underlying4 true))
  (fun sp hsp => by
   exact trodAll_mk3 (ChangeMaps.shut_string Tryz.underlying9 w0) (ChangeMaps.shut_string Tryz.underlying9 w1) (ChangeMaps.shut_string Tryz.underlying9 w2))
   (fun _ _ => rfl) (by simp) hb (ok_one (by kernel_rfl) rfl (okWide_bool_mk Tryz.underlying4 true))⟩
theorem parts_row : Rows.SimPartsSaid :=
 OpenClaim.holds_of_wide 6 Tryz.f6 rfl rfl rfl rfl rfl rfl rfl ⟨rfl, rfl, rfl, rfl, rfl⟩ rfl rfl rfl rfl rfl (by kernel_rfl) Tryz.func6 (by kernel_rfl)
  (of_decide_eq_true (by kernel_rfl)) (by unfold Func.isWrapper; rw [if_neg (of_decide_eq_false (by kernel_rfl))]; exact ⟨rfl, rfl⟩)
  (fun os started H enc _ => parts_lifted os started H enc)
end Go.Proofs.YthhnmpkgleelfaaGreatDoor
namespace Go.Proofs.YthhnmpkgleelfaaGreatDoor
open Go
theorem parts_plain (f : FuncId) (fn : Func) (hf : Tryz.pinned.checked.prog.funcNamed "wicket/wicketlaw12.SimParts" = some f) (hfn : Tryz.pinned.checked.prog.funcs[f]? = some fn) :
  true = Tryz.pinned.checked.prog.looks [] ∧ ∀ (j : Nat) t, fn.params[j]? = some t → Tryz.pinned.checked.prog.wantsStandIn t = false := by
 obtain rfl : f = 6 := Option.some.inj ((show Tryz.prog.funcNamed "wicket/wicketlaw12.SimParts" = some 6 by kernel_rfl).symm.trans hf) |>.symm
 obtain rfl : fn = Tryz.f6 := (Option.some.inj (Tryz.func6.symm.trans hfn)).symm
 refine ⟨by kernel_rfl, fun j t ht => ?_⟩
 rw [Tryz.params6] at ht
 have hm : t ∈ [9, 9, 9] := by simpa using Array.mem_of_getElem? ht
 have hall : ([9, 9, 9].all fun u => !Tryz.prog.wantsStandIn u) = true := by kernel_rfl
 exact (show Tryz.prog.wantsStandIn t = false by simpa using List.all_eq_true.1 hall t hm)
theorem parts_card : Rows.SimPartsCardSaid :=
 Claim7.holds_tied_plain_at .later [] _ _ _ _ parts_row (fun _ h => by cases h) (by kernel_rfl) (fun _ h => by cases h) simParts_row_tie rfl ⟨rfl, rfl⟩ (by kernel_rfl) rfl parts_plain (by kernel_rfl)
#print axioms parts_card
end Go.Proofs.YthhnmpkgleelfaaGreatDoor
