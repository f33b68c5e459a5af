import Derived.Test.YthhnmpkgleelfaaGreatDoorK18
set_option linter.unusedVariables false
set_option linter.unusedSimpArgs false
namespace Go.Proofs.YthhnmpkgleelfaaGreatDoor
open Go.RowKit
def OwnP (w : World) (xs : List UInt8) (e : Ending) (w' : World) : Prop := ∃ (A : Option Addr) (q : Nat), e = .returned (.slice A xs.length q) ∧ Below w.heap.size w w' ∧ OwnB w' w.heap.size (.slice A xs.length q) xs
theorem own_of4 {w : World} {base g n : Nat} {cur : Array Value} (xs : List UInt8) (h4 : xs.length ≤ 4) (hn : n = xs.length) (hg : w.heap[g]? = some (.cells cur 5 (0, 0))) (hb : base ≤ g) (he : cur = (bvs xs).toArray) : OwnB w base (.slice (some ⟨g, 0, none⟩) n n) xs := by
 subst he hn
 exact ownsRow_lit hg hb (by unfold maxLen; omega) (by simp [bvs_len])
set_option maxHeartbeats 1000000 in
theorem form_own {w : World} (c : Int) (hc : isR c = true) : Calls Tryz.prog 84 #[.int .i32 c] w fun e w' => OwnP w (frm c) e w' := by
 have hr' := hc
 simp only [isR, Bool.and_eq_true, decide_eq_true_eq, Bool.not_eq_true', Bool.and_eq_false_iff, decide_eq_false_iff_not] at hr'
 have hr0 := hr'.1.1
 have hr1 := hr'.1.2
 clear hr'
 by_cases h1 : c < 128
 ·have e := Lib.hid (show frm c = [UInt8.ofNat c.toNat] by rw [frm, if_pos hc, if_pos h1])
  have el := Lib.hid (show (frm c).length = 1 by rw [e.out]; rfl)
  clear hc
  go_enter Tryz.func84, Tryz.ntmps84
  go_wp2
  go_ret
  refine ⟨some ⟨w.heap.size, 0, none⟩, 1, by rw [el.out]; rfl, alloc_below _ _, ?_⟩
  rw [e.out]
  exact own_of4 [_] (by simp) (by simp) (heap_alloc_new _ _) (Nat.le_refl _) (by simp only [bvs, bv, List.map]; rw [ofNat_toNat8 _ (by omega)])
 by_cases h2 : c < 2048
 ·have e := Lib.hid (show frm c = [UInt8.ofNat (192 + c / 64).toNat, UInt8.ofNat (128 + c % 64).toNat] by rw [frm, if_pos hc, if_neg h1, if_pos h2])
  have el := Lib.hid (show (frm c).length = 2 by rw [e.out]; rfl)
  clear hc
  go_enter Tryz.func84, Tryz.ntmps84
  go_wp2
  go_ret
  refine ⟨some ⟨w.heap.size, 0, none⟩, 2, by rw [el.out]; rfl, alloc_below _ _, ?_⟩
  rw [e.out]
  exact own_of4 [_, _] (by simp) (by simp) (heap_alloc_new _ _) (Nat.le_refl _) (by simp only [bvs, bv, List.map]; rw [ofNat_toNat8 _ (by omega), ofNat_toNat8 _ (by omega)])
 by_cases h3 : c < 65536
 ·have e := Lib.hid (show frm c = [UInt8.ofNat (224 + c / 4096).toNat, UInt8.ofNat (128 + c / 64 % 64).toNat, UInt8.ofNat (128 + c % 64).toNat] by rw [frm, if_pos hc, if_neg h1, if_neg h2, if_pos h3])
  have el := Lib.hid (show (frm c).length = 3 by rw [e.out]; rfl)
  clear hc
  go_enter Tryz.func84, Tryz.ntmps84
  go_wp2
  go_ret
  refine ⟨some ⟨w.heap.size, 0, none⟩, 3, by rw [el.out]; rfl, alloc_below _ _, ?_⟩
  rw [e.out]
  exact own_of4 [_, _, _] (by simp) (by simp) (heap_alloc_new _ _) (Nat.le_refl _) (by simp only [bvs, bv, List.map]; rw [ofNat_toNat8 _ (by omega), ofNat_toNat8 _ (by omega), ofNat_toNat8 _ (by omega)])
 ·have e := Lib.hid (show frm c = [UInt8.ofNat (240 + c / 262144).toNat, UInt8.ofNat (128 + c / 4096 % 64).toNat, UInt8.ofNat (128 + c / 64 % 64).toNat, UInt8.ofNat (128 + c % 64).toNat] by rw [frm, if_pos hc, if_neg h1, if_neg h2, if_neg h3])
  have el := Lib.hid (show (frm c).length = 4 by rw [e.out]; rfl)
  clear hc
  go_enter Tryz.func84, Tryz.ntmps84
  go_wp2
  go_ret
  refine ⟨some ⟨w.heap.size, 0, none⟩, 4, by rw [el.out]; rfl, alloc_below _ _, ?_⟩
  rw [e.out]
  exact own_of4 [_, _, _, _] (by simp) (by simp) (heap_alloc_new _ _) (Nat.le_refl _) (by simp only [bvs, bv, List.map]; rw [ofNat_toNat8 _ (by omega), ofNat_toNat8 _ (by omega), ofNat_toNat8 _ (by omega), ofNat_toNat8 _ (by omega)])
def spB (p : Int × Int) : List UInt8 := (flatS (cutS p)).flatMap frm
def spsB (L : Spans) : List UInt8 := (flatS (L.flatMap cutS)).flatMap frm
theorem frm_len4 (c : Int) : (frm c).length ≤ 4 := by
 unfold frm
 split
 ·split
  ·simp
  ·split
   ·simp
   ·split <;> simp
 ·simp
theorem spB_one {a b : Int} (h : isR a = true) (k : isR b = true) (hab : a ≤ b) (hn : ¬ (a < 55296 ∧ 57343 < b)) : spB (a, b) = frm a ++ frm b := by
 have hr : ∀ c : Int, isR c = true ↔ 0 ≤ c ∧ c ≤ 1114111 ∧ ¬ (55296 ≤ c ∧ c ≤ 57343) := by intro c; unfold isR; simp; omega
 have ha := (hr a).1 h
 have hb := (hr b).1 k
 have e1 : loC a = a := by unfold loC; rw [if_neg (by omega)]
 have e2 : hiC b = b := by unfold hiC; rw [if_neg (by omega)]
 unfold spB cutS
 simp only [e1, e2]
 rw [if_neg (by omega), if_neg hn]
 simp [flatS]
set_option maxHeartbeats 2000000 in
set_option maxRecDepth 100000 in
theorem span_leaf {w : World} (a b : Int) (h : isR a = true) (k : isR b = true) (hab : a ≤ b) (hn : ¬ (a < 55296 ∧ 57343 < b)) : Calls Tryz.prog 150 #[.int .i32 a, .int .i32 b] w fun e w' => OwnP w (frm a ++ frm b) e w' := by
 have hr : ∀ c : Int, isR c = true ↔ 0 ≤ c ∧ c ≤ 1114111 ∧ ¬ (55296 ≤ c ∧ c ≤ 57343) := by intro c; unfold isR; simp; omega
 have ha := (hr a).1 h
 have hb := (hr b).1 k
 clear hr
 have la := frm_len4 a
 have lb := frm_len4 b
 have H := Lib.hid h
 have K := Lib.hid k
 clear h k
 go_enter Tryz.func150, Tryz.ntmps150
 have c1 : ((decide (55296 ≤ a)) && (decide (a ≤ 57343))) = false := by simp; omega
 have c2 : ((decide (55296 ≤ b)) && (decide (b ≤ 57343))) = false := by simp; omega
 have hca : a < 55296 ∨ 57343 < a := by omega
 have hcb : b < 55296 ∨ 57343 < b := by omega
 rcases hca with hca | hca <;> rcases hcb with hcb | hcb
 ·skip
  go_wp2_with fail
  (with_reducible refine (form_own a H.out).mono ?_)
  rintro e w1 ⟨A1, q1, rfl, hb1, ho1⟩
  have Hb1 := Lib.hid hb1
  have Ho1 := Lib.hid ho1
  have hs1 := hb1.size
  clear hb1 ho1
  go_wp2_with fail
  (with_reducible refine (form_own b K.out).mono ?_)
  rintro e w2 ⟨A2, q2, rfl, hb2, ho2⟩
  have Hb2 := Lib.hid hb2
  have Ho2 := Lib.hid ho2
  have hs2 := hb2.size
  have Ho12 := Lib.hid (Ho1.out.below Hb2.out (Nat.le_refl _))
  clear hb2 ho2
  go_wp2_with (at_builtin; refine wpList_append_bs rfl (.tmp 32) (.tmp 34) rfl w.heap.size (.slice A1 (frm a).length q1) (.slice A2 (frm b).length q2) (frm a) (frm b) (by simp [Act.eval]) Ho12.out (by simp [Act.eval]) Ho2.out.bs (by omega) (by omega) ?_; intro v' w3 h1 h2 h3; have HK := Lib.hid h1; have HG := Lib.hid h2; clear h1 h2 h3)
  obtain ⟨A5, q5, rfl, -, -, -⟩ := ownsRow_slice HK.out
  go_ret
  exact ⟨A5, q5, rfl, own_below (Hb1.out.trans (Hb2.out.mono hs1)) Ho12.out (Nat.le_trans hs1 hs2) HG.out, HK.out⟩
 ·exfalso; exact hn ⟨hca, hcb⟩
 ·exfalso; omega
 ·skip
  go_wp2_with fail
  (with_reducible refine (form_own a H.out).mono ?_)
  rintro e w1 ⟨A1, q1, rfl, hb1, ho1⟩
  have Hb1 := Lib.hid hb1
  have Ho1 := Lib.hid ho1
  have hs1 := hb1.size
  clear hb1 ho1
  go_wp2_with fail
  (with_reducible refine (form_own b K.out).mono ?_)
  rintro e w2 ⟨A2, q2, rfl, hb2, ho2⟩
  have Hb2 := Lib.hid hb2
  have Ho2 := Lib.hid ho2
  have hs2 := hb2.size
  have Ho12 := Lib.hid (Ho1.out.below Hb2.out (Nat.le_refl _))
  clear hb2 ho2
  go_wp2_with (at_builtin; refine wpList_append_bs rfl (.tmp 32) (.tmp 34) rfl w.heap.size (.slice A1 (frm a).length q1) (.slice A2 (frm b).length q2) (frm a) (frm b) (by simp [Act.eval]) Ho12.out (by simp [Act.eval]) Ho2.out.bs (by omega) (by omega) ?_; intro v' w3 h1 h2 h3; have HK := Lib.hid h1; have HG := Lib.hid h2; clear h1 h2 h3)
  obtain ⟨A5, q5, rfl, -, -, -⟩ := ownsRow_slice HK.out
  go_ret
  exact ⟨A5, q5, rfl, own_below (Hb1.out.trans (Hb2.out.mono hs1)) Ho12.out (Nat.le_trans hs1 hs2) HG.out, HK.out⟩
set_option maxHeartbeats 4000000 in
set_option maxRecDepth 100000 in
theorem span_any {w : World} (a b : Int) (h : 0 ≤ a) (hab : a ≤ b) (hb : b ≤ 1114111) : Calls Tryz.prog 150 #[.int .i32 a, .int .i32 b] w fun e w' => OwnP w (spB (a, b)) e w' := by
 have hr : ∀ c : Int, isR c = true ↔ 0 ≤ c ∧ c ≤ 1114111 ∧ ¬ (55296 ≤ c ∧ c ≤ 57343) := by intro c; unfold isR; simp; omega
 have Hr := Lib.hid hr
 clear hr
 by_cases sa1 : 55296 ≤ a
 ·by_cases sa2 : a ≤ 57343
  ·have e1 : loC a = 57344 := by unfold loC; rw [if_pos ⟨sa1, sa2⟩]
   by_cases sb1 : 55296 ≤ b
   ·by_cases sb2 : b ≤ 57343
    ·have e2 : hiC b = 55295 := by unfold hiC; rw [if_pos ⟨sb1, sb2⟩]
     have hsp := Lib.hid (show spB (a, b) = [] by unfold spB cutS; simp only [e1, e2]; rfl)
     clear e1 e2
     go_enter Tryz.func150, Tryz.ntmps150
     go_wp2_with fail
     go_ret
     rw [hsp.out]
     exact ⟨none, 0, rfl, Below.refl _ _, OwnB.nil _ _⟩
    ·have e2 : hiC b = b := by unfold hiC; rw [if_neg (fun x => sb2 x.2)]
     by_cases hlt : b < 57344
     ·exfalso; omega
     have H := Lib.hid (show isR 57344 = true from by decide)
     have K := Lib.hid (show isR b = true from (Hr.out b).2 (by omega))
     have hsp := Lib.hid (show spB (a, b) = frm 57344 ++ frm b by unfold spB cutS; simp only [e1, e2]; rw [if_neg (by omega), if_neg (by omega)]; simp [flatS])
     clear e1 e2
     have la := frm_len4 57344
     have lb := frm_len4 b
     go_enter Tryz.func150, Tryz.ntmps150
     go_wp2_with fail
     (with_reducible refine (form_own 57344 (H.out)).mono ?_)
     rintro e w1 ⟨A1, q1, rfl, hb1, ho1⟩
     have Hb1 := Lib.hid hb1
     have Ho1 := Lib.hid ho1
     have hs1 := hb1.size
     clear hb1 ho1
     go_wp2_with fail
     (with_reducible refine (form_own b (K.out)).mono ?_)
     rintro e w2 ⟨A2, q2, rfl, hb2, ho2⟩
     have Hb2 := Lib.hid hb2
     have Ho2 := Lib.hid ho2
     have hs2 := hb2.size
     have Ho12 := Lib.hid (Ho1.out.below Hb2.out (Nat.le_refl _))
     clear hb2 ho2
     go_wp2_with (at_builtin; refine wpList_append_bs rfl (.tmp 32) (.tmp 34) rfl w.heap.size (.slice A1 (frm 57344).length q1) (.slice A2 (frm b).length q2) (frm 57344) (frm b) (by simp [Act.eval]) Ho12.out (by simp [Act.eval]) Ho2.out.bs (by omega) (by omega) ?_; intro v' w3 h1 h2 h3; have HK := Lib.hid h1; have HG := Lib.hid h2; clear h1 h2 h3)
     obtain ⟨A5, q5, rfl, -, -, -⟩ := ownsRow_slice HK.out
     go_ret
     rw [hsp.out]
     exact ⟨A5, q5, rfl, own_below (Hb1.out.trans (Hb2.out.mono hs1)) Ho12.out (Nat.le_trans hs1 hs2) HG.out, HK.out⟩
   ·exfalso; omega
  ·have e1 : loC a = a := by unfold loC; rw [if_neg (fun x => sa2 x.2)]
   have e2 : hiC b = b := by unfold hiC; rw [if_neg (by omega)]
   exact (span_leaf a b ((Hr.out a).2 (by omega)) ((Hr.out b).2 (by omega)) hab (by omega)).mono (by rw [spB_one ((Hr.out a).2 (by omega)) ((Hr.out b).2 (by omega)) hab (by omega)]; exact fun _ _ h => h)
 ·have e1 : loC a = a := by unfold loC; rw [if_neg (fun x => sa1 x.1)]
  by_cases sb1 : 55296 ≤ b
  ·by_cases sb2 : b ≤ 57343
   ·have e2 : hiC b = 55295 := by unfold hiC; rw [if_pos ⟨sb1, sb2⟩]
    by_cases hlt : 55295 < a
    ·exfalso; omega
    have H := Lib.hid (show isR a = true from (Hr.out a).2 (by omega))
    have K := Lib.hid (show isR 55295 = true from by decide)
    have hsp := Lib.hid (show spB (a, b) = frm a ++ frm 55295 by unfold spB cutS; simp only [e1, e2]; rw [if_neg (by omega), if_neg (by omega)]; simp [flatS])
    clear e1 e2
    have la := frm_len4 a
    have lb := frm_len4 55295
    go_enter Tryz.func150, Tryz.ntmps150
    go_wp2_with fail
    (with_reducible refine (form_own a (H.out)).mono ?_)
    rintro e w1 ⟨A1, q1, rfl, hb1, ho1⟩
    have Hb1 := Lib.hid hb1
    have Ho1 := Lib.hid ho1
    have hs1 := hb1.size
    clear hb1 ho1
    go_wp2_with fail
    (with_reducible refine (form_own 55295 (K.out)).mono ?_)
    rintro e w2 ⟨A2, q2, rfl, hb2, ho2⟩
    have Hb2 := Lib.hid hb2
    have Ho2 := Lib.hid ho2
    have hs2 := hb2.size
    have Ho12 := Lib.hid (Ho1.out.below Hb2.out (Nat.le_refl _))
    clear hb2 ho2
    go_wp2_with (at_builtin; refine wpList_append_bs rfl (.tmp 32) (.tmp 34) rfl w.heap.size (.slice A1 (frm a).length q1) (.slice A2 (frm 55295).length q2) (frm a) (frm 55295) (by simp [Act.eval]) Ho12.out (by simp [Act.eval]) Ho2.out.bs (by omega) (by omega) ?_; intro v' w3 h1 h2 h3; have HK := Lib.hid h1; have HG := Lib.hid h2; clear h1 h2 h3)
    obtain ⟨A5, q5, rfl, -, -, -⟩ := ownsRow_slice HK.out
    go_ret
    rw [hsp.out]
    exact ⟨A5, q5, rfl, own_below (Hb1.out.trans (Hb2.out.mono hs1)) Ho12.out (Nat.le_trans hs1 hs2) HG.out, HK.out⟩
   ·have e2 : hiC b = b := by unfold hiC; rw [if_neg (fun x => sb2 x.2)]
    have hsp := Lib.hid (show spB (a, b) = (frm a ++ frm 55295) ++ (frm 57344 ++ frm b) by unfold spB cutS; simp only [e1, e2]; rw [if_neg (by omega), if_pos (by omega)]; simp [flatS])
    clear e1 e2
    have l1 := frm_len4 a
    have l2 := frm_len4 b
    have l3 := frm_len4 55295
    have l4 := frm_len4 57344
    have la : (frm a ++ frm 55295).length ≤ 8 := by rw [List.length_append]; omega
    have lb : (frm 57344 ++ frm b).length ≤ 8 := by rw [List.length_append]; omega
    clear l1 l2 l3 l4
    go_enter Tryz.func150, Tryz.ntmps150
    go_wp2_with fail
    (with_reducible refine (span_leaf a 55295 ((Hr.out a).2 (by omega)) (by decide) (by omega) (by omega)).mono ?_)
    rintro e w1 ⟨A1, q1, rfl, hb1, ho1⟩
    generalize hX : frm a ++ frm 55295 = X at *
    have Hb1 := Lib.hid hb1
    have Ho1 := Lib.hid ho1
    have hs1 := hb1.size
    clear hb1 ho1
    go_wp2_with fail
    (with_reducible refine (span_leaf 57344 b (by decide) ((Hr.out b).2 (by omega)) (by omega) (by omega)).mono ?_)
    rintro e w2 ⟨A2, q2, rfl, hb2, ho2⟩
    generalize hY : frm 57344 ++ frm b = Y at *
    have Hb2 := Lib.hid hb2
    have Ho2 := Lib.hid ho2
    have hs2 := hb2.size
    have Ho12 := Lib.hid (Ho1.out.below Hb2.out (Nat.le_refl _))
    clear hb2 ho2 hX hY
    go_wp2_with (at_builtin; refine wpList_append_bs rfl (.tmp 27) (.tmp 29) rfl w.heap.size (.slice A1 X.length q1) (.slice A2 Y.length q2) X Y (by simp [Act.eval]) Ho12.out (by simp [Act.eval]) Ho2.out.bs (by omega) (by omega) ?_; intro v' w3 h1 h2 h3; have HK := Lib.hid h1; have HG := Lib.hid h2; clear h1 h2 h3)
    obtain ⟨A5, q5, rfl, -, -, -⟩ := ownsRow_slice HK.out
    go_ret
    rw [hsp.out]
    exact ⟨A5, q5, rfl, own_below (Hb1.out.trans (Hb2.out.mono hs1)) Ho12.out (Nat.le_trans hs1 hs2) HG.out, HK.out⟩
  ·have e2 : hiC b = b := by unfold hiC; rw [if_neg (fun x => sb1 x.1)]
   exact (span_leaf a b ((Hr.out a).2 (by omega)) ((Hr.out b).2 (by omega)) hab (by omega)).mono (by rw [spB_one ((Hr.out a).2 (by omega)) ((Hr.out b).2 (by omega)) hab (by omega)]; exact fun _ _ h => h)
def butP (L : Spans) (but : Bool) (c : Int) : Prop := if but = true then ¬ inSp L c else inSp L c
def RgP (w : World) (L : Spans) (but : Bool) (e : Ending) (w' : World) : Prop := ∃ cs : List Int, e = .returned (.tuple #[.string (rngB cs), .bool true]) ∧ SetOf (butP L but) cs ∧ Below w.heap.size w w'
def CkRel (w : World) (L : Spans) (s6 : Value) (wr : World) : Prop := ∃ i : Nat, i ≤ L.length ∧ s6 = .int .i64 (2 * (i : Int)) ∧ ∃ m, wr = w.drewN m
def MRel (w : World) (L : Spans) (but : Bool) (s9 : Value) (wr : World) : Prop := ∃ (M : Spans) (A : Option Addr) (q : Nat), s9 = .slice A (2 * M.length) q ∧ Below w.heap.size w wr ∧ Rns wr w.heap.size (.slice A (2 * M.length) q) (flatS M) ∧ GapsS M ∧ M.length ≤ 10001 ∧ (∀ p ∈ M, 0 ≤ p.1 ∧ p.2 ≤ 1114111) ∧ (∀ c, 0 ≤ c → c ≤ 1114111 → (inSp M c ↔ butP L but c))
def TxRel (w : World) (M : Spans) (s10 s11 : Value) (wr : World) : Prop := ∃ (i : Nat) (A : Option Addr) (q : Nat), i ≤ M.length ∧ s10 = .slice A (spsB (M.take i)).length q ∧ s11 = .int .i64 (2 * (i : Int)) ∧ Below w.heap.size w wr ∧ OwnB wr w.heap.size (.slice A (spsB (M.take i)).length q) (spsB (M.take i))
theorem spB_len (p : Int × Int) : (spB p).length ≤ 16 := by
 have key : ∀ l : List Int, (l.flatMap frm).length ≤ 4 * l.length := by
  intro l
  induction l with
  | nil => simp
  | cons x l ih => have := frm_len4 x; rw [List.flatMap_cons, List.length_append, List.length_cons]; omega
 have h1 := key (flatS (cutS p))
 have h2 : (flatS (cutS p)).length ≤ 4 := by
  rw [flatS_len]
  unfold cutS
  split
  ·simp
  ·split <;> simp
 unfold spB
 omega
theorem spsB_next {M : Spans} {i : Nat} {p : Int × Int} (h : M[i]? = some p) : spsB (M.take (i + 1)) = spsB (M.take i) ++ spB p := by
 unfold spsB spB
 rw [take_next h, List.flatMap_append, flatS_append, List.flatMap_append]
 simp
theorem spsB_len (M : Spans) : (spsB M).length ≤ 16 * M.length := by
 induction M with
 | nil => simp [spsB, flatS]
 | cons p M ih =>
  have h1 := spB_len p
  have h2 : spsB (p :: M) = spB p ++ spsB M := by unfold spsB spB; rw [List.flatMap_cons, flatS_append, List.flatMap_append]
  rw [h2, List.length_append]
  simp only [List.length_cons]
  omega
theorem others_len : ∀ (l : Spans) (f : Int), (othersF f l).length ≤ l.length + 1
 | [], f => by unfold othersF; split <;> simp
 | (a, b) :: l, f => by
  have := others_len l (b + 1)
  unfold othersF
  split <;> simp <;> omega
theorem rng_of {M L : Spans} {but : Bool} (hg : GapsS M) (hb : ∀ p ∈ M, 0 ≤ p.1 ∧ p.2 ≤ 1114111) (hm : ∀ c, 0 ≤ c → c ≤ 1114111 → (inSp M c ↔ butP L but c)) : ∃ cs : List Int, ByteArray.mk (spsB M).toArray = rngB cs ∧ SetOf (butP L but) cs :=
 ⟨flatS (M.flatMap cutS), rfl, (setOf_cuts hg hb).wk (fun c hc => by simp [isR] at hc; exact hm c (by omega) (by omega))⟩
set_option maxHeartbeats 8000000 in
set_option maxRecDepth 100000 in
theorem rranges_any {w : World} {A0 : Option Addr} {n0 q0 : Nat} {L : Spans} (h : Rns w 0 (.slice A0 n0 q0) (flatS L)) (hl : L.length ≤ 10000) (hok : OkSp L) (but : Bool) : Calls Tryz.prog 121 #[.slice A0 n0 q0, .bool but] w fun e w' => RgP w L but e w' := by
 obtain ⟨_, _, e, hq0, _, hA0⟩ := ownsRow_slice h
 obtain ⟨rfl, rfl, rfl⟩ := Value.slice.inj e
 clear e
 rw [flatS_len] at hq0 hA0 ⊢
 have H := Lib.hid h
 have HA := Lib.hid hA0
 have Hok := Lib.hid hok
 clear h hA0 hok
 go_enter Tryz.func121, Tryz.ntmps121
 have hmod : ((2 * L.length : Nat) : Int) % 2 = 0 := by omega
 go_wp2_with fail
 go_loopw [6, 7, 8] (fun s6 _ _ wr => CkRel w L s6 wr) (fun v _ _ _ => 2 * L.length - (intOf v).toNat)
 case atStart => exact ⟨0, Nat.zero_le _, rfl, 0, rfl⟩
 case round =>
  obtain ⟨i, hi, rfl, hw⟩ := hrel
  have Hw := Lib.hid hw
  by_cases hlt : i < L.length
  ·obtain ⟨g, rfl⟩ := HA.out (by omega)
   obtain ⟨⟨a, b⟩, hx⟩ : ∃ x, L[i]? = some x := ⟨_, List.getElem?_eq_getElem hlt⟩
   obtain ⟨ga, gb⟩ := flatS_get L i a b hx
   have hrow : Rns wr 0 (.slice (some ⟨g, 0, none⟩) (2 * L.length) q0) (flatS L) := by obtain ⟨m, rfl⟩ := hw; have h9 : Rns (w.drewN m) 0 (.slice (some ⟨g, 0, none⟩) (flatS L).length q0) (flatS L) := ownsRow_drewN H.out m; rwa [flatS_len] at h9
   clear hw
   unfold Rns at hrow
   rw [flatS_len] at hrow
   have ca := ownsRow_cell hrow rfl (2 * i) (by omega)
   have cb := ownsRow_cell hrow rfl (2 * i + 1) (by omega)
   rw [List.getElem?_map, ga] at ca
   rw [List.getElem?_map, gb] at cb
   simp only [Option.map_some, runeV] at ca cb
   obtain ⟨p1, p2, p3⟩ := Hok.out (a, b) (List.mem_of_getElem? hx)
   dsimp only at p1 p2 p3
   have h2i : ((2 * i : Nat) : Int) < ((2 * L.length : Nat) : Int) := by omega
   have hw0 : (2 * (i : Int)).toNat = 2 * i := by omega
   have hw1 : IntKind.i64.wrap (2 * (i : Int) + 1) = 2 * (i : Int) + 1 := IntWalk.i64_in _ (by omega)
   have hw2 : (2 * (i : Int) + 1).toNat = 2 * i + 1 := by omega
   have hw3 : (0 : Int) ≤ 2 * (i : Int) + 1 := by omega
   have hw4 : 2 * (i : Int) + 1 < 2 * (L.length : Int) := by omega
   have P1 := Lib.hid p1
   have P2 := Lib.hid p2
   clear hrow ga gb hx p1 p2
   go_wp2_with fail
   (with_reducible refine (refis_any a _).mono ?_)
   rintro e w1 ⟨rfl, rfl⟩
   rw [P1.out]
   go_wp2_with fail
   (with_reducible refine (refis_any b _).mono ?_)
   rintro e w1 ⟨rfl, rfl⟩
   rw [P2.out]
   have hba : ¬ b < a := by omega
   go_wp2_with fail
   go_quiet (fail)
   clear hw0 hw1 hw2 hw3 hw4
   go_wp2_with fail
   refine ⟨⟨i + 1, by omega, by go_num, by obtain ⟨m, e⟩ := Hw.out; exact ⟨m + nq, by rw [e, World.drewN_drewN]⟩⟩, by simp [intOf]; omega⟩
  ·obtain rfl : i = L.length := by omega
   go_wp2_with fail
   have hrow : Rns wr 0 (.slice A0 (2 * L.length) q0) (flatS L) := by obtain ⟨m, rfl⟩ := hw; have h9 : Rns (w.drewN m) 0 (.slice A0 (flatS L).length q0) (flatS L) := ownsRow_drewN H.out m; rwa [flatS_len] at h9
   have hb0 : Below w.heap.size w wr := by obtain ⟨m, rfl⟩ := hw; exact blw_drewN (Below.refl _ _) _
   have Hb0 := Lib.hid hb0
   have hs0 := hb0.size
   clear hw hb0
   (with_reducible refine (rrising_any hrow hl (fun p hp => ?_)).mono ?_)
   ·have h1 := Hok.out p hp
    have h2 := isR_pos h1.1
    have h3 := h1.2.1
    simp only [isR, Bool.and_eq_true, decide_eq_true_eq] at h3
    omega
   rintro e w1 ⟨M, A1, q1, rfl, hb1, ho1, hg1, hl1, hm1, hbd1⟩
   have Hb1 := Lib.hid (Hb0.out.trans (hb1.mono hs0))
   have Ho1 := Lib.hid (ho1.low hs0)
   have hs1 := Hb1.out.size
   have Hg1 := Lib.hid hg1
   have Hm1 := Lib.hid hm1
   have Hbd1 := Lib.hid hbd1
   clear hb1 ho1 hg1 hm1 hbd1 hrow Hb0
   go_upto_if 53 with fail
   obtain ⟨w2, hw2⟩ : ∃ w2 : World, w1 = w2 := ⟨_, rfl⟩
   subst hw2
   go_cut [9] (fun s9 wx => MRel w L but s9 wx)
   case first =>
    cases but with
    | false =>
     go_wp2_with fail
     go_meet
     case rel => exact ⟨M, A1, q1, rfl, Hb1.out, Ho1.out, Hg1.out, by omega, (fun p hp => ⟨(Hbd1.out p hp).1, (Hbd1.out p hp).2.2.2⟩), (fun c _ _ => by unfold butP; rw [if_neg (by decide)]; exact Hm1.out c)⟩
    | true =>
     go_wp2_with fail
     (with_reducible refine (rothers_any (Ho1.out.low (Nat.zero_le _)) (fun p hp => Hbd1.out p hp) (by omega)).mono ?_)
     rintro e w3 ⟨A3, q3, rfl, hb3, ho3⟩
     have hsp := others_spec M 0 Hg1.out (fun p hp => ⟨(Hbd1.out p hp).1, (Hbd1.out p hp).2.2.2⟩)
     have hol := others_len M 0
     rw [show othersF 0 M = spOther M from rfl] at hsp hol
     rw [flatS_len] at ho3 ⊢
     have Hb3 := Lib.hid (Hb1.out.trans (hb3.mono hs1))
     have Ho3 := Lib.hid (ho3.low hs1)
     have Hsp := Lib.hid hsp
     clear hb3 ho3 hsp
     go_wp2_with fail
     go_meet
     case rel => exact ⟨spOther M, A3, q3, rfl, Hb3.out, Ho3.out, Hsp.out.1, by omega, (fun p hp => Hsp.out.2.1 p hp), (fun c h1 h2 => by unfold butP; rw [if_pos rfl, Hsp.out.2.2 c, Hm1.out c]; exact ⟨fun h => h.2.2, fun h => ⟨h1, h2, h⟩⟩)⟩
   case rest =>
    obtain ⟨N, A4, q4, rfl, hb4, ho4, hg4, hl4, hbd4, hm4⟩ := hcut
    have Hb4 := Lib.hid hb4
    have Ho4 := Lib.hid ho4
    have Hg4 := Lib.hid hg4
    have Hbd4 := Lib.hid hbd4
    have Hm4 := Lib.hid hm4
    have hs4 := hb4.size
    clear hb4 ho4 hg4 hbd4 hm4 Hb1 Ho1 Hg1 Hm1 Hbd1
    obtain ⟨wo, hwo⟩ : ∃ wo : World, wc = wo := ⟨_, rfl⟩
    subst hwo
    go_wp2_with fail
    go_loopw [10, 11] (fun s10 s11 wx => TxRel wc N s10 s11 wx) (fun _ v _ => 2 * N.length - (intOf v).toNat)
    case atStart => exact ⟨0, none, 0, Nat.zero_le _, rfl, rfl, Below.refl _ _, OwnB.nil _ _⟩
    case round =>
     obtain ⟨k, A5, q5, hk, rfl, rfl, hb5, ho5⟩ := hrel
     have Hb5 := Lib.hid hb5
     have Ho5 := Lib.hid ho5
     have hs5 := hb5.size
     by_cases hlt : k < N.length
     ·have hO : ∃ g4, A4 = some ⟨g4, 0, none⟩ := by
       obtain ⟨_, _, e, _, _, hA⟩ := ownsRow_slice Ho4.out
       obtain ⟨g4, e'⟩ := hA (by rw [flatS_len]; omega)
       exact ⟨g4, (Value.slice.inj e).1.trans e'⟩
      obtain ⟨g4, rfl⟩ := hO
      obtain ⟨⟨a, b⟩, hx⟩ : ∃ x, N[k]? = some x := ⟨_, List.getElem?_eq_getElem hlt⟩
      obtain ⟨ga, gb⟩ := flatS_get N k a b hx
      have hrow := Ho4.out
      unfold Rns at hrow
      rw [flatS_len] at hrow
      have ca := ownsRow_cell hrow rfl (2 * k) (by omega)
      have cb := ownsRow_cell hrow rfl (2 * k + 1) (by omega)
      rw [List.getElem?_map, ga] at ca
      rw [List.getElem?_map, gb] at cb
      simp only [Option.map_some, runeV] at ca cb
      have ca := cell_later Hb5.out ca
      have cb := cell_later Hb5.out cb
      obtain ⟨p1, p2⟩ := Hbd4.out (a, b) (List.mem_of_getElem? hx)
      have p3 := Hg4.out.mem (a, b) (List.mem_of_getElem? hx)
      dsimp only at p1 p2 p3
      have hne : some g4 ≠ (Value.slice A5 (spsB (N.take k)).length q5).ownBlock := by
       intro e
       have h1 := (ownsRow_block Ho5.out e.symm).1
       obtain ⟨_, _, h2⟩ := ownsRow_block Ho4.out (g := g4) rfl
       have := lt_of_heap h2
       omega
      have Hne := Lib.hid hne
      have Hnx := Lib.hid (spsB_next hx)
      have hl5 := spsB_len (N.take k)
      have hl6 : (N.take k).length ≤ N.length := by simp; omega
      have hl7 := spB_len (a, b)
      generalize hX : spsB (N.take k) = X at *
      clear hrow ga gb hx hne hb5 ho5 hX
      go_wp2_with fail
      have hw1 : IntKind.i64.wrap (2 * (k : Int) + 1) = 2 * (k : Int) + 1 := IntWalk.i64_in _ (by omega)
      have hw2 : (2 * (k : Int) + 1).toNat = 2 * k + 1 := by omega
      have hw3 : (0 : Int) ≤ 2 * (k : Int) + 1 := by omega
      have hw4 : 2 * (k : Int) + 1 < 2 * (N.length : Int) := by omega
      have hw5 : (2 * (k : Int)).toNat = 2 * k := by omega
      have hw6 : (0 : Int) ≤ 2 * (k : Int) := by omega
      have hw7 : 2 * (k : Int) < 2 * (N.length : Int) := by omega
      have Hcc := Lib.hid ca
      have Hcd := Lib.hid cb
      clear ca cb
      refine wp_region_noPanic ?_
      refine wp_region_held_drew (S := fun w' => w'.cell? ⟨g4, 2 * k, none⟩ = some (.int .i32 a) ∧ w'.cell? ⟨g4, 2 * k + 1, none⟩ = some (.int .i32 b)) (by kernel_rfl) (⟨Hcc.out, Hcd.out⟩) (fun hHeld => ?_)
      refine tkH 0 (v := ?v0) (nth rfl) (by kernel_rfl) (by kernel_rfl) (by kernel_rfl) (fun _ _ _ h => h) (by rfl) hHeld ?y0 ?r0
      case y0 => (intro w hSw; (try dsimp only at hSw); go_simp; (try with_reducible rfl))
      try simp only [Act.put, pA, pB, pC]
      refine tkH 1 (v := ?v1) (nth rfl) (by kernel_rfl) (by kernel_rfl) (by kernel_rfl) (fun _ _ _ h => h) (by rfl) hHeld ?y1 ?r1
      case y1 => (intro w hSw; (try dsimp only at hSw); go_simp; (try with_reducible rfl))
      try simp only [Act.put, pA, pB, pC]
      refine tkH 2 (v := ?v2) (nth rfl) (by kernel_rfl) (by kernel_rfl) (by kernel_rfl) (fun _ _ _ h => h) (by rfl) hHeld ?y2 ?r2
      case y2 => (intro w hSw; (try dsimp only at hSw); go_simp; (try with_reducible rfl))
      try simp only [Act.put, pA, pB, pC]
      refine tkH 3 (v := ?v3) (nth rfl) (by kernel_rfl) (by kernel_rfl) (by kernel_rfl) (fun _ _ _ h => h) (by rfl) hHeld ?y3 ?r3
      case y3 => (intro w hSw; (try dsimp only at hSw); go_simp; (try with_reducible rfl))
      try simp only [Act.put, pA, pB, pC]
      refine tkH 4 (v := ?v4) (nth rfl) (by kernel_rfl) (by kernel_rfl) (by kernel_rfl) (fun _ _ _ h => h) (by rfl) hHeld ?y4 ?r4
      case y4 => (intro w hSw; (try dsimp only at hSw); go_simp; (try with_reducible rfl))
      try simp only [Act.put, pA, pB, pC]
      refine tkH 5 (v := ?v5) (nth rfl) (by kernel_rfl) (by kernel_rfl) (by kernel_rfl) (fun _ _ _ h => h) (by rfl) hHeld ?y5 ?r5
      case y5 => (intro w hSw; (try dsimp only at hSw); go_simp; (try with_reducible rfl))
      try simp only [Act.put, pA, pB, pC]
      refine tkH 6 (v := ?v6) (nth rfl) (by kernel_rfl) (by kernel_rfl) (by kernel_rfl) (fun _ _ _ h => h) (by rfl) hHeld ?y6 ?r6
      case y6 => (intro w hSw; (try dsimp only at hSw); go_simp; (try with_reducible rfl))
      try simp only [Act.put, pA, pB, pC]
      refine tkH 7 (v := ?v7) (nth rfl) (by kernel_rfl) (by kernel_rfl) (by kernel_rfl) (fun _ _ _ h => h) (by rfl) hHeld ?y7 ?r7
      case y7 => (intro w hSw; (try dsimp only at hSw); go_simp; (try with_reducible rfl))
      try simp only [Act.put, pA, pB, pC]
      refine tkH 8 (v := ?v8) (nth rfl) (by kernel_rfl) (by kernel_rfl) (by kernel_rfl) (fun _ _ _ h => h) (by rfl) hHeld ?y8 ?r8
      case y8 => (intro w hSw; (try dsimp only at hSw); go_simp; (try with_reducible rfl))
      try simp only [Act.put, pA, pB, pC]
      refine tkH 9 (v := ?v9) (nth rfl) (by kernel_rfl) (by kernel_rfl) (by kernel_rfl) (fun _ _ _ h => h) (by rfl) hHeld ?y9 ?r9
      case y9 => (intro w hSw; (try dsimp only at hSw); go_simp; (try with_reducible rfl))
      try simp only [Act.put, pA, pB, pC]
      refine wpAnyH_ready (rs := [10]) (by kernel_rfl) (by simp) ?_
      refine AllReadyH.cons (nth rfl) (fun K hK => ?_) AllReadyH.nil
      go_simp
      refine (span_any a b p1 p3 p2).mono ?_; rintro e w7 ⟨A7, q7, rfl, hb7, ho7⟩; have hb7' : Below wr.heap.size wr w7 := (Below.refl wr.heap.size wr).drew.trans hb7; have Hb7 := Lib.hid hb7'; have Ho7 := Lib.hid ho7; have Ho57 := Lib.hid (Ho5.out.below Hb7.out (Nat.le_refl _)); have hs7 := hb7'.size; clear hb7' ho7; go_simp
      refine hK.out _ _ (⟨cell_later hb7 hHeld.1, cell_later hb7 hHeld.2⟩) (fun hHeld => ?_)
      clear hK K
      try simp only [Act.put, pA, pB, pC]
      refine wpAnyH_ready (rs := [11]) (by kernel_rfl) (by simp) ?_
      refine AllReadyH.cons (nth rfl) (fun K hK => ?_) AllReadyH.nil
      refine step_append_bs rfl (.tmp 62) (.tmp 72) rfl wc.heap.size (.slice A5 X.length q5) (.slice A7 (spB (a, b)).length q7) X (spB (a, b)) (by simp [Act.eval]) Ho57.out (by simp [Act.eval]) Ho7.out.bs (by omega) (by omega) ?_; intro v' w8 h1 h2 h3; have HK := Lib.hid h1; have HG := Lib.hid h2; clear h1 h2 h3
      refine hK.out _ _ (⟨HG.out.cell hHeld.1 Hne.out, HG.out.cell hHeld.2 Hne.out⟩) (fun hHeld => ?_)
      clear hK K
      try simp only [Act.put, pA, pB, pC]
      refine tkH 12 (v := ?va) (nth rfl) (by kernel_rfl) (by kernel_rfl) (by kernel_rfl) (fun _ _ _ h => h) (by rfl) hHeld ?ya ?ra
      case ya => (intro w hSw; (try dsimp only at hSw); go_simp; (try with_reducible rfl))
      try simp only [Act.put, pA, pB, pC]
      refine wpAnyH_done (by kernel_rfl) (NoPanic.normal ?_) _
      clear hHeld hw1 hw2 hw3 hw4 hw5 hw6 hw7
      obtain ⟨A8, q8, rfl, -, -, -⟩ := ownsRow_slice HK.out
      go_wp2_with fail
      refine ⟨⟨k + 1, A8, q8, by omega, by simp only [Hnx.out, List.length_append], by go_num, own_below (Hb5.out.trans (Hb7.out.mono hs5)) Ho57.out (Nat.le_trans hs5 hs7) HG.out, by rw [Hnx.out]; exact HK.out⟩, by simp [intOf]; omega⟩
     ·obtain rfl : k = N.length := by omega
      rw [List.take_length] at Ho5 ho5
      obtain ⟨cs, hcs, hset⟩ := rng_of Hg4.out Hbd4.out Hm4.out
      have hq := string_of_bs Ho5.out.bs
      rw [hcs] at hq
      clear hcs hb5 ho5
      have Hset := Lib.hid hset
      clear hset
      rw [List.take_length]
      go_wp2_with fail
      go_ret2
      exact ⟨cs, rfl, Hset.out, Hb4.out.trans (Hb5.out.mono hs4)⟩
end Go.Proofs.YthhnmpkgleelfaaGreatDoor
