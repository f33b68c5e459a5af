import Derived.Test.YthhnmpkgleelfaaGreatDoorM1
import Derived.Deep.DeepCutAuto
import Derived.Deep.RegionHeld3
set_option linter.unusedVariables false
set_option linter.unusedSimpArgs false
namespace Go.Proofs.YthhnmpkgleelfaaGreatDoor
open Go.RowKit
theorem bs_of4 {w : World} {g c : Nat} {z : Nat × Nat} {cur : Array Value} (xs : List UInt8) (hm : xs.length ≤ c) (h4 : xs.length ≤ 4) (hg : w.heap[g]? = some (.cells cur 5 z)) (he : cur = (bvs xs).toArray) : Bs w (.slice (some ⟨g, 0, none⟩) xs.length c) xs :=
 bs_lit xs (by omega) hm (by rw [hg, he])
theorem byteAt_take' (xs : List UInt8) (k i : Nat) (h : i < k) : byteAt (xs.take k) i = byteAt xs i := by simp [byteAt, List.getElem?_take, h]
theorem Bs.upto {w : World} {A : Option Addr} {c n : Nat} {xs : List UInt8} (h : Bs w (.slice A n c) xs) {k : Nat} (hk : k ≤ xs.length) : Bs w (.slice A k c) (xs.take k) := by
 obtain ⟨hm, A', c', e, hc, hcell⟩ := h
 injection e with e1 e2 e3
 subst e1 e3
 have hl : (xs.take k).length = k := by simp; omega
 refine ⟨by omega, A, c, by rw [hl], by omega, fun h0 => ?_⟩
 obtain ⟨b, o, e, hcl⟩ := hcell (by omega)
 refine ⟨b, o, e, fun i hi => ?_⟩
 rw [byteAt_take' xs k i (by omega)]
 exact hcl i (by omega)
def IsP (c : Int) (w : World) (e : Ending) (w' : World) : Prop := e = .returned (.bool (isR c)) ∧ w = w'
set_option maxHeartbeats 1000000 in
theorem refis_any (c : Int) (w : World) : Calls Tryz.prog 82 #[.int .i32 c] w fun e w' => IsP c w e w' := by
 have hr : isR c = (decide (0 ≤ c) && decide (c ≤ 1114111) && (decide (c < 55296) || decide (57343 < c))) := by
  unfold isR; rw [Bool.eq_iff_iff]; simp <;> omega
 go_enter Tryz.func82, Tryz.ntmps82
 by_cases a1 : 0 ≤ c
 ·by_cases a2 : c ≤ 1114111
  ·by_cases a3 : c < 55296
   ·have hr' := Lib.hid (show isR c = true by rw [hr]; simp [a1, a2, a3])
    clear hr
    go_wp2
    go_ret
    exact ⟨by rw [hr'.out]; rfl, rfl⟩
   ·by_cases a4 : 57343 < c
    ·have hr' := Lib.hid (show isR c = true by rw [hr]; simp [a1, a2, a3, a4])
     clear hr
     go_wp2
     go_ret
     exact ⟨by rw [hr'.out]; rfl, rfl⟩
    ·have hr' := Lib.hid (show isR c = false by rw [hr]; simp [a1, a2, a3, a4])
     clear hr
     go_wp2
     go_ret
     exact ⟨by rw [hr'.out]; rfl, rfl⟩
  ·have hr' := Lib.hid (show isR c = false by rw [hr]; simp [a1, a2])
   clear hr
   go_wp2
   go_ret
   exact ⟨by rw [hr'.out]; rfl, rfl⟩
 ·have hr' := Lib.hid (show isR c = false by rw [hr]; simp [a1])
  clear hr
  go_wp2
  go_ret
  exact ⟨by rw [hr'.out]; rfl, rfl⟩
set_option maxHeartbeats 1000000 in
theorem refform_any {w : World} (c : Int) (hc : isR c = true) : Calls Tryz.prog 84 #[.int .i32 c] w fun e w' => ∃ v, e = .returned v ∧ Below w.heap.size w w' ∧ Bs w' v (frm c) := by
 have hr' := hc
 simp only [isR, Bool.and_eq_true, decide_eq_true_eq, Bool.not_eq_true', Bool.and_eq_false_iff, decide_eq_false_iff_not] at hr'
 have hr0 := hr'.1.1
 have hr1 := hr'.1.2
 clear hr'
 by_cases h1 : c < 128
 ·have e := Lib.hid (show frm c = [UInt8.ofNat c.toNat] by rw [frm, if_pos hc, if_pos h1])
  clear hc
  go_enter Tryz.func84, Tryz.ntmps84
  go_wp2
  go_ret
  refine ⟨_, rfl, alloc_below _ _, ?_⟩
  rw [e.out]
  exact bs_of4 [_] (by simp) (by simp) (heap_alloc_new _ _) (by simp only [bvs, bv, List.map]; rw [ofNat_toNat8 _ (by omega)])
 by_cases h2 : c < 2048
 ·have e := Lib.hid (show frm c = [UInt8.ofNat (192 + c / 64).toNat, UInt8.ofNat (128 + c % 64).toNat] by rw [frm, if_pos hc, if_neg h1, if_pos h2])
  clear hc
  go_enter Tryz.func84, Tryz.ntmps84
  go_wp2
  go_ret
  refine ⟨_, rfl, alloc_below _ _, ?_⟩
  rw [e.out]
  exact bs_of4 [_, _] (by simp) (by simp) (heap_alloc_new _ _) (by simp only [bvs, bv, List.map]; rw [ofNat_toNat8 _ (by omega), ofNat_toNat8 _ (by omega)])
 by_cases h3 : c < 65536
 ·have e := Lib.hid (show frm c = [UInt8.ofNat (224 + c / 4096).toNat, UInt8.ofNat (128 + c / 64 % 64).toNat, UInt8.ofNat (128 + c % 64).toNat] by rw [frm, if_pos hc, if_neg h1, if_neg h2, if_pos h3])
  clear hc
  go_enter Tryz.func84, Tryz.ntmps84
  go_wp2
  go_ret
  refine ⟨_, rfl, alloc_below _ _, ?_⟩
  rw [e.out]
  exact bs_of4 [_, _, _] (by simp) (by simp) (heap_alloc_new _ _) (by simp only [bvs, bv, List.map]; rw [ofNat_toNat8 _ (by omega), ofNat_toNat8 _ (by omega), ofNat_toNat8 _ (by omega)])
 ·have e := Lib.hid (show frm c = [UInt8.ofNat (240 + c / 262144).toNat, UInt8.ofNat (128 + c / 4096 % 64).toNat, UInt8.ofNat (128 + c / 64 % 64).toNat, UInt8.ofNat (128 + c % 64).toNat] by rw [frm, if_pos hc, if_neg h1, if_neg h2, if_neg h3])
  clear hc
  go_enter Tryz.func84, Tryz.ntmps84
  go_wp2
  go_ret
  refine ⟨_, rfl, alloc_below _ _, ?_⟩
  rw [e.out]
  exact bs_of4 [_, _, _, _] (by simp) (by simp) (heap_alloc_new _ _) (by simp only [bvs, bv, List.map]; rw [ofNat_toNat8 _ (by omega), ofNat_toNat8 _ (by omega), ofNat_toNat8 _ (by omega), ofNat_toNat8 _ (by omega)])
theorem OwnB.form {w : World} {base : Nat} {v : Value} {ys : List UInt8} (h : OwnB w base v ys) (h0 : 0 < ys.length) :
  ∃ g cap, v = .slice (some ⟨g, 0, none⟩) ys.length cap ∧ base ≤ g ∧ g < w.heap.size ∧ ys.length ≤ cap ∧ v.ownBlock = some g := by
 obtain ⟨_, ⟨rfl, h1⟩ | ⟨g, cap, cur, rfl, hb, hg, hn, _⟩⟩ := h
 ·omega
 ·exact ⟨g, cap, rfl, hb, lt_of_heap hg, hn, rfl⟩
theorem OwnB.cellAt {w : World} {base g n cap : Nat} {ys : List UInt8} (h : OwnB w base (.slice (some ⟨g, 0, none⟩) n cap) ys) (hn : ys.length = n) (k : Nat) (hk : k < n) :
  w.cell? ⟨g, k, none⟩ = some (.int .u8 (byteAt ys k)) ∧ w.frozen? ⟨g, k, none⟩ = false := by
 subst hn
 exact ⟨by rw [World.ownsRow.cellAt h k (by omega)]; exact bvs_get ys k hk, World.ownsRow.frozenAt h k⟩
theorem OwnB.stored {w : World} {base g n cap : Nat} {ys : List UInt8} (h : OwnB w base (.slice (some ⟨g, 0, none⟩) n cap) ys) (hn : ys.length = n) (k : Nat) (u : UInt8) :
  OwnB (w.setCell ⟨g, k, none⟩ (bv u)) base (.slice (some ⟨g, 0, none⟩) n cap) (ys.set k u) ∧ w.grownBy (w.setCell ⟨g, k, none⟩ (bv u)) (some g) := by
 subst hn
 have := World.ownsRow.stored h k (bv u)
 exact ⟨by unfold OwnB; rw [List.length_set, show bvs (ys.set k u) = (bvs ys).set k (bv u) by simp [bvs, List.map_set]]; exact this.1, this.2⟩
set_option maxHeartbeats 1000000 in
theorem refclass_any (x : Int) (w : World) : Calls Tryz.prog 80 #[.int .u8 x] w fun e w' => e = .returned (.int .i64 (refc x)) ∧ w = w' := by
 have hR := Lib.hid (show ∀ n, refc x = n → Ending.returned (.int .i64 n) = .returned (.int .i64 (refc x)) from fun n h => by rw [h])
 go_enter Tryz.func80, Tryz.ntmps80
 by_cases h1 : x < 128
 ·have hr := Lib.hid (show refc x = 1 by simp [refc, h1])
  go_wp2
  go_ret
  exact ⟨hR.out _ hr.out, rfl⟩
 by_cases h2 : x < 192
 ·have hr := Lib.hid (show refc x = 0 by simp [refc, h1, h2])
  go_wp2
  go_ret
  exact ⟨hR.out _ hr.out, rfl⟩
 by_cases h3 : x < 194
 ·have hr := Lib.hid (show refc x = -1 by unfold refc; rw [if_neg h1, if_neg h2, if_neg (by omega), if_neg (by omega), if_neg (by omega)])
  go_wp2
  go_ret
  exact ⟨hR.out _ hr.out, rfl⟩
 by_cases h4 : x ≤ 223
 ·have hr := Lib.hid (show refc x = 2 by unfold refc; rw [if_neg h1, if_neg h2, if_pos (by omega)])
  go_wp2
  go_ret
  exact ⟨hR.out _ hr.out, rfl⟩
 by_cases h5 : x ≤ 239
 ·have hr := Lib.hid (show refc x = 3 by unfold refc; rw [if_neg h1, if_neg h2, if_neg (by omega), if_pos (by omega)])
  go_wp2
  go_ret
  exact ⟨hR.out _ hr.out, rfl⟩
 by_cases h6 : x ≤ 244
 ·have hr := Lib.hid (show refc x = 4 by unfold refc; rw [if_neg h1, if_neg h2, if_neg (by omega), if_neg (by omega), if_pos (by omega)])
  go_wp2
  go_ret
  exact ⟨hR.out _ hr.out, rfl⟩
 ·have hr := Lib.hid (show refc x = -1 by unfold refc; rw [if_neg h1, if_neg h2, if_neg (by omega), if_neg (by omega), if_neg (by omega)])
  go_wp2
  go_ret
  exact ⟨hR.out _ hr.out, rfl⟩
def NumRel (w : World) (N : Nat → Int) (n : Nat) (s7 s8 s9 : Value) (wr : World) : Prop := ∃ k : Nat, 1 ≤ k ∧ k ≤ n ∧ s7 = .int .i64 (N (k - 1)) ∧ s8 = .int .i64 k ∧ w = wr
def NumP (r : Int) (w : World) (e : Ending) (w' : World) : Prop := e = .returned (.int .i64 r) ∧ w = w'
set_option maxHeartbeats 1000000 in
theorem number_any {w : World} {v : Value} {xs : List UInt8} (hb : Bs w v xs) (h0 : 0 < xs.length) (n : Nat) (h1 : 1 ≤ n) (h4 : n ≤ 4) (fill : Int) (hf : 0 ≤ fill ∧ fill ≤ 63) :
  Calls Tryz.prog 81 #[v, .int .i64 n, .int .i64 fill] w fun e w' => NumP (numK xs n fill (n - 1)) w e w' := by
 obtain ⟨hm, A, cap, rfl, hcap, hcell⟩ := id hb
 obtain ⟨b, o, rfl, hcl⟩ := hcell h0
 have c0 := hcl 0 h0
 rw [Nat.add_zero] at c0
 have hb0 := byteAt_lt xs 0
 have H1 := Lib.hid hcl
 have Hbd := Lib.hid (fun k => numK_bd xs n hf k)
 have Hz := Lib.hid (show numK xs n fill 0 = headN (byteAt xs 0) n from rfl)
 clear hcl hb hcell
 go_enter Tryz.func81, Tryz.ntmps81
 have Hn := Lib.hid (show ∀ k, 1 ≤ k → numK xs n fill k = numK xs n fill (k - 1) * 64 + digN xs fill k from fun k hk => by obtain ⟨j, rfl⟩ : ∃ j, k = j + 1 := ⟨k - 1, by omega⟩; rfl)
 have hn : n = 1 ∨ n = 2 ∨ n = 3 ∨ n = 4 := by omega
 rcases hn with hn | hn | hn | hn
 ·have e2 : ((n : Int) == 2) = false := by rw [hn]; rfl
  have e3 : ((n : Int) == 3) = false := by rw [hn]; rfl
  have e4 : ((n : Int) == 4) = false := by rw [hn]; rfl
  have Hz2 := Hz.out
  have Hz4 : headN (byteAt xs 0) n = (byteAt xs 0 : Int) := by rw [hn]; rfl
  generalize hN : numK xs n fill = N at *
  have Hz3 := Lib.hid (Hz2.trans Hz4)
  clear Hz2 Hz4 hN Hz
  go_wp2_with fail
  go_loopw [7, 8, 9] (NumRel w N n) (fun _ i _ _ => 4 - (intOf i).toNat)
  case atStart => exact ⟨1, by omega, by omega, congrArg _ Hz3.out.symm, rfl, rfl⟩
  case round =>
   obtain ⟨k, hk1, hk2, rfl, rfl, rfl⟩ := hrel
   by_cases hlt : k < n
   ·exfalso; omega
   ·obtain hkn : k = n := by omega
    subst hkn
    go_wp2
    go_ret
    exact ⟨rfl, rfl⟩
 ·have e2 : ((n : Int) == 2) = true := by rw [hn]; rfl
  have e3 : ((n : Int) == 3) = false := by rw [hn]; rfl
  have e4 : ((n : Int) == 4) = false := by rw [hn]; rfl
  have Hz2 := Hz.out
  have Hz4 : headN (byteAt xs 0) n = (byteAt xs 0 : Int) - 192 := by rw [hn]; rfl
  generalize hN : numK xs n fill = N at *
  have Hz3 := Lib.hid (Hz2.trans Hz4)
  clear Hz2 Hz4 hN Hz
  go_wp2_with fail
  go_loopw [7, 8, 9] (NumRel w N n) (fun _ i _ _ => 4 - (intOf i).toNat)
  case atStart => exact ⟨1, by omega, by omega, congrArg _ Hz3.out.symm, rfl, rfl⟩
  case round =>
   obtain ⟨k, hk1, hk2, rfl, rfl, rfl⟩ := hrel
   by_cases hlt : k < n
   ·have hb1 := Hbd.out (k - 1) (by omega)
    have hb2 := Hbd.out k (by omega)
    have hs := Lib.hid (Hn.out k hk1)
    rw [hs.out] at hb2
    generalize N (k - 1) = z at *
    by_cases hin : k < xs.length
    ·have c1 := H1.out k hin
     have hd : digN xs fill k = byteAt xs k - 128 := by unfold digN; rw [if_pos hin]
     have hb3 := byteAt_lt xs k
     rw [hd] at hb2 hs
     clear hd
     go_wp2_with fail
     exact ⟨⟨k + 1, by omega, by omega, by rw [show k + 1 - 1 = k by omega, hs.out], by go_num, rfl⟩, by simp [intOf]; omega⟩
    ·have hd : digN xs fill k = fill := by unfold digN; rw [if_neg hin]
     rw [hd] at hb2 hs
     clear hd
     go_wp2_with fail
     exact ⟨⟨k + 1, by omega, by omega, by rw [show k + 1 - 1 = k by omega, hs.out], by go_num, rfl⟩, by simp [intOf]; omega⟩
   ·obtain hkn : k = n := by omega
    subst hkn
    go_wp2
    go_ret
    exact ⟨rfl, rfl⟩
 ·have e2 : ((n : Int) == 2) = false := by rw [hn]; rfl
  have e3 : ((n : Int) == 3) = true := by rw [hn]; rfl
  have e4 : ((n : Int) == 4) = false := by rw [hn]; rfl
  have Hz2 := Hz.out
  have Hz4 : headN (byteAt xs 0) n = (byteAt xs 0 : Int) - 224 := by rw [hn]; rfl
  generalize hN : numK xs n fill = N at *
  have Hz3 := Lib.hid (Hz2.trans Hz4)
  clear Hz2 Hz4 hN Hz
  go_wp2_with fail
  go_loopw [7, 8, 9] (NumRel w N n) (fun _ i _ _ => 4 - (intOf i).toNat)
  case atStart => exact ⟨1, by omega, by omega, congrArg _ Hz3.out.symm, rfl, rfl⟩
  case round =>
   obtain ⟨k, hk1, hk2, rfl, rfl, rfl⟩ := hrel
   by_cases hlt : k < n
   ·have hb1 := Hbd.out (k - 1) (by omega)
    have hb2 := Hbd.out k (by omega)
    have hs := Lib.hid (Hn.out k hk1)
    rw [hs.out] at hb2
    generalize N (k - 1) = z at *
    by_cases hin : k < xs.length
    ·have c1 := H1.out k hin
     have hd : digN xs fill k = byteAt xs k - 128 := by unfold digN; rw [if_pos hin]
     have hb3 := byteAt_lt xs k
     rw [hd] at hb2 hs
     clear hd
     go_wp2_with fail
     exact ⟨⟨k + 1, by omega, by omega, by rw [show k + 1 - 1 = k by omega, hs.out], by go_num, rfl⟩, by simp [intOf]; omega⟩
    ·have hd : digN xs fill k = fill := by unfold digN; rw [if_neg hin]
     rw [hd] at hb2 hs
     clear hd
     go_wp2_with fail
     exact ⟨⟨k + 1, by omega, by omega, by rw [show k + 1 - 1 = k by omega, hs.out], by go_num, rfl⟩, by simp [intOf]; omega⟩
   ·obtain hkn : k = n := by omega
    subst hkn
    go_wp2
    go_ret
    exact ⟨rfl, rfl⟩
 ·have e2 : ((n : Int) == 2) = false := by rw [hn]; rfl
  have e3 : ((n : Int) == 3) = false := by rw [hn]; rfl
  have e4 : ((n : Int) == 4) = true := by rw [hn]; rfl
  have Hz2 := Hz.out
  have Hz4 : headN (byteAt xs 0) n = (byteAt xs 0 : Int) - 240 := by rw [hn]; rfl
  generalize hN : numK xs n fill = N at *
  have Hz3 := Lib.hid (Hz2.trans Hz4)
  clear Hz2 Hz4 hN Hz
  go_wp2_with fail
  go_loopw [7, 8, 9] (NumRel w N n) (fun _ i _ _ => 4 - (intOf i).toNat)
  case atStart => exact ⟨1, by omega, by omega, congrArg _ Hz3.out.symm, rfl, rfl⟩
  case round =>
   obtain ⟨k, hk1, hk2, rfl, rfl, rfl⟩ := hrel
   by_cases hlt : k < n
   ·have hb1 := Hbd.out (k - 1) (by omega)
    have hb2 := Hbd.out k (by omega)
    have hs := Lib.hid (Hn.out k hk1)
    rw [hs.out] at hb2
    generalize N (k - 1) = z at *
    by_cases hin : k < xs.length
    ·have c1 := H1.out k hin
     have hd : digN xs fill k = byteAt xs k - 128 := by unfold digN; rw [if_pos hin]
     have hb3 := byteAt_lt xs k
     rw [hd] at hb2 hs
     clear hd
     go_wp2_with fail
     exact ⟨⟨k + 1, by omega, by omega, by rw [show k + 1 - 1 = k by omega, hs.out], by go_num, rfl⟩, by simp [intOf]; omega⟩
    ·have hd : digN xs fill k = fill := by unfold digN; rw [if_neg hin]
     rw [hd] at hb2 hs
     clear hd
     go_wp2_with fail
     exact ⟨⟨k + 1, by omega, by omega, by rw [show k + 1 - 1 = k by omega, hs.out], by go_num, rfl⟩, by simp [intOf]; omega⟩
   ·obtain hkn : k = n := by omega
    subst hkn
    go_wp2
    go_ret
    exact ⟨rfl, rfl⟩
def BeginsP (xs ys : List UInt8) (w : World) (e : Ending) (w' : World) : Prop := e = .returned (.bool (xs.take ys.length == ys)) ∧ ∃ m, w' = w.drewN m
set_option maxHeartbeats 1000000 in
theorem begins_any {w : World} {v u : Value} {xs ys : List UInt8} (hb : Bs w v xs) (hc : Bs w u ys) : Calls Tryz.prog 83 #[v, u] w fun e w' => BeginsP xs ys w e w' := by
 obtain ⟨hm, A, cap, rfl, hcap, -⟩ := id hb
 obtain ⟨hm2, B, cap2, rfl, hcap2, -⟩ := id hc
 by_cases hl : ys.length ≤ xs.length
 ·have hcap' : ys.length ≤ cap := by omega
  have q1 : ∀ n, (convert 54 9 (.slice A ys.length cap)).run Tryz.prog (w.drewN n) = .ok (.string ⟨(xs.take ys.length).toArray⟩) (w.drewN n) := fun n => string_of_bs ((hb.upto hl).drewN n)
  have q2 := fun n => string_of_bs (hc.drewN n)
  clear hb hc
  go_enter Tryz.func83, Tryz.ntmps83
  go_wp2_with fail
  go_quiet (fail)
  go_wp2
  go_ret
  exact ⟨rfl, _, rfl⟩
 ·have hne := Lib.hid (show (xs.take ys.length == ys) = false from beq_eq_false_iff_ne.2 (fun h => by have := congrArg List.length h; rw [List.length_take] at this; omega))
  clear hb hc
  go_enter Tryz.func83, Tryz.ntmps83
  go_wp2
  go_ret
  exact ⟨by rw [hne.out]; rfl, 0, rfl⟩
def AnyBool (w : World) (e : Ending) (w' : World) : Prop := (∃ b, e = .returned (.bool b)) ∧ Below w.heap.size w w'
def CutRel (w : World) (len : Nat) (s5 : Value) (wr : World) : Prop := ∃ k : Nat, 1 ≤ k ∧ k ≤ len ∧ s5 = .int .i64 k ∧ w = wr
set_option maxRecDepth 100000 in
set_option maxHeartbeats 1000000 in
theorem cut_any {w : World} {v : Value} {xs : List UInt8} (hb : Bs w v xs) (h0 : 0 < xs.length) (n : Nat) (h4 : n ≤ 4) (hl : xs.length < n) :
  Calls Tryz.prog 85 #[v, .int .i64 n] w fun e w' => AnyBool w e w' := by
 obtain ⟨hm, A, cap, rfl, hcap, hcell⟩ := id hb
 obtain ⟨b, o, rfl, hcl⟩ := hcell h0
 have H1 := Lib.hid hcl
 have Hb := Lib.hid hb
 clear hcl hb hcell
 go_enter Tryz.func85, Tryz.ntmps85
 go_wp2_with fail
 go_loopw [5] (CutRel w xs.length) (fun i _ => xs.length - (intOf i).toNat)
 case atStart => exact ⟨1, by omega, by omega, rfl, rfl⟩
 case round =>
  obtain ⟨k, hk1, hk2, rfl, rfl⟩ := hrel
  by_cases hlt : k < xs.length
  ·have c1 := H1.out k hlt
   have hb3 := byteAt_lt xs k
   by_cases t1 : byteAt xs k < 128
   ·have t1' : ((byteAt xs k : Nat) : Int) < 128 := by omega
    go_wp2_with fail
    go_ret
    exact ⟨⟨_, rfl⟩, Below.refl _ _⟩
   ·have t1' : ¬ ((byteAt xs k : Nat) : Int) < 128 := by omega
    by_cases t2 : byteAt xs k ≤ 191
    ·have t2' : ((byteAt xs k : Nat) : Int) ≤ 191 := by omega
     go_wp2_with fail
     exact ⟨⟨k + 1, by omega, by omega, by go_num, rfl⟩, by simp [intOf]; omega⟩
    ·have t2' : ¬ ((byteAt xs k : Nat) : Int) ≤ 191 := by omega
     go_wp2_with fail
     go_ret
     exact ⟨⟨_, rfl⟩, Below.refl _ _⟩
  ·obtain hkn : k = xs.length := by omega
   subst hkn
   have hn : n = 2 ∨ n = 3 ∨ n = 4 := by omega
   go_wp2_with fail
   refine (number_any Hb.out h0 n (by omega) h4 0 (by omega)).mono ?_
   rintro e w' ⟨rfl, rfl⟩
   go_wp2_with fail
   refine (number_any Hb.out h0 n (by omega) h4 63 (by omega)).mono ?_
   rintro e w' ⟨rfl, rfl⟩
   generalize numK xs n 0 (n - 1) = x
   generalize numK xs n 63 (n - 1) = y
   rcases hn with rfl | rfl | rfl
   all_goals
    go_wp2_with fail
    all_goals
     go_ret
     exact ⟨⟨_, rfl⟩, ((Below.refl _ _).alloc (Nat.le_refl _) _).alloc (by simp) _⟩
def RDec (r : Nat × Nat × Nat) (w : World) (e : Ending) (w' : World) : Prop := (∃ code : Int, e = .returned (.tuple #[.int .i32 r.1, .int .i64 r.2.1, .int .i64 code]) ∧ (code = 0 ↔ r.2.2 = 0)) ∧ Below w.heap.size w w'
def GoodRel (w : World) (xs : List UInt8) (n : Nat) (s6 s7 : Value) (wr : World) : Prop := ∃ k : Nat, 1 ≤ k ∧ k ≤ n ∧ s6 = .bool (goodK xs (k - 1)) ∧ s7 = .int .i64 k ∧ w = wr
set_option maxRecDepth 100000 in
set_option maxHeartbeats 1000000 in
theorem refdec_any {w : World} {v : Value} {xs : List UInt8} (hb : Bs w v xs) : Calls Tryz.prog 56 #[v] w fun e w' => RDec (dec xs) w e w' := by
 obtain ⟨hm, A, cap, rfl, hcap, hcell⟩ := id hb
 have Hcell := Lib.hid hcell
 have Hb := Lib.hid hb
 clear hcell hb
 by_cases h0 : xs.length = 0
 ·obtain rfl : xs = [] := List.eq_nil_of_length_eq_zero h0
  go_enter Tryz.func56, Tryz.ntmps56
  go_wp2
  go_ret3
  exact ⟨⟨103, rfl, by simp [dec]⟩, Below.refl _ _⟩
 have h0' : (((xs.length : Nat) : Int) == 0) = false := beq_eq_false_iff_ne.2 (by omega)
 obtain ⟨b, o, rfl, hcl⟩ := Hcell.out (by omega)
 have c0 := hcl 0 (by omega)
 rw [Nat.add_zero] at c0
 have hx := byteAt_lt xs 0
 have Hcl := Lib.hid hcl
 clear hcl Hcell
 have hcls := classI_cases (byteAt xs 0) hx
 have Hq := Lib.hid (refc_eq (byteAt xs 0) hx)
 go_enter Tryz.func56, Tryz.ntmps56
 go_wp2_with fail
 refine (refclass_any _ _).mono ?_
 rintro e w' ⟨rfl, rfl⟩
 rw [Hq.out]
 by_cases hc1 : classI (byteAt xs 0) < 1
 ·have hd := Lib.hid (dec_0 (by omega) hc1)
  go_wp2
  go_ret3
  exact ⟨⟨101, by rw [hd.out]; rfl, by rw [hd.out]; simp⟩, Below.refl _ _⟩
 obtain ⟨n, hn, hn1, hn4⟩ : ∃ n : Nat, classI (byteAt xs 0) = n ∧ 1 ≤ n ∧ n ≤ 4 := by
  rcases hcls with h | h | h | h | h
  ·omega
  ·exact ⟨1, h, by omega, by omega⟩
  ·exact ⟨2, h, by omega, by omega⟩
  ·exact ⟨3, h, by omega, by omega⟩
  ·exact ⟨4, h, by omega, by omega⟩
 rw [hn]
 have Hback := Lib.hid (fun h => ref_back (xs := xs) h)
 have Hyes := Lib.hid (fun (c : Int) hr hb => ref_yes (xs := xs) hn (c := c) hr hb)
 have Hn := Lib.hid hn
 clear hcls hc1 hn
 by_cases hlen : n ≤ xs.length
 ·go_wp2_with fail
  go_loopw [6, 7] (GoodRel w xs n) (fun _ i _ => n - (intOf i).toNat)
  case atStart => exact ⟨1, by omega, by omega, rfl, rfl, rfl⟩
  case round =>
   obtain ⟨k, hk1, hk2, rfl, rfl, rfl⟩ := hrel
   by_cases hlt : k < n
   ·have c1 := Hcl.out k (by omega)
    have hb3 := byteAt_lt xs k
    have hg := Lib.hid (show goodK xs k = (goodK xs (k - 1) && (decide (128 ≤ byteAt xs k) && decide (byteAt xs k ≤ 191))) from by obtain ⟨j, rfl⟩ : ∃ j, k = j + 1 := ⟨k - 1, by omega⟩; rfl)
    cases hgk : goodK xs (k - 1)
    ·have hg2 := Lib.hid (show goodK xs k = false by rw [hg.out, hgk]; rfl)
     clear hgk
     go_wp2_with fail
     exact ⟨⟨k + 1, by omega, by omega, by rw [show k + 1 - 1 = k by omega, hg2.out], by go_num, rfl⟩, by simp [intOf]; omega⟩
    ·by_cases t1 : 128 ≤ byteAt xs k
     ·have t1' : 128 ≤ ((byteAt xs k : Nat) : Int) := by omega
      by_cases t2 : byteAt xs k ≤ 191
      ·have t2' : ((byteAt xs k : Nat) : Int) ≤ 191 := by omega
       have hg2 := Lib.hid (show goodK xs k = true by rw [hg.out, hgk]; simp [t1, t2])
       clear hgk
       go_wp2_with fail
       exact ⟨⟨k + 1, by omega, by omega, by rw [show k + 1 - 1 = k by omega, hg2.out], by go_num, rfl⟩, by simp [intOf]; omega⟩
      ·have t2' : ¬ ((byteAt xs k : Nat) : Int) ≤ 191 := by omega
       have hg2 := Lib.hid (show goodK xs k = false by rw [hg.out, hgk]; simp [t2])
       clear hgk
       go_wp2_with fail
       exact ⟨⟨k + 1, by omega, by omega, by rw [show k + 1 - 1 = k by omega, hg2.out], by go_num, rfl⟩, by simp [intOf]; omega⟩
     ·have t1' : ¬ 128 ≤ ((byteAt xs k : Nat) : Int) := by omega
      have hg2 := Lib.hid (show goodK xs k = false by rw [hg.out, hgk]; simp [t1])
      clear hgk
      go_wp2_with fail
      exact ⟨⟨k + 1, by omega, by omega, by rw [show k + 1 - 1 = k by omega, hg2.out], by go_num, rfl⟩, by simp [intOf]; omega⟩
   ·obtain hkn : k = n := by omega
    subst hkn
    go_wp2_with fail
    refine (number_any Hb.out (by omega) k hk1 hn4 0 (by omega)).mono ?_
    rintro e w' ⟨rfl, rfl⟩
    have hbk : (dec xs).2.2 = 0 → goodK xs (k - 1) = true ∧ wrap32 (numK xs k 0 (k - 1)) = (dec xs).1 ∧ isR (dec xs).1 = true ∧ xs.take (frm (dec xs).1).length = frm (dec xs).1 := fun h => by
     obtain ⟨m, hm1, hm4, hm, hgd, hnum, hr, htk⟩ := Hback.out h
     obtain rfl : m = k := by have := Hn.out; omega
     refine ⟨hgd, ?_, hr, htk⟩
     rw [hnum]
     exact wrap32_of (by have := isR_pos hr; omega) (by have := isR_le hr; omega)
    have Hbk := Lib.hid hbk
    clear hbk
    obtain ⟨c, hc⟩ : ∃ c, wrap32 (numK xs k 0 (k - 1)) = c := ⟨_, rfl⟩
    go_upto_region 13 with fail
    rw [hc] at Hbk ⊢
    clear hc
    have hno : goodK xs (k - 1) = false ∨ isR c = false ∨ (xs.take (frm c).length == frm c) = false → (dec xs).2.2 ≠ 0 := fun h e => by
     obtain ⟨h1, h2, h3, h4⟩ := Hbk.out e
     subst h2
     rcases h with h | h | h
     ·rw [h1] at h; cases h
     ·rw [h3] at h; cases h
     ·rw [h4] at h; simp at h
    have Hno := Lib.hid hno
    clear hno
    cases hgk : goodK xs (k - 1)
    ·have hn0 := Lib.hid (Hno.out (.inl hgk))
     clear hgk
     go_wp2
     go_ret3
     exact ⟨⟨101, by rw [dec_err hn0.out]; rfl, by rw [dec_err hn0.out]; simp [hn0.out]⟩, Below.refl _ _⟩
    ·clear hgk
     go_wp2_with fail
     refine (refis_any c w).mono ?_
     rintro e w' ⟨rfl, rfl⟩
     cases hr : isR c
     ·have hn0 := Lib.hid (Hno.out (.inr (.inl hr)))
      clear hr
      go_wp2
      go_ret3
      exact ⟨⟨101, by rw [dec_err hn0.out]; rfl, by rw [dec_err hn0.out]; simp [hn0.out]⟩, Below.refl _ _⟩
     ·have Hr := Lib.hid hr
      clear hr
      go_wp2_with fail
      refine (refform_any c Hr.out).mono ?_
      rintro e w1 ⟨vf, rfl, hb1, hf1⟩
      have Hb1 := Lib.hid hb1
      have Hf1 := Lib.hid hf1
      clear hb1 hf1
      go_wp2_with fail
      refine (begins_any (Hb.out.below Hb1.out) Hf1.out).mono ?_
      rintro e w' ⟨rfl, m, rfl⟩
      cases ht : (xs.take (frm c).length == frm c)
      ·have hn0 := Lib.hid (Hno.out (.inr (.inr ht)))
       clear ht
       go_wp2
       go_ret3
       exact ⟨⟨101, by rw [dec_err hn0.out]; rfl, by rw [dec_err hn0.out]; simp [hn0.out]⟩, blw_drewN Hb1.out m⟩
      ·have hd := Lib.hid (Hyes.out c Hr.out (by simpa using ht))
       have hcn := Lib.hid (show ((c.toNat : Nat) : Int) = c by have := isR_pos Hr.out; omega)
       clear ht
       go_wp2
       go_ret3
       exact ⟨⟨0, by rw [hd.out, hcn.out]; rfl, by rw [hd.out]; simp⟩, blw_drewN Hb1.out m⟩
 ·have hno : Hid ((dec xs).2.2 ≠ 0) := Lib.hid (fun h => by
   obtain ⟨m, hm1, hm4, hm, hgd, hnum, hr, htk⟩ := Hback.out h
   obtain rfl : m = n := by have := Hn.out; omega
   have hd := Hyes.out _ hr htk
   have := dec_le xs
   rw [hd] at this
   simp at this
   omega)
  go_wp2_with fail
  refine (cut_any Hb.out (by omega) n hn4 (by omega)).mono ?_
  rintro e w' ⟨⟨bb, rfl⟩, hbl⟩
  cases bb
  all_goals
   go_wp2
   go_ret3
   exact ⟨⟨_, by rw [dec_err hno.out]; rfl, by rw [dec_err hno.out]; simp [hno.out]⟩, hbl⟩
end Go.Proofs.YthhnmpkgleelfaaGreatDoor
