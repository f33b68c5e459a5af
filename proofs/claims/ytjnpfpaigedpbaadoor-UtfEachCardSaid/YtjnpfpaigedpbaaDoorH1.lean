import Derived.Test.YtjnpfpaigedpbaaDoorP6
import Derived.Test.YtjnpfpaigedpbaaDoorG1
namespace Go.Proofs.YtjnpfpaigedpbaaDoor
open Go.RowKit

def NumRel (w : World) (N : Nat → Int) (n : Nat) (s7 s8 s9 : Value) (wr : World) : Prop := ∃ k : Nat, 1 ≤ k ∧ k ≤ n ∧ s7 = .int .i64 (N (k - 1)) ∧ s8 = .int .i64 k ∧ w = wr
def NumP (r : Int) (w : World) (e : Ending) (w' : World) : Prop := e = .returned (.int .i64 r) ∧ w = w'
set_option maxHeartbeats 1000000 in
/-- wicketref2.number. -/
theorem number_any {w : World} {v : Value} {xs : List UInt8} (hb : Bs w v xs) (h0 : 0 < xs.length) (n : Nat) (h1 : 1 ≤ n) (h4 : n ≤ 4) (fill : Int) (hf : 0 ≤ fill ∧ fill ≤ 63) :
    Calls Tryd.prog 34 #[v, .int .i64 n, .int .i64 fill] w fun e w' => NumP (numK xs n fill (n - 1)) w e w' := by
  obtain ⟨hm, A, cap, rfl, hcap, hcell⟩ := id hb
  obtain ⟨b, o, rfl, hcl⟩ := hcell h0
  have c0 := hcl 0 h0
  rw [Nat.add_zero] at c0
  have hb0 := byteAt_lt xs 0
  have H1 := Lib.hid hcl
  have Hbd := Lib.hid (fun k => numK_bd xs n hf k)
  have Hz := Lib.hid (show numK xs n fill 0 = headN (byteAt xs 0) n from rfl)
  clear hcl hb hcell
  go_enter Tryd.func34, Tryd.ntmps34
  have Hn := Lib.hid (show ∀ k, 1 ≤ k → numK xs n fill k = numK xs n fill (k - 1) * 64 + digN xs fill k from fun k hk => by obtain ⟨j, rfl⟩ : ∃ j, k = j + 1 := ⟨k - 1, by omega⟩; rfl)
  have hn : n = 1 ∨ n = 2 ∨ n = 3 ∨ n = 4 := by omega
  rcases hn with hn | hn | hn | hn
  · have e2 : ((n : Int) == 2) = false := by rw [hn]; rfl
    have e3 : ((n : Int) == 3) = false := by rw [hn]; rfl
    have e4 : ((n : Int) == 4) = false := by rw [hn]; rfl
    have Hz2 := Hz.out
    have Hz4 : headN (byteAt xs 0) n = (byteAt xs 0 : Int) := by rw [hn]; rfl
    generalize hN : numK xs n fill = N at *
    have Hz3 := Lib.hid (Hz2.trans Hz4)
    clear Hz2 Hz4 hN Hz
    go_wp2_with fail
    go_loopw [7, 8, 9] (NumRel w N n) (fun _ i _ _ => 4 - (intOf i).toNat)
    case atStart => exact ⟨1, by omega, by omega, congrArg _ Hz3.out.symm, rfl, rfl⟩
    case round =>
      obtain ⟨k, hk1, hk2, rfl, rfl, rfl⟩ := hrel
      by_cases hlt : k < n
      · exfalso; omega
      · obtain hkn : k = n := by omega
        subst hkn
        go_wp2
        go_ret
        exact ⟨rfl, rfl⟩
  · have e2 : ((n : Int) == 2) = true := by rw [hn]; rfl
    have e3 : ((n : Int) == 3) = false := by rw [hn]; rfl
    have e4 : ((n : Int) == 4) = false := by rw [hn]; rfl
    have Hz2 := Hz.out
    have Hz4 : headN (byteAt xs 0) n = (byteAt xs 0 : Int) - 192 := by rw [hn]; rfl
    generalize hN : numK xs n fill = N at *
    have Hz3 := Lib.hid (Hz2.trans Hz4)
    clear Hz2 Hz4 hN Hz
    go_wp2_with fail
    go_loopw [7, 8, 9] (NumRel w N n) (fun _ i _ _ => 4 - (intOf i).toNat)
    case atStart => exact ⟨1, by omega, by omega, congrArg _ Hz3.out.symm, rfl, rfl⟩
    case round =>
      obtain ⟨k, hk1, hk2, rfl, rfl, rfl⟩ := hrel
      by_cases hlt : k < n
      · have hb1 := Hbd.out (k - 1) (by omega)
        have hb2 := Hbd.out k (by omega)
        have hs := Lib.hid (Hn.out k hk1)
        rw [hs.out] at hb2
        generalize N (k - 1) = z at *
        by_cases hin : k < xs.length
        · have c1 := H1.out k hin
          have hd : digN xs fill k = byteAt xs k - 128 := by unfold digN; rw [if_pos hin]
          have hb3 := byteAt_lt xs k
          rw [hd] at hb2 hs
          clear hd
          go_wp2_with fail
          exact ⟨⟨k + 1, by omega, by omega, by rw [show k + 1 - 1 = k by omega, hs.out], by go_num, rfl⟩, by simp [intOf]; omega⟩
        · have hd : digN xs fill k = fill := by unfold digN; rw [if_neg hin]
          rw [hd] at hb2 hs
          clear hd
          go_wp2_with fail
          exact ⟨⟨k + 1, by omega, by omega, by rw [show k + 1 - 1 = k by omega, hs.out], by go_num, rfl⟩, by simp [intOf]; omega⟩
      · obtain hkn : k = n := by omega
        subst hkn
        go_wp2
        go_ret
        exact ⟨rfl, rfl⟩
  · have e2 : ((n : Int) == 2) = false := by rw [hn]; rfl
    have e3 : ((n : Int) == 3) = true := by rw [hn]; rfl
    have e4 : ((n : Int) == 4) = false := by rw [hn]; rfl
    have Hz2 := Hz.out
    have Hz4 : headN (byteAt xs 0) n = (byteAt xs 0 : Int) - 224 := by rw [hn]; rfl
    generalize hN : numK xs n fill = N at *
    have Hz3 := Lib.hid (Hz2.trans Hz4)
    clear Hz2 Hz4 hN Hz
    go_wp2_with fail
    go_loopw [7, 8, 9] (NumRel w N n) (fun _ i _ _ => 4 - (intOf i).toNat)
    case atStart => exact ⟨1, by omega, by omega, congrArg _ Hz3.out.symm, rfl, rfl⟩
    case round =>
      obtain ⟨k, hk1, hk2, rfl, rfl, rfl⟩ := hrel
      by_cases hlt : k < n
      · have hb1 := Hbd.out (k - 1) (by omega)
        have hb2 := Hbd.out k (by omega)
        have hs := Lib.hid (Hn.out k hk1)
        rw [hs.out] at hb2
        generalize N (k - 1) = z at *
        by_cases hin : k < xs.length
        · have c1 := H1.out k hin
          have hd : digN xs fill k = byteAt xs k - 128 := by unfold digN; rw [if_pos hin]
          have hb3 := byteAt_lt xs k
          rw [hd] at hb2 hs
          clear hd
          go_wp2_with fail
          exact ⟨⟨k + 1, by omega, by omega, by rw [show k + 1 - 1 = k by omega, hs.out], by go_num, rfl⟩, by simp [intOf]; omega⟩
        · have hd : digN xs fill k = fill := by unfold digN; rw [if_neg hin]
          rw [hd] at hb2 hs
          clear hd
          go_wp2_with fail
          exact ⟨⟨k + 1, by omega, by omega, by rw [show k + 1 - 1 = k by omega, hs.out], by go_num, rfl⟩, by simp [intOf]; omega⟩
      · obtain hkn : k = n := by omega
        subst hkn
        go_wp2
        go_ret
        exact ⟨rfl, rfl⟩
  · have e2 : ((n : Int) == 2) = false := by rw [hn]; rfl
    have e3 : ((n : Int) == 3) = false := by rw [hn]; rfl
    have e4 : ((n : Int) == 4) = true := by rw [hn]; rfl
    have Hz2 := Hz.out
    have Hz4 : headN (byteAt xs 0) n = (byteAt xs 0 : Int) - 240 := by rw [hn]; rfl
    generalize hN : numK xs n fill = N at *
    have Hz3 := Lib.hid (Hz2.trans Hz4)
    clear Hz2 Hz4 hN Hz
    go_wp2_with fail
    go_loopw [7, 8, 9] (NumRel w N n) (fun _ i _ _ => 4 - (intOf i).toNat)
    case atStart => exact ⟨1, by omega, by omega, congrArg _ Hz3.out.symm, rfl, rfl⟩
    case round =>
      obtain ⟨k, hk1, hk2, rfl, rfl, rfl⟩ := hrel
      by_cases hlt : k < n
      · have hb1 := Hbd.out (k - 1) (by omega)
        have hb2 := Hbd.out k (by omega)
        have hs := Lib.hid (Hn.out k hk1)
        rw [hs.out] at hb2
        generalize N (k - 1) = z at *
        by_cases hin : k < xs.length
        · have c1 := H1.out k hin
          have hd : digN xs fill k = byteAt xs k - 128 := by unfold digN; rw [if_pos hin]
          have hb3 := byteAt_lt xs k
          rw [hd] at hb2 hs
          clear hd
          go_wp2_with fail
          exact ⟨⟨k + 1, by omega, by omega, by rw [show k + 1 - 1 = k by omega, hs.out], by go_num, rfl⟩, by simp [intOf]; omega⟩
        · have hd : digN xs fill k = fill := by unfold digN; rw [if_neg hin]
          rw [hd] at hb2 hs
          clear hd
          go_wp2_with fail
          exact ⟨⟨k + 1, by omega, by omega, by rw [show k + 1 - 1 = k by omega, hs.out], by go_num, rfl⟩, by simp [intOf]; omega⟩
      · obtain hkn : k = n := by omega
        subst hkn
        go_wp2
        go_ret
        exact ⟨rfl, rfl⟩

def BeginsP (xs ys : List UInt8) (w : World) (e : Ending) (w' : World) : Prop := e = .returned (.bool (xs.take ys.length == ys)) ∧ ∃ m, w' = w.drewN m
set_option maxHeartbeats 1000000 in
/-- wicketref2.begins. -/
theorem begins_any {w : World} {v u : Value} {xs ys : List UInt8} (hb : Bs w v xs) (hc : Bs w u ys) : Calls Tryd.prog 35 #[v, u] w fun e w' => BeginsP xs ys w e w' := by
  obtain ⟨hm, A, cap, rfl, hcap, -⟩ := id hb
  obtain ⟨hm2, B, cap2, rfl, hcap2, -⟩ := id hc
  by_cases hl : ys.length ≤ xs.length
  · have hcap' : ys.length ≤ cap := by omega
    have q1 : ∀ n, (convert 24 9 (.slice A ys.length cap)).run Tryd.prog (w.drewN n) = .ok (.string ⟨(xs.take ys.length).toArray⟩) (w.drewN n) := fun n => string_of_bs ((hb.upto hl).drewN n)
    have q2 := fun n => string_of_bs (hc.drewN n)
    clear hb hc
    go_enter Tryd.func35, Tryd.ntmps35
    go_wp2_with fail
    go_quiet (fail)
    go_wp2
    go_ret
    exact ⟨rfl, _, rfl⟩
  · have hne := Lib.hid (show (xs.take ys.length == ys) = false from beq_eq_false_iff_ne.2 (fun h => by have := congrArg List.length h; rw [List.length_take] at this; omega))
    clear hb hc
    go_enter Tryd.func35, Tryd.ntmps35
    go_wp2
    go_ret
    exact ⟨by rw [hne.out]; rfl, 0, rfl⟩
def AnyBool (w : World) (e : Ending) (w' : World) : Prop := (∃ b, e = .returned (.bool b)) ∧ Below w.heap.size w w'
def CutRel (w : World) (len : Nat) (s5 : Value) (wr : World) : Prop := ∃ k : Nat, 1 ≤ k ∧ k ≤ len ∧ s5 = .int .i64 k ∧ w = wr
set_option maxRecDepth 100000 in
set_option maxHeartbeats 1000000 in
/-- wicketref2.cut: some answer. -/
theorem cut_any {w : World} {v : Value} {xs : List UInt8} (hb : Bs w v xs) (h0 : 0 < xs.length) (n : Nat) (h4 : n ≤ 4) (hl : xs.length < n) :
    Calls Tryd.prog 36 #[v, .int .i64 n] w fun e w' => AnyBool w e w' := by
  obtain ⟨hm, A, cap, rfl, hcap, hcell⟩ := id hb
  obtain ⟨b, o, rfl, hcl⟩ := hcell h0
  have H1 := Lib.hid hcl
  have Hb := Lib.hid hb
  clear hcl hb hcell
  go_enter Tryd.func36, Tryd.ntmps36
  go_wp2_with fail
  go_loopw [5] (CutRel w xs.length) (fun i _ => xs.length - (intOf i).toNat)
  case atStart => exact ⟨1, by omega, by omega, rfl, rfl⟩
  case round =>
    obtain ⟨k, hk1, hk2, rfl, rfl⟩ := hrel
    by_cases hlt : k < xs.length
    · have c1 := H1.out k hlt
      have hb3 := byteAt_lt xs k
      by_cases t1 : byteAt xs k < 128
      · have t1' : ((byteAt xs k : Nat) : Int) < 128 := by omega
        go_wp2_with fail
        go_ret
        exact ⟨⟨_, rfl⟩, Below.refl _ _⟩
      · have t1' : ¬ ((byteAt xs k : Nat) : Int) < 128 := by omega
        by_cases t2 : byteAt xs k ≤ 191
        · have t2' : ((byteAt xs k : Nat) : Int) ≤ 191 := by omega
          go_wp2_with fail
          exact ⟨⟨k + 1, by omega, by omega, by go_num, rfl⟩, by simp [intOf]; omega⟩
        · have t2' : ¬ ((byteAt xs k : Nat) : Int) ≤ 191 := by omega
          go_wp2_with fail
          go_ret
          exact ⟨⟨_, rfl⟩, Below.refl _ _⟩
    · obtain hkn : k = xs.length := by omega
      subst hkn
      have hn : n = 2 ∨ n = 3 ∨ n = 4 := by omega
      go_wp2_with fail
      refine (number_any Hb.out h0 n (by omega) h4 0 (by omega)).mono ?_
      rintro e w' ⟨rfl, rfl⟩
      go_wp2_with fail
      refine (number_any Hb.out h0 n (by omega) h4 63 (by omega)).mono ?_
      rintro e w' ⟨rfl, rfl⟩
      generalize numK xs n 0 (n - 1) = x
      generalize numK xs n 63 (n - 1) = y
      rcases hn with rfl | rfl | rfl
      all_goals
        go_wp2_with fail
        all_goals
          go_ret
          exact ⟨⟨_, rfl⟩, ((Below.refl _ _).alloc (Nat.le_refl _) _).alloc (by simp) _⟩
end Go.Proofs.YtjnpfpaigedpbaaDoor
