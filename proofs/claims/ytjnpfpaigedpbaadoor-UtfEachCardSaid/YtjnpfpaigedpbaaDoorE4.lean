import Derived.Test.YtjnpfpaigedpbaaDoorF2
namespace Go.Proofs.YtjnpfpaigedpbaaDoor
open Go.RowKit

def refc (x : Int) : Int := if x < 128 then 1 else if x < 192 then 0 else if 194 ≤ x ∧ x ≤ 223 then 2 else if 224 ≤ x ∧ x ≤ 239 then 3 else if 240 ≤ x ∧ x ≤ 244 then 4 else -1
theorem refc_eq (x : Nat) (h : x < 256) : refc x = classI x := by
  have h' : ∀ x : Nat, x < 256 → refc (x : Int) = classI (x : Int) := by decide +kernel
  exact h' x h
set_option maxHeartbeats 1000000 in
theorem refclass_any (x : Int) (w : World) : Calls Tryd.prog 11 #[.int .u8 x] w fun e w' => e = .returned (.int .i64 (refc x)) ∧ w = w' := by
  have hR := Lib.hid (show ∀ n, refc x = n → Ending.returned (.int .i64 n) = .returned (.int .i64 (refc x)) from fun n h => by rw [h])
  go_enter Tryd.func11, Tryd.ntmps11
  by_cases h1 : x < 128
  · have hr := Lib.hid (show refc x = 1 by simp [refc, h1])
    go_wp2
    go_ret
    exact ⟨hR.out _ hr.out, rfl⟩
  by_cases h2 : x < 192
  · have hr := Lib.hid (show refc x = 0 by simp [refc, h1, h2])
    go_wp2
    go_ret
    exact ⟨hR.out _ hr.out, rfl⟩
  by_cases h3 : x < 194
  · have hr := Lib.hid (show refc x = -1 by unfold refc; rw [if_neg h1, if_neg h2, if_neg (by omega), if_neg (by omega), if_neg (by omega)])
    go_wp2
    go_ret
    exact ⟨hR.out _ hr.out, rfl⟩
  by_cases h4 : x ≤ 223
  · have hr := Lib.hid (show refc x = 2 by unfold refc; rw [if_neg h1, if_neg h2, if_pos (by omega)])
    go_wp2
    go_ret
    exact ⟨hR.out _ hr.out, rfl⟩
  by_cases h5 : x ≤ 239
  · have hr := Lib.hid (show refc x = 3 by unfold refc; rw [if_neg h1, if_neg h2, if_neg (by omega), if_pos (by omega)])
    go_wp2
    go_ret
    exact ⟨hR.out _ hr.out, rfl⟩
  by_cases h6 : x ≤ 244
  · have hr := Lib.hid (show refc x = 4 by unfold refc; rw [if_neg h1, if_neg h2, if_neg (by omega), if_neg (by omega), if_pos (by omega)])
    go_wp2
    go_ret
    exact ⟨hR.out _ hr.out, rfl⟩
  · have hr := Lib.hid (show refc x = -1 by unfold refc; rw [if_neg h1, if_neg h2, if_neg (by omega), if_neg (by omega), if_neg (by omega)])
    go_wp2
    go_ret
    exact ⟨hR.out _ hr.out, rfl⟩

def ClsRel (w1 : World) (o i : Value) (wr : World) : Prop := ∃ k : Nat, k ≤ 256 ∧ o = .bool true ∧ i = .int .i64 k ∧ w1 = wr
set_option maxRecDepth 100000 in
set_option maxHeartbeats 1000000 in
theorem classlaw_any {w : World} {aU aE : Addr} (hg : Glob w aU aE) : Calls Tryd.prog 3 #[] w fun e w' => LawTrue w e w' := by
  have Hg := Lib.hid hg
  clear hg
  go_enter Tryd.func3, Tryd.ntmps3
  go_wp2_with fail
  refine (first_any Hg.out).mono ?_
  rintro e w1 ⟨rfl, hb1⟩
  have Hb1 := Lib.hid hb1
  have HL := Lib.hid (Hg.out.below hb1).l
  clear hb1
  go_wp2_with fail
  go_loopw [1, 2] (ClsRel w1) (fun _ i _ => 256 - (intOf i).toNat)
  case atStart => exact ⟨0, by omega, rfl, rfl, rfl⟩
  case round =>
    obtain ⟨k, hk, rfl, rfl, rfl⟩ := hrel
    by_cases hlt : k < 256
    · have hq := Lib.hid (refc_eq k hlt)
      go_wp2_with (first | (go_at_call 10; refine (class_any _ (by omega) _ HL.out).mono ?_; rintro e w' ⟨rfl, rfl⟩) | (go_at_call 11; refine (refclass_any _ _).mono ?_; rintro e w' ⟨rfl, rfl⟩; rw [hq.out]))
      exact ⟨⟨k + 1, by omega, rfl, by go_num, rfl⟩, by simp [intOf]; omega⟩
    · obtain rfl : k = 256 := by omega
      go_wp2
      go_ret
      exact ⟨rfl, Hb1.out⟩
end Go.Proofs.YtjnpfpaigedpbaaDoor
