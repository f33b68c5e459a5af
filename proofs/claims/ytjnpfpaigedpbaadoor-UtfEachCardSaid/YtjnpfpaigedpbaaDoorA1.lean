import Derived.Test.YtjnpfpaigedpbaaDoorRows
import Derived.WalkKit
import Derived.WalkSpells
import Derived.WalkLawsBesides
import Derived.Deep.QuietTactic
import Derived.BigQuiet
import Derived.Lib.Hide
namespace Go.Proofs.YtjnpfpaigedpbaaDoor
open Go.RowKit

def tailB (x : Int) : Bool := bits .and .u8 x 192 == 128
def secondB (x y : Int) : Bool :=
  if x = 224 then decide (160 ≤ y) && decide (y ≤ 191) else if x = 237 then decide (128 ≤ y) && decide (y ≤ 159)
  else if x = 240 then decide (144 ≤ y) && decide (y ≤ 191) else if x = 244 then decide (128 ≤ y) && decide (y ≤ 143) else tailB y
def lenTab : List Int := [1, 1, 1, 1, 1, 1, 1, 1, 0, 0, 0, 0, 2, 2, 3, 4]
def classI (x : Int) : Int := if x = 192 ∨ x = 193 ∨ 244 < x then -1 else lenTab.getD (x / 16).toNat 0

set_option maxHeartbeats 400000 in
theorem tail_any (x : Int) (w : World) :
    Calls Tryd.prog 33 #[.int .u8 x] w fun e w' => e = .returned (.bool (tailB x)) ∧ w = w' := by
  go_enter Tryd.func33, Tryd.ntmps33
  go_wp2
  go_ret
  exact ⟨rfl, rfl⟩

theorem quiet_add_left {P : Program} {f : FuncId} {args : Array Value} {w : World} {a n : Nat} {v : Value}
    (h : Calls P f args (w.drewN (a + n)) fun e w' => e = .returned v ∧ w.drewN (a + n) = w') :
    Calls P f args (w.drewN (a + n)) fun e w'' => e = .returned v ∧ ∃ m, w'' = w.drewN (a + m) :=
  h.mono fun _ _ ⟨he, hm⟩ => ⟨he, n, hm.symm⟩
theorem quiet_left {P : Program} {f : FuncId} {args : Array Value} {w : World} {n : Nat} {v : Value}
    (h : Calls P f args (w.drewN n) fun e w' => e = .returned v ∧ w.drewN n = w') : Calls P f args (w.drewN n) fun e w'' => e = .returned v ∧ ∃ m, w'' = w.drewN m :=
  h.mono fun _ _ ⟨he, hm⟩ => ⟨he, n, hm.symm⟩
theorem ret_bool {a b : Bool} (h : a = b) : Ending.returned (.bool a) = .returned (.bool b) := by rw [h]
theorem ret_int {k : IntKind} {a b : Int} (h : a = b) : Ending.returned (.int k a) = .returned (.int k b) := by rw [h]

set_option maxHeartbeats 400000 in
theorem second_any (x y : Int) (h' : 0 ≤ y ∧ y ≤ 255) (w : World) :
    Calls Tryd.prog 32 #[.int .u8 x, .int .u8 y] w fun e w' => e = .returned (.bool (secondB x y)) ∧ w = w' := by
  go_enter Tryd.func32, Tryd.ntmps32
  go_wp2_with (go_at_call 33; refine (tail_any _ _).mono ?_; rintro e w' ⟨rfl, rfl⟩)
  all_goals go_ret
  all_goals refine ⟨ret_bool ?_, rfl⟩
  all_goals (simp_all [secondB] <;> omega)

theorem lenTab_bd (n : Nat) : -1 ≤ lenTab.getD n 0 ∧ lenTab.getD n 0 ≤ 4 := by
  by_cases hn : n < 16
  · have : ∀ n < 16, -1 ≤ lenTab.getD n 0 ∧ lenTab.getD n 0 ≤ 4 := by decide
    exact this n hn
  · rw [List.getD_eq_getElem?_getD, List.getElem?_eq_none (show lenTab.length ≤ n by simp [lenTab]; omega)]; decide

def Lens (w : World) : Prop := ∀ i, i < 16 → w.cell? ⟨2, i, none⟩ = some (.int .i8 (lenTab.getD i 0))

set_option maxHeartbeats 400000 in
theorem class_any (x : Int) (h : 0 ≤ x ∧ x ≤ 255) (w : World) (hL : Lens w) :
    Calls Tryd.prog 10 #[.int .u8 x] w fun e w' => e = .returned (.int .i64 (classI x)) ∧ w = w' := by
  by_cases h1 : x = 192 ∨ x = 193 ∨ 244 < x
  · have hc : classI x = -1 := by simp [classI, h1]
    rw [hc]; clear hc
    go_enter Tryd.func10, Tryd.ntmps10
    rcases h1 with rfl | rfl | h1
    · go_wp2
      go_ret
      exact ⟨rfl, rfl⟩
    · go_wp2
      go_ret
      exact ⟨rfl, rfl⟩
    · have e1 : (x == 192) = false := by simp; omega
      have e2 : (x == 193) = false := by simp; omega
      go_wp2
      go_ret
      exact ⟨rfl, rfl⟩
  · have hc : classI x = lenTab.getD (x / 16).toNat 0 := by simp [classI, h1]
    rw [hc]; clear hc
    have hc := hL (x / 16).toNat (by omega)
    clear hL
    have hb : ∃ q : Int, -1 ≤ q ∧ q ≤ 4 ∧ lenTab.getD (x / 16).toNat 0 = q := ⟨_, (lenTab_bd _).1, (lenTab_bd _).2, rfl⟩
    obtain ⟨q, q1, q2, hq⟩ := hb
    rw [hq] at hc ⊢
    clear hq
    have e1 : (x == 192) = false := by simp; omega
    have e2 : (x == 193) = false := by simp; omega
    have e3 : ¬ 244 < x := by omega
    clear h1
    go_enter Tryd.func10, Tryd.ntmps10
    go_wp2
    go_ret
    exact ⟨rfl, rfl⟩
end Go.Proofs.YtjnpfpaigedpbaaDoor
