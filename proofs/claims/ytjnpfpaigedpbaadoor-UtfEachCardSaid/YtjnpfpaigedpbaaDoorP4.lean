import Derived.Test.YtjnpfpaigedpbaaDoorP3
import Derived.IntWalk
namespace Go.Proofs.YtjnpfpaigedpbaaDoor
open Go.RowKit

/-- Where Count stands when these have come. -/
def posAfter (pre : List (Nat × Nat)) : Int := match pre.getLast? with | none => 0 | some x => wrap64 ((x.1 : Int) + (frm x.2).length)
theorem posAfter_snoc (pre : List (Nat × Nat)) (x : Nat × Nat) : posAfter (pre ++ [x]) = wrap64 ((x.1 : Int) + (frm x.2).length) := by simp [posAfter]

/-- Where the forms end. -/
def endF (xs : List UInt8) : Nat → Nat → Nat
  | 0, k => k
  | f + 1, k => if (dec (xs.drop k)).2.2 = 0 then endF xs f (k + (dec (xs.drop k)).2.1) else k
def ends (xs : List UInt8) : Nat := endF xs (xs.length + 1) 0

theorem endF_le (xs : List UInt8) : ∀ f k, k ≤ xs.length → endF xs f k ≤ xs.length
  | 0, k, h => h
  | f + 1, k, h => by
    unfold endF; split
    · exact endF_le xs f _ (dec_drop_le xs k h)
    · exact h
theorem ends_le (xs : List UInt8) : ends xs ≤ xs.length := endF_le xs _ 0 (Nat.zero_le _)
/-- With fuel enough it ends where no form begins. -/
theorem endF_stop (xs : List UInt8) : ∀ f k, k ≤ xs.length → xs.length < f + k → (dec (xs.drop (endF xs f k))).2.2 ≠ 0
  | 0, k, h, h' => by omega
  | f + 1, k, h, h' => by
    unfold endF; split
    · rename_i h0
      have := dec_pos h0
      exact endF_stop xs f _ (dec_drop_le xs k h) (by omega)
    · assumption
theorem ends_stop (xs : List UInt8) : (dec (xs.drop (ends xs))).2.2 ≠ 0 := endF_stop xs _ 0 (Nat.zero_le _) (by omega)

theorem posAfter_go (xs : List UInt8) (hm : xs.length ≤ 9223372036854775807) : ∀ f k pre, k ≤ xs.length → posAfter pre = k → posAfter (pre ++ eachF xs f k) = endF xs f k
  | 0, k, pre, h, hp => by simpa [eachF, endF] using hp
  | f + 1, k, pre, h, hp => by
    unfold eachF endF
    by_cases h0 : (dec (xs.drop k)).2.2 = 0
    · rw [if_pos h0, if_pos h0, List.append_cons]
      have hle := dec_drop_le xs k h
      refine posAfter_go xs hm f _ _ hle ?_
      rw [posAfter_snoc, (dec_frm h0).1, List.length_take, List.length_drop]
      rw [show min (dec (xs.drop k)).2.1 (xs.length - k) = (dec (xs.drop k)).2.1 by omega]
      rw [IntWalk.wrap64_in _ ⟨by omega, by omega⟩]
      simp
    · rw [if_neg h0, if_neg h0]; simpa using hp
theorem posAfter_each (xs : List UInt8) (hm : xs.length ≤ 9223372036854775807) : posAfter (each xs) = ends xs := by
  have := posAfter_go xs hm (xs.length + 1) 0 [] (Nat.zero_le _) rfl
  simpa [each, ends] using this
end Go.Proofs.YtjnpfpaigedpbaaDoor
