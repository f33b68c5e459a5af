import Derived.Test.YtjnpfpaigedpbaaDoorP4
namespace Go.Proofs.YtjnpfpaigedpbaaDoor
open Go.RowKit

def headN (x n : Int) : Int := if n = 2 then x - 192 else if n = 3 then x - 224 else if n = 4 then x - 240 else x
def digN (xs : List UInt8) (fill : Int) (i : Nat) : Int := if i < xs.length then (byteAt xs i : Int) - 128 else fill
/-- What the bytes stand for, step by step. -/
def numK (xs : List UInt8) (n fill : Int) : Nat → Int
  | 0 => headN (byteAt xs 0) n
  | k + 1 => numK xs n fill k * 64 + digN xs fill (k + 1)
theorem digN_bd (xs : List UInt8) {fill : Int} (hf : 0 ≤ fill ∧ fill ≤ 63) (i : Nat) : -128 ≤ digN xs fill i ∧ digN xs fill i ≤ 127 := by
  unfold digN
  have := byteAt_lt xs i
  split <;> omega
theorem headN_bd (xs : List UInt8) (n : Int) : -256 ≤ headN (byteAt xs 0) n ∧ headN (byteAt xs 0) n ≤ 256 := by
  have := byteAt_lt xs 0
  unfold headN
  split
  · omega
  · split
    · omega
    · split <;> omega
theorem numK_bd (xs : List UInt8) (n : Int) {fill : Int} (hf : 0 ≤ fill ∧ fill ≤ 63) (k : Nat) (hk : k ≤ 3) : -100000000 ≤ numK xs n fill k ∧ numK xs n fill k ≤ 100000000 := by
  have h0 := headN_bd xs n
  have h1 := digN_bd xs hf 1
  have h2 := digN_bd xs hf 2
  have h3 := digN_bd xs hf 3
  have hk' : k = 0 ∨ k = 1 ∨ k = 2 ∨ k = 3 := by omega
  rcases hk' with rfl | rfl | rfl | rfl <;> simp only [numK, Nat.zero_add, Nat.reduceAdd] <;> omega
def goodK (xs : List UInt8) : Nat → Bool
  | 0 => true
  | k + 1 => goodK xs k && (decide (128 ≤ byteAt xs (k + 1)) && decide (byteAt xs (k + 1) ≤ 191))

theorem ref_yes {xs : List UInt8} {n : Nat} (hn : classI (byteAt xs 0) = n) {c : Int} (hr : isR c = true) (hb : xs.take (frm c).length = frm c) : dec xs = (c.toNat, n, 0) := by
  have hcn : ((c.toNat : Nat) : Int) = c := by have := isR_pos hr; omega
  obtain ⟨a, t, e, -, -, -, hcls⟩ := frm_shape c.toNat (by rw [hcn]; exact hr)
  rw [hcn] at e
  have hx : xs = frm c ++ xs.drop (frm c).length := by
    have := List.take_append_drop (frm c).length xs
    rw [hb] at this; exact this.symm
  have hd := dec_of_frm c.toNat (by rw [hcn]; exact hr) (xs.drop (frm c).length)
  rw [hcn, ← hx] at hd
  have hb0 : byteAt xs 0 = a.toNat := by rw [hx, e]; simp [byteAt]
  have hl : (frm c).length = n := by
    rw [hb0, hcls] at hn; rw [e]; simp only [List.length_cons]; omega
  rw [hd, hl]
theorem ref_back {xs : List UInt8} (h : (dec xs).2.2 = 0) : ∃ n : Nat, 1 ≤ n ∧ n ≤ 4 ∧ classI (byteAt xs 0) = n ∧ goodK xs (n - 1) = true ∧ numK xs n 0 (n - 1) = (dec xs).1 ∧ isR (dec xs).1 = true ∧ xs.take (frm (dec xs).1).length = frm (dec xs).1 := by
  obtain ⟨hf, hr⟩ := dec_frm h
  have htake : xs.take (frm (dec xs).1).length = frm (dec xs).1 := by
    rw [hf, List.length_take]
    by_cases hle : (dec xs).2.1 ≤ xs.length
    · rw [Nat.min_eq_left hle]
    · rw [Nat.min_eq_right (by omega), List.take_length, List.take_of_length_le (by omega)]
  rcases dec_cases h with ⟨a, t, rfl, h1, e⟩ | ⟨a, b, t, rfl, h1, hs, e⟩ | ⟨a, b, c, t, rfl, h1, hs, ht, e⟩ | ⟨a, b, c, d, t, rfl, h1, hs, ht, hd, e⟩
  all_goals
    have ha := b8 a
    rw [e] at hr htake ⊢
    simp only at hr htake ⊢
  · exact ⟨1, by omega, by omega, by simp only [byteAt, List.getD_cons_zero]; exact (class_iff _ (by omega)).1.2 h1, rfl, by simp [numK, headN, byteAt], hr, htake⟩
  · have hb := b8 b
    unfold sec at hs
    refine ⟨2, by omega, by omega, by simp only [byteAt, List.getD_cons_zero]; exact (class_iff _ (by omega)).2.1.2 h1, ?_, ?_, hr, htake⟩
    · simp [goodK, byteAt]; omega
    · simp [numK, headN, digN, byteAt]; omega
  · have hb := b8 b
    have hc := b8 c
    unfold sec at hs; unfold tl at ht
    refine ⟨3, by omega, by omega, by simp only [byteAt, List.getD_cons_zero]; exact (class_iff _ (by omega)).2.2.1.2 h1, ?_, ?_, hr, htake⟩
    · simp [goodK, byteAt]; omega
    · simp [numK, headN, digN, byteAt]; omega
  · have hb := b8 b
    have hc := b8 c
    have hd' := b8 d
    unfold sec at hs; unfold tl at ht hd
    refine ⟨4, by omega, by omega, by simp only [byteAt, List.getD_cons_zero]; exact (class_iff _ (by omega)).2.2.2.2 h1, ?_, ?_, hr, htake⟩
    · simp [goodK, byteAt]; omega
    · simp [numK, headN, digN, byteAt]; omega
end Go.Proofs.YtjnpfpaigedpbaaDoor
