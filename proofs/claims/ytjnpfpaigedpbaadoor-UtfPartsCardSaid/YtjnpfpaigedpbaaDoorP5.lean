import Derived.Test.YtjnpfpaigedpbaaDoorP4
import Derived.Test.YtjnpfpaigedpbaaDoorE2
namespace Go.Proofs.YtjnpfpaigedpbaaDoor
open Go.RowKit

/-- The forms of these characters, one behind the other. -/
def cat : List Nat → List UInt8
  | [] => []
  | c :: cs => frm c ++ cat cs
theorem cat_append (a b : List Nat) : cat (a ++ b) = cat a ++ cat b := by
  induction a with
  | nil => rfl
  | cons c a ih => simp [cat, ih]
def allR (cs : List Nat) : Prop := ∀ c ∈ cs, isR c = true
theorem frm_pos {c : Nat} (h : isR c = true) : 0 < (frm c).length := List.length_pos_iff.2 (frm_ne h)
theorem cat_len {cs : List Nat} (h : allR cs) : cs.length ≤ (cat cs).length ∧ (cat cs).length ≤ 4 * cs.length := by
  induction cs with
  | nil => exact ⟨Nat.le_refl _, Nat.le_refl _⟩
  | cons c cs ih =>
    have h1 := frm_pos (h c (by simp))
    have h2 := frm_len c
    have h3 := ih fun x hx => h x (by simp [hx])
    simp only [cat, List.length_append, List.length_cons]
    omega

/-- What is read of forms and what stands behind them. -/
theorem each_cat (cs : List Nat) (hc : allR cs) (t : List UInt8) (ht : (dec t).2.2 ≠ 0) : ∀ (pre : List UInt8) (f : Nat), cs.length < f →
    (eachF (pre ++ cat cs ++ t) f pre.length).length = cs.length ∧ endF (pre ++ cat cs ++ t) f pre.length = pre.length + (cat cs).length := by
  induction cs with
  | nil =>
    intro pre f hf
    obtain ⟨f, rfl⟩ : ∃ g, f = g + 1 := ⟨f - 1, by simp at hf; omega⟩
    have e : (pre ++ cat [] ++ t).drop pre.length = t := by simp [cat]
    unfold eachF endF
    rw [e, if_neg ht, if_neg ht]
    exact ⟨rfl, rfl⟩
  | cons c cs ih =>
    intro pre f hf
    obtain ⟨f, rfl⟩ : ∃ g, f = g + 1 := ⟨f - 1, by simp at hf; omega⟩
    have e : (pre ++ cat (c :: cs) ++ t).drop pre.length = frm c ++ (cat cs ++ t) := by simp [cat]
    have hd := dec_of_frm c (hc c (by simp)) (cat cs ++ t)
    have e2 : pre ++ cat (c :: cs) ++ t = (pre ++ frm c) ++ cat cs ++ t := by simp [cat]
    have h := ih (fun x hx => hc x (by simp [hx])) (pre ++ frm c) f (by simp at hf; omega)
    unfold eachF endF
    rw [e, hd, if_pos rfl, if_pos rfl]
    simp only [List.length_append] at h
    rw [e2]
    simp only [List.length_cons, h.1, h.2, cat, List.length_append]
    exact ⟨trivial, by omega⟩
theorem each_of_cat (cs : List Nat) (hc : allR cs) (t : List UInt8) (ht : (dec t).2.2 ≠ 0) : (each (cat cs ++ t)).length = cs.length ∧ ends (cat cs ++ t) = (cat cs).length := by
  have h := each_cat cs hc t ht [] ((cat cs ++ t).length + 1) (by have := (cat_len hc).1; simp; omega)
  simpa [each, ends] using h

/-- A form that is cut: it ends too early. -/
theorem dec_cut (c : Nat) (h : isR c = true) (r : Nat) (h0 : 0 < r) (hr : r < (frm c).length) : dec ((frm c).take r) = (0, 0, 1) := by
  rw [isR_nat] at h
  simp only [decide_eq_true_eq] at h
  by_cases h1 : c < 128
  · rw [frm_1 c h1] at hr; simp at hr; omega
  by_cases h2 : c < 2048
  · rw [frm_2 c (by omega)] at hr ⊢
    have hr' : r = 1 := by simp at hr; omega
    subst hr'
    have e1 := ofNat8 (192 + c / 64) (by omega)
    simp only [List.take_succ_cons, List.take_zero]
    rw [dec_a2 _ _ (by omega)]
  by_cases h3 : c < 65536
  · rw [frm_3 c (by omega) (by omega)] at hr ⊢
    have e1 := ofNat8 (224 + c / 4096) (by omega)
    have e2 := ofNat8 (128 + c / 64 % 64) (by omega)
    have hr' : r = 1 ∨ r = 2 := by simp at hr; omega
    rcases hr' with rfl | rfl
    · simp only [List.take_succ_cons, List.take_zero]
      rw [dec_a3 _ _ (by omega)]
    · simp only [List.take_succ_cons, List.take_zero]
      rw [dec_a3 _ _ (by omega)]
      simp only [e1, e2]
      rw [if_pos (by unfold sec; omega)]
  · rw [frm_4 c (by omega)] at hr ⊢
    have e1 := ofNat8 (240 + c / 262144) (by omega)
    have e2 := ofNat8 (128 + c / 4096 % 64) (by omega)
    have e3 := ofNat8 (128 + c / 64 % 64) (by omega)
    have hr' : r = 1 ∨ r = 2 ∨ r = 3 := by simp at hr; omega
    rcases hr' with rfl | rfl | rfl
    · simp only [List.take_succ_cons, List.take_zero]
      rw [dec_a4 _ _ (by omega)]
    · simp only [List.take_succ_cons, List.take_zero]
      rw [dec_a4 _ _ (by omega)]
      simp only [e1, e2]
      rw [if_pos (by unfold sec; omega)]
    · simp only [List.take_succ_cons, List.take_zero]
      rw [dec_a4 _ _ (by omega)]
      simp only [e1, e2, e3]
      rw [if_pos (by unfold sec; omega), if_pos (by unfold tl; omega)]
/-- What stands behind the cut begins with no form. -/
theorem dec_rest (c : Nat) (h : isR c = true) (r : Nat) (h0 : 0 < r) (hr : r < (frm c).length) (t : List UInt8) : dec ((frm c).drop r ++ t) = (0, 0, 2) := by
  obtain ⟨a, s, e, hs, _, hx, _⟩ := frm_shape c h
  rw [e] at hr ⊢
  obtain ⟨r, rfl⟩ : ∃ k, r = k + 1 := ⟨r - 1, by omega⟩
  simp only [List.length_cons] at hr
  rw [List.drop_succ_cons]
  have hr' : r < s.length := by omega
  rw [List.drop_eq_getElem_cons hr', List.cons_append]
  have := hx _ (List.getElem_mem hr')
  unfold tl at this
  exact dec_a0 _ _ (by omega) (by omega)

/-- A place in forms: between two of them, or inside one. -/
theorem cat_split (cs : List Nat) (hc : allR cs) (k : Nat) (hk : k < (cat cs).length) : ∃ (a : List Nat) (c : Nat) (b : List Nat) (r : Nat), cs = a ++ c :: b ∧ r < (frm c).length ∧ k = (cat a).length + r := by
  induction cs generalizing k with
  | nil => simp [cat] at hk
  | cons c cs ih =>
    by_cases h : k < (frm c).length
    · exact ⟨[], c, cs, k, rfl, h, by simp [cat]⟩
    · obtain ⟨a, d, b, r, e, hr, ek⟩ := ih (fun x hx => hc x (by simp [hx])) (k - (frm c).length) (by simp [cat] at hk; omega)
      exact ⟨c :: a, d, b, r, by rw [e]; rfl, hr, by simp [cat]; omega⟩
end Go.Proofs.YtjnpfpaigedpbaaDoor
