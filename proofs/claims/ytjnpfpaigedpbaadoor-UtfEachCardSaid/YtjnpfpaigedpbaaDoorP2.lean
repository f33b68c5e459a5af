import Derived.Test.YtjnpfpaigedpbaaDoorP1
namespace Go.Proofs.YtjnpfpaigedpbaaDoor

theorem u8_of {n : Nat} {a : UInt8} (h : n = a.toNat) : UInt8.ofNat n = a := by rw [h]; exact UInt8.ofNat_toNat
theorem isR_nat (c : Nat) : isR c = decide (c ≤ 1114111 ∧ ¬ (55296 ≤ c ∧ c ≤ 57343)) := by
  unfold isR; rw [Bool.eq_iff_iff]; simp; omega
theorem frm_1 (c : Nat) (h : c < 128) : frm c = [UInt8.ofNat c] := by
  have hr : isR c = true := by rw [isR_nat]; simp; omega
  rw [frm, if_pos hr, if_pos (by omega)]; rfl
theorem frm_2 (c : Nat) (h : 128 ≤ c ∧ c < 2048) : frm c = [UInt8.ofNat (192 + c / 64), UInt8.ofNat (128 + c % 64)] := by
  have hr : isR c = true := by rw [isR_nat]; simp; omega
  rw [frm, if_pos hr, if_neg (by omega), if_pos (by omega), show (192 + (c : Int) / 64).toNat = 192 + c / 64 by omega, show (128 + (c : Int) % 64).toNat = 128 + c % 64 by omega]
theorem frm_3 (c : Nat) (h : 2048 ≤ c ∧ c < 65536) (h' : ¬ (55296 ≤ c ∧ c ≤ 57343)) : frm c = [UInt8.ofNat (224 + c / 4096), UInt8.ofNat (128 + c / 64 % 64), UInt8.ofNat (128 + c % 64)] := by
  have hr : isR c = true := by rw [isR_nat]; simp; omega
  rw [frm, if_pos hr, if_neg (by omega), if_neg (by omega), if_pos (by omega), show (224 + (c : Int) / 4096).toNat = 224 + c / 4096 by omega, show (128 + (c : Int) / 64 % 64).toNat = 128 + c / 64 % 64 by omega, show (128 + (c : Int) % 64).toNat = 128 + c % 64 by omega]
theorem frm_4 (c : Nat) (h : 65536 ≤ c ∧ c ≤ 1114111) : frm c = [UInt8.ofNat (240 + c / 262144), UInt8.ofNat (128 + c / 4096 % 64), UInt8.ofNat (128 + c / 64 % 64), UInt8.ofNat (128 + c % 64)] := by
  have hr : isR c = true := by rw [isR_nat]; simp; omega
  rw [frm, if_pos hr, if_neg (by omega), if_neg (by omega), if_neg (by omega), show (240 + (c : Int) / 262144).toNat = 240 + c / 262144 by omega, show (128 + (c : Int) / 4096 % 64).toNat = 128 + c / 4096 % 64 by omega, show (128 + (c : Int) / 64 % 64).toNat = 128 + c / 64 % 64 by omega, show (128 + (c : Int) % 64).toNat = 128 + c % 64 by omega]

theorem dec_cases {xs : List UInt8} (h : (dec xs).2.2 = 0) :
    (∃ a t, xs = a :: t ∧ a.toNat < 128 ∧ dec xs = (a.toNat, 1, 0)) ∨
    (∃ a b t, xs = a :: b :: t ∧ (194 ≤ a.toNat ∧ a.toNat ≤ 223) ∧ sec a.toNat b.toNat ∧ dec xs = ((a.toNat % 32) * 64 + b.toNat % 64, 2, 0)) ∨
    (∃ a b c t, xs = a :: b :: c :: t ∧ (224 ≤ a.toNat ∧ a.toNat ≤ 239) ∧ sec a.toNat b.toNat ∧ tl c.toNat ∧ dec xs = (((a.toNat % 16) * 64 + b.toNat % 64) * 64 + c.toNat % 64, 3, 0)) ∨
    (∃ a b c d t, xs = a :: b :: c :: d :: t ∧ (240 ≤ a.toNat ∧ a.toNat ≤ 244) ∧ sec a.toNat b.toNat ∧ tl c.toNat ∧ tl d.toNat ∧ dec xs = ((((a.toNat % 8) * 64 + b.toNat % 64) * 64 + c.toNat % 64) * 64 + d.toNat % 64, 4, 0)) := by
  cases xs with
  | nil => simp [dec] at h
  | cons a t =>
    by_cases h1 : a.toNat < 128
    · exact .inl ⟨a, t, rfl, h1, dec_a1 a t h1⟩
    by_cases h2 : 194 ≤ a.toNat ∧ a.toNat ≤ 223
    · have e := dec_a2 a t h2
      match t with
      | [] => rw [e] at h; simp at h
      | b :: t =>
        by_cases hs : sec a.toNat b.toNat
        · simp only [hs, if_true] at e
          exact .inr (.inl ⟨a, b, t, rfl, h2, hs, e⟩)
        · rw [e] at h; simp [hs] at h
    by_cases h3 : 224 ≤ a.toNat ∧ a.toNat ≤ 239
    · have e := dec_a3 a t h3
      match t with
      | [] => rw [e] at h; simp at h
      | [b] => rw [e] at h; by_cases hs : sec a.toNat b.toNat <;> simp [hs] at h
      | b :: c :: t =>
        by_cases hs : sec a.toNat b.toNat
        · by_cases ht : tl c.toNat
          · simp only [hs, ht, if_true] at e
            exact .inr (.inr (.inl ⟨a, b, c, t, rfl, h3, hs, ht, e⟩))
          · rw [e] at h; simp [hs, ht] at h
        · rw [e] at h; simp [hs] at h
    by_cases h4 : 240 ≤ a.toNat ∧ a.toNat ≤ 244
    · have e := dec_a4 a t h4
      match t with
      | [] => rw [e] at h; simp at h
      | [b] => rw [e] at h; by_cases hs : sec a.toNat b.toNat <;> simp [hs] at h
      | [b, c] => rw [e] at h; by_cases hs : sec a.toNat b.toNat <;> by_cases ht : tl c.toNat <;> simp [hs, ht] at h
      | b :: c :: d :: t =>
        by_cases hs : sec a.toNat b.toNat
        · by_cases ht : tl c.toNat
          · by_cases hd : tl d.toNat
            · simp only [hs, ht, hd, if_true] at e
              exact .inr (.inr (.inr ⟨a, b, c, d, t, rfl, h4, hs, ht, hd, e⟩))
            · rw [e] at h; simp [hs, ht, hd] at h
          · rw [e] at h; simp [hs, ht] at h
        · rw [e] at h; simp [hs] at h
    · have e := dec_a0 a t h1 (by omega)
      rw [e] at h; simp at h

/-- What is read has just that form. -/
theorem dec_frm {xs : List UInt8} (h : (dec xs).2.2 = 0) : frm (dec xs).1 = xs.take (dec xs).2.1 ∧ isR (dec xs).1 = true := by
  rcases dec_cases h with ⟨a, t, rfl, h1, e⟩ | ⟨a, b, t, rfl, h1, hs, e⟩ | ⟨a, b, c, t, rfl, h1, hs, ht, e⟩ | ⟨a, b, c, d, t, rfl, h1, hs, ht, hd, e⟩ <;> rw [e] <;> simp only
  · exact ⟨by rw [frm_1 _ h1, u8_of rfl]; rfl, by rw [isR_nat]; simp; omega⟩
  · unfold sec at hs
    have hb := b8 b
    refine ⟨?_, by rw [isR_nat]; simp; omega⟩
    rw [frm_2 _ (by omega), u8_of (a := a) (by omega), u8_of (a := b) (by omega)]; rfl
  · unfold sec at hs; unfold tl at ht
    have hb := b8 b
    have hc := b8 c
    refine ⟨?_, by rw [isR_nat]; simp; omega⟩
    rw [frm_3 _ (by omega) (by omega), u8_of (a := a) (by omega), u8_of (a := b) (by omega), u8_of (a := c) (by omega)]; rfl
  · unfold sec at hs; unfold tl at ht hd
    have hb := b8 b
    have hc := b8 c
    have hdd := b8 d
    refine ⟨?_, by rw [isR_nat]; simp; omega⟩
    rw [frm_4 _ (by omega), u8_of (a := a) (by omega), u8_of (a := b) (by omega), u8_of (a := c) (by omega), u8_of (a := d) (by omega)]; rfl

theorem frm_nil {c : Int} (h : isR c = false) : frm c = [] := by rw [frm, h]; rfl
theorem frm_ne {c : Int} (h : isR c = true) : frm c ≠ [] := by
  rw [frm, if_pos h]; repeat' split
  all_goals simp
theorem isR_pos {c : Int} (h : isR c = true) : 0 ≤ c := by simp [isR] at h; omega

theorem ofNat8 (n : Nat) (h : n < 256) : (UInt8.ofNat n).toNat = n := by rw [UInt8.toNat_ofNat']; omega
/-- A form is read as its character. -/
theorem dec_of_frm (c : Nat) (h : isR c = true) (ys : List UInt8) : dec (frm c ++ ys) = (c, (frm c).length, 0) := by
  rw [isR_nat] at h
  simp only [decide_eq_true_eq] at h
  by_cases h1 : c < 128
  · rw [frm_1 c h1]
    have e := ofNat8 c (by omega)
    rw [List.singleton_append, dec_a1 _ _ (by omega), e]; rfl
  by_cases h2 : c < 2048
  · rw [frm_2 c (by omega)]
    have e1 := ofNat8 (192 + c / 64) (by omega)
    have e2 := ofNat8 (128 + c % 64) (by omega)
    rw [List.cons_append, dec_a2 _ _ (by omega)]
    simp only [List.cons_append, List.nil_append, e1, e2]
    rw [if_pos (by unfold sec; omega)]
    simp only [Prod.mk.injEq, List.length_cons, List.length_nil, and_true]
    omega
  by_cases h3 : c < 65536
  · rw [frm_3 c (by omega) (by omega)]
    have e1 := ofNat8 (224 + c / 4096) (by omega)
    have e2 := ofNat8 (128 + c / 64 % 64) (by omega)
    have e3 := ofNat8 (128 + c % 64) (by omega)
    rw [List.cons_append, dec_a3 _ _ (by omega)]
    simp only [List.cons_append, List.nil_append, e1, e2, e3]
    rw [if_pos (by unfold sec; omega), if_pos (by unfold tl; omega)]
    simp only [Prod.mk.injEq, List.length_cons, List.length_nil, and_true]
    omega
  · rw [frm_4 c (by omega)]
    have e1 := ofNat8 (240 + c / 262144) (by omega)
    have e2 := ofNat8 (128 + c / 4096 % 64) (by omega)
    have e3 := ofNat8 (128 + c / 64 % 64) (by omega)
    have e4 := ofNat8 (128 + c % 64) (by omega)
    rw [List.cons_append, dec_a4 _ _ (by omega)]
    simp only [List.cons_append, List.nil_append, e1, e2, e3, e4]
    rw [if_pos (by unfold sec; omega), if_pos (by unfold tl; omega), if_pos (by unfold tl; omega)]
    simp only [Prod.mk.injEq, List.length_cons, List.length_nil, and_true]
    omega
end Go.Proofs.YtjnpfpaigedpbaaDoor
