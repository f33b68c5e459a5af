import Derived.Test.YtjnpfpaigedpbaaDoorP2
namespace Go.Proofs.YtjnpfpaigedpbaaDoor

/-- A form: a head and at most three tails. -/
theorem frm_shape (c : Nat) (h : isR c = true) : ∃ (a : UInt8) (t : List UInt8), frm c = a :: t ∧ t.length ≤ 3 ∧ ¬ tl a.toNat ∧ (∀ x ∈ t, tl x.toNat) ∧ classI a.toNat = ((t.length + 1 : Nat) : Int) := by
  rw [isR_nat] at h
  simp only [decide_eq_true_eq] at h
  by_cases h1 : c < 128
  · rw [frm_1 c h1]
    have e := ofNat8 c (by omega)
    exact ⟨_, _, rfl, by simp, by rw [e]; unfold tl; omega, by simp, by rw [e, (class_iff _ (by omega)).1.2 h1]; rfl⟩
  by_cases h2 : c < 2048
  · rw [frm_2 c (by omega)]
    have e1 := ofNat8 (192 + c / 64) (by omega)
    have e2 := ofNat8 (128 + c % 64) (by omega)
    refine ⟨_, _, rfl, by simp, by rw [e1]; unfold tl; omega, ?_, by rw [e1, (class_iff _ (by omega)).2.1.2 (by omega)]; rfl⟩
    intro x hx
    simp only [List.mem_singleton] at hx
    subst hx; rw [e2]; unfold tl; omega
  by_cases h3 : c < 65536
  · rw [frm_3 c (by omega) (by omega)]
    have e1 := ofNat8 (224 + c / 4096) (by omega)
    have e2 := ofNat8 (128 + c / 64 % 64) (by omega)
    have e3 := ofNat8 (128 + c % 64) (by omega)
    refine ⟨_, _, rfl, by simp, by rw [e1]; unfold tl; omega, ?_, by rw [e1, (class_iff _ (by omega)).2.2.1.2 (by omega)]; rfl⟩
    intro x hx
    simp only [List.mem_cons, List.not_mem_nil, or_false] at hx
    rcases hx with rfl | rfl
    · rw [e2]; unfold tl; omega
    · rw [e3]; unfold tl; omega
  · rw [frm_4 c (by omega)]
    have e1 := ofNat8 (240 + c / 262144) (by omega)
    have e2 := ofNat8 (128 + c / 4096 % 64) (by omega)
    have e3 := ofNat8 (128 + c / 64 % 64) (by omega)
    have e4 := ofNat8 (128 + c % 64) (by omega)
    refine ⟨_, _, rfl, by simp, by rw [e1]; unfold tl; omega, ?_, by rw [e1, (class_iff _ (by omega)).2.2.2.2 (by omega)]; rfl⟩
    intro x hx
    simp only [List.mem_cons, List.not_mem_nil, or_false] at hx
    rcases hx with rfl | rfl | rfl
    · rw [e2]; unfold tl; omega
    · rw [e3]; unfold tl; omega
    · rw [e4]; unfold tl; omega

theorem back_spec (xs : List UInt8) (k : Nat) (hk : k = 0 ∨ xs.length ≥ k + 4 ∨ tailB (byteAt xs k) = false) : ∀ m, k ≤ m → (∀ j, k < j → j ≤ m → xs.length < j + 4 ∧ tailB (byteAt xs j) = true) → back xs m = k
  | 0, hm, _ => by have : k = 0 := by omega
                   subst this; rfl
  | m + 1, hm, hj => by
    unfold back
    by_cases he : k = m + 1
    · subst he
      rw [if_neg]
      rcases hk with h | h | h
      · omega
      · simp; omega
      · rw [h]; simp
    · have h1 := hj (m + 1) (by omega) (Nat.le_refl _)
      rw [if_pos (by rw [h1.2]; simp; exact h1.1)]
      exact back_spec xs k hk m (by omega) fun j h h' => hj j h (by omega)

theorem byteAt_append_right (ys zs : List UInt8) (i : Nat) : byteAt (ys ++ zs) (ys.length + i) = byteAt zs i := by
  simp [byteAt, List.getElem?_append_right]
theorem byteAt_mem {zs : List UInt8} {i : Nat} (h : i < zs.length) : ∃ a ∈ zs, byteAt zs i = a.toNat := ⟨zs[i], List.getElem_mem h, by simp [byteAt, List.getElem?_eq_getElem h]⟩

theorem last_of_frm (c : Nat) (h : isR c = true) (ys : List UInt8) : last (ys ++ frm c) = (c, (frm c).length, 0) := by
  obtain ⟨a, t, e, ht, ha, hx, _⟩ := frm_shape c h
  have hl : (ys ++ frm c).length = ys.length + t.length + 1 := by rw [e]; simp; omega
  have hb : back (ys ++ frm c) ((ys ++ frm c).length - 1) = ys.length := by
    apply back_spec
    · refine .inr (.inr ?_)
      have : byteAt (ys ++ frm c) ys.length = a.toNat := by
        have := byteAt_append_right ys (frm c) 0
        rw [Nat.add_zero] at this
        rw [this, e]; rfl
      rw [this, tl_eq _ (b8 a)]; simpa using ha
    · rw [hl]; omega
    · intro j h1 h2
      rw [hl] at h2 ⊢
      refine ⟨by omega, ?_⟩
      obtain ⟨i, rfl⟩ : ∃ i, j = ys.length + (i + 1) := ⟨j - ys.length - 1, by omega⟩
      rw [byteAt_append_right, e]
      obtain ⟨b, hb, hbe⟩ := byteAt_mem (zs := t) (i := i) (by omega)
      rw [show byteAt (a :: t) (i + 1) = byteAt t i from by simp [byteAt], hbe, tl_eq _ (b8 b)]
      simpa using hx b hb
  have hd : (ys ++ frm c).drop ys.length = frm c := by simp
  have hdec := dec_of_frm c h []
  rw [List.append_nil] at hdec
  rw [last_of (by rw [hl]; omega) hb, hd, hdec]
  simp

theorem frm_inj {c d : Nat} (hc : isR c = true) (hd : isR d = true) (h : frm c = frm d) : c = d := by
  have h1 := dec_of_frm c hc []
  have h2 := dec_of_frm d hd []
  rw [h, h2] at h1
  injection h1 with h1; exact h1.symm
theorem frm_prefix {c d : Nat} (hc : isR c = true) (hd : isR d = true) (h : (frm d).take (frm c).length = frm c) : c = d := by
  have h1 := dec_of_frm c hc ((frm d).drop (frm c).length)
  have h2 := dec_of_frm d hd []
  have e : frm c ++ (frm d).drop (frm c).length = frm d := by
    have := List.take_append_drop (frm c).length (frm d)
    rwa [h] at this
  rw [e, ← List.append_nil (frm d), h2] at h1
  injection h1 with h1; exact h1.symm
theorem frm_suffix {c d : Nat} (hc : isR c = true) (hd : isR d = true) (h : (frm d).drop ((frm d).length - (frm c).length) = frm c) : c = d := by
  have h1 := last_of_frm c hc ((frm d).take ((frm d).length - (frm c).length))
  have h2 := last_of_frm d hd []
  have e : (frm d).take ((frm d).length - (frm c).length) ++ frm c = frm d := by
    have := List.take_append_drop ((frm d).length - (frm c).length) (frm d)
    rwa [h] at this
  rw [e] at h1
  rw [List.nil_append, h1] at h2
  injection h2 with h2

theorem lt_irrefl' : ∀ x : List UInt8, Op.bytesLess x x = false
  | [] => rfl
  | a :: x => by simp [Op.bytesLess, lt_irrefl' x]
theorem less_head {a b : UInt8} {x y : List UInt8} (h : a.toNat < b.toNat) : Op.bytesLess (a :: x) (b :: y) = true ∧ Op.bytesLess (b :: y) (a :: x) = false := by
  have h1 : a < b := h
  have h2 : ¬ b < a := fun h' => by have : b.toNat < a.toNat := h'; omega
  have h3 : b ≠ a := fun e => by subst e; omega
  simp [Op.bytesLess, h1, h2, h3]
theorem less_tail {a : UInt8} {x y : List UInt8} (h : Op.bytesLess x y = true ∧ Op.bytesLess y x = false) : Op.bytesLess (a :: x) (a :: y) = true ∧ Op.bytesLess (a :: y) (a :: x) = false := by
  simp [Op.bytesLess, h.1, h.2]
theorem ofNat_lt8 {m n : Nat} (h : m < n) (hn : n < 256) : (UInt8.ofNat m).toNat < (UInt8.ofNat n).toNat := by rw [ofNat8 _ (by omega), ofNat8 _ hn]; exact h
theorem less_or {m n : Nat} {x y : List UInt8} (h : m < n ∨ (m = n ∧ Op.bytesLess x y = true ∧ Op.bytesLess y x = false)) (hn : n < 256) :
    Op.bytesLess (UInt8.ofNat m :: x) (UInt8.ofNat n :: y) = true ∧ Op.bytesLess (UInt8.ofNat n :: y) (UInt8.ofNat m :: x) = false := by
  rcases h with h | ⟨rfl, h⟩
  · exact less_head (ofNat_lt8 h hn)
  · exact less_tail h
/-- The greater character's form is the later one. -/
theorem frm_less {c d : Nat} (hc : isR c = true) (hd : isR d = true) (h : c < d) : Op.bytesLess (frm c) (frm d) = true ∧ Op.bytesLess (frm d) (frm c) = false := by
  rw [isR_nat] at hc hd
  simp only [decide_eq_true_eq] at hc hd
  have e1 : (c < 128 ∧ frm c = [UInt8.ofNat c]) ∨ (128 ≤ c ∧ c < 2048 ∧ frm c = [UInt8.ofNat (192 + c / 64), UInt8.ofNat (128 + c % 64)]) ∨
      (2048 ≤ c ∧ c < 65536 ∧ frm c = [UInt8.ofNat (224 + c / 4096), UInt8.ofNat (128 + c / 64 % 64), UInt8.ofNat (128 + c % 64)]) ∨
      (65536 ≤ c ∧ frm c = [UInt8.ofNat (240 + c / 262144), UInt8.ofNat (128 + c / 4096 % 64), UInt8.ofNat (128 + c / 64 % 64), UInt8.ofNat (128 + c % 64)]) := by
    by_cases h1 : c < 128
    · exact .inl ⟨h1, frm_1 c h1⟩
    by_cases h2 : c < 2048
    · exact .inr (.inl ⟨by omega, h2, frm_2 c (by omega)⟩)
    by_cases h3 : c < 65536
    · exact .inr (.inr (.inl ⟨by omega, h3, frm_3 c (by omega) (by omega)⟩))
    · exact .inr (.inr (.inr ⟨by omega, frm_4 c (by omega)⟩))
  have e2 : (d < 128 ∧ frm d = [UInt8.ofNat d]) ∨ (128 ≤ d ∧ d < 2048 ∧ frm d = [UInt8.ofNat (192 + d / 64), UInt8.ofNat (128 + d % 64)]) ∨
      (2048 ≤ d ∧ d < 65536 ∧ frm d = [UInt8.ofNat (224 + d / 4096), UInt8.ofNat (128 + d / 64 % 64), UInt8.ofNat (128 + d % 64)]) ∨
      (65536 ≤ d ∧ frm d = [UInt8.ofNat (240 + d / 262144), UInt8.ofNat (128 + d / 4096 % 64), UInt8.ofNat (128 + d / 64 % 64), UInt8.ofNat (128 + d % 64)]) := by
    by_cases h1 : d < 128
    · exact .inl ⟨h1, frm_1 d h1⟩
    by_cases h2 : d < 2048
    · exact .inr (.inl ⟨by omega, h2, frm_2 d (by omega)⟩)
    by_cases h3 : d < 65536
    · exact .inr (.inr (.inl ⟨by omega, h3, frm_3 d (by omega) (by omega)⟩))
    · exact .inr (.inr (.inr ⟨by omega, frm_4 d (by omega)⟩))
  rcases e1 with ⟨a1, e1⟩ | ⟨a1, a2, e1⟩ | ⟨a1, a2, e1⟩ | ⟨a1, e1⟩ <;> rcases e2 with ⟨b1, e2⟩ | ⟨b1, b2, e2⟩ | ⟨b1, b2, e2⟩ | ⟨b1, e2⟩ <;> rw [e1, e2]
  all_goals first | (exfalso; omega) | exact less_head (ofNat_lt8 (by omega) (by omega)) | skip
  · have hq : 192 + c / 64 < 192 + d / 64 ∨ (192 + c / 64 = 192 + d / 64 ∧ 128 + c % 64 < 128 + d % 64) := by omega
    refine less_or ?_ (by omega)
    rcases hq with h | ⟨h, h'⟩
    · exact .inl h
    · exact .inr ⟨h, less_or (.inl h') (by omega)⟩
  · have hq : 224 + c / 4096 < 224 + d / 4096 ∨ (224 + c / 4096 = 224 + d / 4096 ∧ (128 + c / 64 % 64 < 128 + d / 64 % 64 ∨ (128 + c / 64 % 64 = 128 + d / 64 % 64 ∧ 128 + c % 64 < 128 + d % 64))) := by omega
    refine less_or ?_ (by omega)
    rcases hq with h | ⟨h, h' | ⟨h', h''⟩⟩
    · exact .inl h
    · exact .inr ⟨h, less_or (.inl h') (by omega)⟩
    · exact .inr ⟨h, less_or (.inr ⟨h', less_or (.inl h'') (by omega)⟩) (by omega)⟩
  · have hq : 240 + c / 262144 < 240 + d / 262144 ∨ (240 + c / 262144 = 240 + d / 262144 ∧ (128 + c / 4096 % 64 < 128 + d / 4096 % 64 ∨ (128 + c / 4096 % 64 = 128 + d / 4096 % 64 ∧ (128 + c / 64 % 64 < 128 + d / 64 % 64 ∨ (128 + c / 64 % 64 = 128 + d / 64 % 64 ∧ 128 + c % 64 < 128 + d % 64))))) := by omega
    refine less_or ?_ (by omega)
    rcases hq with h | ⟨h, h' | ⟨h', h'' | ⟨h'', h3⟩⟩⟩
    · exact .inl h
    · exact .inr ⟨h, less_or (.inl h') (by omega)⟩
    · exact .inr ⟨h, less_or (.inr ⟨h', less_or (.inl h'') (by omega)⟩) (by omega)⟩
    · exact .inr ⟨h, less_or (.inr ⟨h', less_or (.inr ⟨h'', less_or (.inl h3) (by omega)⟩) (by omega)⟩) (by omega)⟩

theorem each_pos (xs : List UInt8) : ∀ f k, k ≤ xs.length → (eachF xs f k).length ≤ xs.length - k
  | 0, k, _ => Nat.zero_le _
  | f + 1, k, hk => by
    unfold eachF
    split
    · rename_i h
      have h1 := dec_pos h
      have h2 := dec_drop_le xs k hk
      have h3 := each_pos xs f (k + (dec (xs.drop k)).2.1) h2
      simp only [List.length_cons]
      omega
    · exact Nat.zero_le _
theorem each_len (xs : List UInt8) : (each xs).length ≤ xs.length := each_pos xs _ 0 (Nat.zero_le _)
end Go.Proofs.YtjnpfpaigedpbaaDoor
