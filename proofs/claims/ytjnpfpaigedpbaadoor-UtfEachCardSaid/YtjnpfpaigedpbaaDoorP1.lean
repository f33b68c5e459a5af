import Derived.Test.YtjnpfpaigedpbaaDoorC1
namespace Go.Proofs.YtjnpfpaigedpbaaDoor

theorem tailB_eq (x : Nat) (h : x < 256) : tailB x = decide (128 ≤ x ∧ x < 192) := by
  have h' : ∀ x : Nat, x < 256 → tailB (x : Int) = decide (128 ≤ x ∧ x < 192) := by decide +kernel
  exact h' x h
theorem secondB_eq (x y : Nat) (hy : y < 256) : secondB x y = (if x = 224 then decide (160 ≤ y ∧ y ≤ 191) else if x = 237 then decide (128 ≤ y ∧ y ≤ 159) else if x = 240 then decide (144 ≤ y ∧ y ≤ 191) else if x = 244 then decide (128 ≤ y ∧ y ≤ 143) else decide (128 ≤ y ∧ y < 192)) := by
  unfold secondB
  rw [tailB_eq y hy, Bool.eq_iff_iff]
  by_cases h1 : x = 224
  · subst h1; simp <;> omega
  by_cases h2 : x = 237
  · subst h2; simp <;> omega
  by_cases h3 : x = 240
  · subst h3; simp <;> omega
  by_cases h4 : x = 244
  · subst h4; simp <;> omega
  have e1 : ¬ (x : Int) = 224 := by omega
  have e2 : ¬ (x : Int) = 237 := by omega
  have e3 : ¬ (x : Int) = 240 := by omega
  have e4 : ¬ (x : Int) = 244 := by omega
  simp only [e1, e2, e3, e4, h1, h2, h3, h4, if_false]

theorem class_iff (x : Nat) (h : x < 256) : (classI x = 1 ↔ x < 128) ∧ (classI x = 2 ↔ 194 ≤ x ∧ x ≤ 223) ∧ (classI x = 3 ↔ 224 ≤ x ∧ x ≤ 239) ∧ (classI x = 4 ↔ 240 ≤ x ∧ x ≤ 244) := by
  have h' : ∀ x : Nat, x < 256 → ((classI (x : Int) = 1 ↔ x < 128) ∧ (classI (x : Int) = 2 ↔ 194 ≤ x ∧ x ≤ 223) ∧ (classI (x : Int) = 3 ↔ 224 ≤ x ∧ x ≤ 239) ∧ (classI (x : Int) = 4 ↔ 240 ≤ x ∧ x ≤ 244)) := by decide +kernel
  exact h' x h

theorem b8 (a : UInt8) : a.toNat < 256 := a.toNat_lt
theorem at0 (a : UInt8) (t : List UInt8) : byteAt (a :: t) 0 = a.toNat := rfl
theorem at1 (a b : UInt8) (t : List UInt8) : byteAt (a :: b :: t) 1 = b.toNat := rfl
theorem at2 (a b c : UInt8) (t : List UInt8) : byteAt (a :: b :: c :: t) 2 = c.toNat := rfl
theorem at3 (a b c d : UInt8) (t : List UInt8) : byteAt (a :: b :: c :: d :: t) 3 = d.toNat := rfl

/-- What may stand behind the first byte. -/
def sec (a b : Nat) : Prop := 128 ≤ b ∧ b < 192 ∧ (a = 224 → 160 ≤ b) ∧ (a = 237 → b ≤ 159) ∧ (a = 240 → 144 ≤ b) ∧ (a = 244 → b ≤ 143)
instance (a b : Nat) : Decidable (sec a b) := by unfold sec; exact inferInstance
def tl (b : Nat) : Prop := 128 ≤ b ∧ b < 192
instance (b : Nat) : Decidable (tl b) := by unfold tl; exact inferInstance
theorem sec_eq (x y : Nat) (hy : y < 256) : (secondB x y && tailB y) = decide (sec x y) := by
  rw [secondB_eq x y hy, tailB_eq y hy, Bool.eq_iff_iff]
  unfold sec
  by_cases h1 : x = 224
  · subst h1; simp; omega
  by_cases h2 : x = 237
  · subst h2; simp; omega
  by_cases h3 : x = 240
  · subst h3; simp; omega
  by_cases h4 : x = 244
  · subst h4; simp; omega
  simp only [h1, h2, h3, h4, if_false, Bool.and_eq_true, decide_eq_true_eq, false_implies, and_true]
  omega
theorem tl_eq (y : Nat) (hy : y < 256) : tailB y = decide (tl y) := tailB_eq y hy

theorem okAt1 (a b : UInt8) (t : List UInt8) : okAt (a :: b :: t) 1 = decide (sec a.toNat b.toNat) := by
  rw [okAt_one (at0 _ _) (at1 _ _ _)]; exact sec_eq _ _ (b8 b)
theorem okAt2 (a b c : UInt8) (t : List UInt8) : okAt (a :: b :: c :: t) 2 = decide (tl c.toNat) := by
  rw [okAt_more (by decide) (at2 _ _ _ _)]; exact tl_eq _ (b8 c)
theorem okAt3 (a b c d : UInt8) (t : List UInt8) : okAt (a :: b :: c :: d :: t) 3 = decide (tl d.toNat) := by
  rw [okAt_more (by decide) (at3 _ _ _ _ _)]; exact tl_eq _ (b8 d)

theorem dec_a1 (a : UInt8) (t : List UInt8) (h : a.toNat < 128) : dec (a :: t) = (a.toNat, 1, 0) := by
  rw [dec_n (xs := a :: t) (n := 1) (by simp) (by omega) (by rw [at0, ((class_iff _ (b8 a)).1).2 h]; rfl)]
  simp [decLoop, accN, headBits, at0]
theorem dec_a0 (a : UInt8) (t : List UInt8) (h : ¬ a.toNat < 128) (h2 : ¬ (194 ≤ a.toNat ∧ a.toNat ≤ 244)) : dec (a :: t) = (0, 0, 2) := by
  apply dec_0 (by simp)
  have hc := class_iff _ (b8 a)
  rcases classI_cases _ (b8 a) with h' | h' | h' | h' | h'
  · exact h'
  · have := hc.1.1 h'; omega
  · have := hc.2.1.1 h'; omega
  · have := hc.2.2.1.1 h'; omega
  · have := hc.2.2.2.1 h'; omega
theorem dec_a2 (a : UInt8) (t : List UInt8) (h : 194 ≤ a.toNat ∧ a.toNat ≤ 223) : dec (a :: t) = match t with
    | [] => (0, 0, 1)
    | b :: _ => if sec a.toNat b.toNat then ((a.toNat % 32) * 64 + b.toNat % 64, 2, 0) else (0, 0, 2) := by
  rw [dec_n (xs := a :: t) (n := 2) (by simp) (by omega) (by rw [at0, ((class_iff _ (b8 a)).2.1).2 h]; rfl)]
  cases t with
  | nil => simp [decLoop]
  | cons b t => simp [decLoop, accN, headBits, at0, at1, okAt1]
theorem dec_a3 (a : UInt8) (t : List UInt8) (h : 224 ≤ a.toNat ∧ a.toNat ≤ 239) : dec (a :: t) = match t with
    | [] => (0, 0, 1)
    | [b] => if sec a.toNat b.toNat then (0, 0, 1) else (0, 0, 2)
    | b :: c :: _ => if sec a.toNat b.toNat then (if tl c.toNat then (((a.toNat % 16) * 64 + b.toNat % 64) * 64 + c.toNat % 64, 3, 0) else (0, 0, 2)) else (0, 0, 2) := by
  rw [dec_n (xs := a :: t) (n := 3) (by simp) (by omega) (by rw [at0, ((class_iff _ (b8 a)).2.2.1).2 h]; rfl)]
  match t with
  | [] => simp [decLoop]
  | [b] => simp [decLoop, okAt1]
  | b :: c :: t => simp [decLoop, accN, headBits, at0, at1, at2, okAt1, okAt2]
theorem dec_a4 (a : UInt8) (t : List UInt8) (h : 240 ≤ a.toNat ∧ a.toNat ≤ 244) : dec (a :: t) = match t with
    | [] => (0, 0, 1)
    | [b] => if sec a.toNat b.toNat then (0, 0, 1) else (0, 0, 2)
    | [b, c] => if sec a.toNat b.toNat then (if tl c.toNat then (0, 0, 1) else (0, 0, 2)) else (0, 0, 2)
    | b :: c :: d :: _ => if sec a.toNat b.toNat then (if tl c.toNat then (if tl d.toNat then ((((a.toNat % 8) * 64 + b.toNat % 64) * 64 + c.toNat % 64) * 64 + d.toNat % 64, 4, 0) else (0, 0, 2)) else (0, 0, 2)) else (0, 0, 2) := by
  rw [dec_n (xs := a :: t) (n := 4) (by simp) (by omega) (by rw [at0, ((class_iff _ (b8 a)).2.2.2).2 h]; rfl)]
  match t with
  | [] => simp [decLoop]
  | [b] => simp [decLoop, okAt1]
  | [b, c] => simp [decLoop, okAt1, okAt2]
  | b :: c :: d :: t => simp [decLoop, accN, headBits, at0, at1, at2, at3, okAt1, okAt2, okAt3]
end Go.Proofs.YtjnpfpaigedpbaaDoor
