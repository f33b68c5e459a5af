import Derived.Test.YthhnmpkgleelfaaGreatDoorRows
import Derived.WalkKit
import Derived.WalkSpells
import Derived.WalkLawsBesides
import Derived.Deep.QuietTactic
import Derived.BigQuiet
import Derived.Lib.Hide
import Derived.IntWalk
set_option linter.unusedVariables false
set_option linter.unusedSimpArgs false
namespace Go.Proofs.YthhnmpkgleelfaaGreatDoor
open Go.RowKit
def tailB (x : Int) : Bool := bits .and .u8 x 192 == 128
def secondB (x y : Int) : Bool :=
 if x = 224 then decide (160 ≤ y) && decide (y ≤ 191) else if x = 237 then decide (128 ≤ y) && decide (y ≤ 159)
 else if x = 240 then decide (144 ≤ y) && decide (y ≤ 191) else if x = 244 then decide (128 ≤ y) && decide (y ≤ 143) else tailB y
def lenTab : List Int := [1, 1, 1, 1, 1, 1, 1, 1, 0, 0, 0, 0, 2, 2, 3, 4]
def classI (x : Int) : Int := if x = 192 ∨ x = 193 ∨ 244 < x then -1 else lenTab.getD (x / 16).toNat 0
theorem ret_int {k : IntKind} {a b : Int} (h : a = b) : Ending.returned (.int k a) = .returned (.int k b) := by rw [h]
def byteAt (xs : List UInt8) (i : Nat) : Nat := (xs.getD i 0).toNat
theorem byteAt_lt (xs : List UInt8) (i : Nat) : byteAt xs i < 256 := UInt8.toNat_lt _
def headBits (n x : Nat) : Nat := if n = 1 then x else if n = 2 then x % 32 else if n = 3 then x % 16 else x % 8
def accN (n : Nat) (xs : List UInt8) : Nat → Nat
 | 0 => 0
 | 1 => headBits n (byteAt xs 0)
 | k + 2 => accN n xs (k + 1) * 64 + byteAt xs (k + 1) % 64
def okAt (xs : List UInt8) (k : Nat) : Bool := (k != 1 || secondB (byteAt xs 0) (byteAt xs 1)) && tailB (byteAt xs k)
def decLoop (xs : List UInt8) (n : Nat) : Nat → Nat → Nat × Nat × Nat
 | 0, _ => (accN n xs n, n, 0)
 | f + 1, k => if k = xs.length then (0, 0, 1) else if okAt xs k then decLoop xs n f (k + 1) else (0, 0, 2)
def dec (xs : List UInt8) : Nat × Nat × Nat :=
 if xs = [] then (0, 0, 1) else if classI (byteAt xs 0) < 1 then (0, 0, 2) else
  decLoop xs (classI (byteAt xs 0)).toNat ((classI (byteAt xs 0)).toNat - 1) 1
theorem okAt_one {xs : List UInt8} {x0 y : Nat} (h0 : byteAt xs 0 = x0) (h1 : byteAt xs 1 = y) : okAt xs 1 = (secondB x0 y && tailB y) := by simp [okAt, h0, h1]
theorem okAt_more {xs : List UInt8} {k y : Nat} (hk : k ≠ 1) (h1 : byteAt xs k = y) : okAt xs k = tailB y := by simp [okAt, h1, hk]
theorem lt_of_heap {w : World} {k : Nat} {o : Obj} (h : w.heap[k]? = some o) : k < w.heap.size := (Array.getElem?_eq_some_iff.1 h).1
theorem classI_cases (x : Nat) (hx : x < 256) : classI x < 1 ∨ classI x = 1 ∨ classI x = 2 ∨ classI x = 3 ∨ classI x = 4 := by
 have h : ∀ x : Nat, x < 256 → classI (x : Int) < 1 ∨ classI (x : Int) = 1 ∨ classI (x : Int) = 2 ∨ classI (x : Int) = 3 ∨ classI (x : Int) = 4 := by decide +kernel
 exact h x hx
theorem dec_0 {xs : List UInt8} (h : 0 < xs.length) (hc : classI (byteAt xs 0) < 1) : dec xs = (0, 0, 2) := by
 unfold dec; rw [if_neg (by intro e; subst e; simp at h), if_pos hc]
theorem dec_n {xs : List UInt8} {n : Nat} (h : 0 < xs.length) (hn : 1 ≤ n) (hc : classI (byteAt xs 0) = n) : dec xs = decLoop xs n (n - 1) 1 := by
 unfold dec; rw [if_neg (by intro e; subst e; simp at h), if_neg (by omega), hc]; rfl
def back (xs : List UInt8) : Nat → Nat
 | 0 => 0
 | k + 1 => if decide (xs.length < k + 1 + 4) && tailB (byteAt xs (k + 1)) then back xs k else k + 1
def last (xs : List UInt8) : Nat × Nat × Nat :=
 if xs = [] then (0, 0, 1) else
  let f := back xs (xs.length - 1)
  let r := dec (xs.drop f)
  if r.2.2 = 0 ∧ f + r.2.1 = xs.length then (r.1, r.2.1, 0) else (0, 0, 2)
theorem byteAt_drop (xs : List UInt8) (k i : Nat) : byteAt (xs.drop k) i = byteAt xs (k + i) := by simp [byteAt, List.getElem?_drop]
theorem decLoop_bd (xs : List UInt8) (n : Nat) (hn : n ≤ 4) : ∀ f k, (decLoop xs n f k).2.1 ≤ 4 ∧ (decLoop xs n f k).2.2 ≤ 2
 | 0, _ => ⟨hn, by simp [decLoop]⟩
 | f + 1, k => by
  unfold decLoop; split
  ·simp
  ·split
   ·exact decLoop_bd xs n hn f (k + 1)
   ·simp
theorem dec_bd (xs : List UInt8) : (dec xs).2.1 ≤ 4 ∧ (dec xs).2.2 ≤ 2 := by
 unfold dec; split
 ·simp
 ·split
  ·simp
  ·exact decLoop_bd xs _ (by have := classI_cases _ (byteAt_lt xs 0); omega) _ _
theorem decLoop_le (xs : List UInt8) (n : Nat) : ∀ f k, k + f = n → k ≤ xs.length → (decLoop xs n f k).2.1 ≤ xs.length
 | 0, k, h, hk => by show n ≤ _; omega
 | f + 1, k, h, hk => by
  unfold decLoop; split
  ·exact Nat.zero_le _
  ·split
   ·exact decLoop_le xs n f (k + 1) (by omega) (by omega)
   ·exact Nat.zero_le _
theorem dec_le (xs : List UInt8) : (dec xs).2.1 ≤ xs.length := by
 unfold dec; split
 ·exact Nat.zero_le _
 ·rename_i h0
  split
  ·exact Nat.zero_le _
  ·have : 0 < xs.length := List.length_pos_iff.2 h0
   exact decLoop_le xs _ _ 1 (by omega) (by omega)
def isR (c : Int) : Bool := decide (0 ≤ c) && decide (c ≤ 1114111) && !(decide (55296 ≤ c) && decide (c ≤ 57343))
def frm (c : Int) : List UInt8 :=
 if isR c then
  if c < 128 then [UInt8.ofNat c.toNat]
  else if c < 2048 then [UInt8.ofNat (192 + c / 64).toNat, UInt8.ofNat (128 + c % 64).toNat]
  else if c < 65536 then [UInt8.ofNat (224 + c / 4096).toNat, UInt8.ofNat (128 + c / 64 % 64).toNat, UInt8.ofNat (128 + c % 64).toNat]
  else [UInt8.ofNat (240 + c / 262144).toNat, UInt8.ofNat (128 + c / 4096 % 64).toNat, UInt8.ofNat (128 + c / 64 % 64).toNat, UInt8.ofNat (128 + c % 64).toNat]
 else []
theorem ofNat_toNat8 (n : Int) (h : 0 ≤ n ∧ n < 256) : (((UInt8.ofNat n.toNat).toNat : Nat) : Int) = n := by
 rw [UInt8.toNat_ofNat']; omega
theorem decLoop_pos (xs : List UInt8) (n : Nat) : ∀ f k, (decLoop xs n f k).2.2 = 0 → (decLoop xs n f k).2.1 = n
 | 0, _, _ => rfl
 | f + 1, k, h => by
  unfold decLoop at h ⊢; split
  ·rename_i hk; rw [if_pos hk] at h; simp at h
  ·rename_i hk; rw [if_neg hk] at h; split
   ·rename_i ho; rw [if_pos ho] at h; exact decLoop_pos xs n f (k + 1) h
   ·rename_i ho; rw [if_neg ho] at h; simp at h
theorem dec_pos {xs : List UInt8} (h : (dec xs).2.2 = 0) : 1 ≤ (dec xs).2.1 := by
 unfold dec at h ⊢; split
 ·rename_i h0; rw [if_pos h0] at h; simp at h
 ·rename_i h0; rw [if_neg h0] at h; split
  ·rename_i hc; rw [if_pos hc] at h; simp at h
  ·rename_i hc; rw [if_neg hc] at h; rw [decLoop_pos _ _ _ _ h]; omega
theorem tailB_eq (x : Nat) (h : x < 256) : tailB x = decide (128 ≤ x ∧ x < 192) := by
 have h' : ∀ x : Nat, x < 256 → tailB (x : Int) = decide (128 ≤ x ∧ x < 192) := by decide +kernel
 exact h' x h
theorem secondB_eq (x y : Nat) (hy : y < 256) : secondB x y = (if x = 224 then decide (160 ≤ y ∧ y ≤ 191) else if x = 237 then decide (128 ≤ y ∧ y ≤ 159) else if x = 240 then decide (144 ≤ y ∧ y ≤ 191) else if x = 244 then decide (128 ≤ y ∧ y ≤ 143) else decide (128 ≤ y ∧ y < 192)) := by
 unfold secondB
 rw [tailB_eq y hy, Bool.eq_iff_iff]
 by_cases h1 : x = 224
 ·subst h1; simp <;> omega
 by_cases h2 : x = 237
 ·subst h2; simp <;> omega
 by_cases h3 : x = 240
 ·subst h3; simp <;> omega
 by_cases h4 : x = 244
 ·subst h4; simp <;> omega
 have e1 : ¬ (x : Int) = 224 := by omega
 have e2 : ¬ (x : Int) = 237 := by omega
 have e3 : ¬ (x : Int) = 240 := by omega
 have e4 : ¬ (x : Int) = 244 := by omega
 simp only [e1, e2, e3, e4, h1, h2, h3, h4, if_false]
theorem class_iff (x : Nat) (h : x < 256) : (classI x = 1 ↔ x < 128) ∧ (classI x = 2 ↔ 194 ≤ x ∧ x ≤ 223) ∧ (classI x = 3 ↔ 224 ≤ x ∧ x ≤ 239) ∧ (classI x = 4 ↔ 240 ≤ x ∧ x ≤ 244) := by
 have h' : ∀ x : Nat, x < 256 → ((classI (x : Int) = 1 ↔ x < 128) ∧ (classI (x : Int) = 2 ↔ 194 ≤ x ∧ x ≤ 223) ∧ (classI (x : Int) = 3 ↔ 224 ≤ x ∧ x ≤ 239) ∧ (classI (x : Int) = 4 ↔ 240 ≤ x ∧ x ≤ 244)) := by decide +kernel
 exact h' x h
theorem b8 (a : UInt8) : a.toNat < 256 := a.toNat_lt
theorem at0 (a : UInt8) (t : List UInt8) : byteAt (a :: t) 0 = a.toNat := rfl
theorem at1 (a b : UInt8) (t : List UInt8) : byteAt (a :: b :: t) 1 = b.toNat := rfl
theorem at2 (a b c : UInt8) (t : List UInt8) : byteAt (a :: b :: c :: t) 2 = c.toNat := rfl
theorem at3 (a b c d : UInt8) (t : List UInt8) : byteAt (a :: b :: c :: d :: t) 3 = d.toNat := rfl
def sec (a b : Nat) : Prop := 128 ≤ b ∧ b < 192 ∧ (a = 224 → 160 ≤ b) ∧ (a = 237 → b ≤ 159) ∧ (a = 240 → 144 ≤ b) ∧ (a = 244 → b ≤ 143)
instance (a b : Nat) : Decidable (sec a b) := by unfold sec; exact inferInstance
def tl (b : Nat) : Prop := 128 ≤ b ∧ b < 192
instance (b : Nat) : Decidable (tl b) := by unfold tl; exact inferInstance
theorem sec_eq (x y : Nat) (hy : y < 256) : (secondB x y && tailB y) = decide (sec x y) := by
 rw [secondB_eq x y hy, tailB_eq y hy, Bool.eq_iff_iff]
 unfold sec
 by_cases h1 : x = 224
 ·subst h1; simp; omega
 by_cases h2 : x = 237
 ·subst h2; simp; omega
 by_cases h3 : x = 240
 ·subst h3; simp; omega
 by_cases h4 : x = 244
 ·subst h4; simp; omega
 simp only [h1, h2, h3, h4, if_false, Bool.and_eq_true, decide_eq_true_eq, false_implies, and_true]
 omega
theorem tl_eq (y : Nat) (hy : y < 256) : tailB y = decide (tl y) := tailB_eq y hy
theorem okAt1 (a b : UInt8) (t : List UInt8) : okAt (a :: b :: t) 1 = decide (sec a.toNat b.toNat) := by
 rw [okAt_one (at0 _ _) (at1 _ _ _)]; exact sec_eq _ _ (b8 b)
theorem okAt2 (a b c : UInt8) (t : List UInt8) : okAt (a :: b :: c :: t) 2 = decide (tl c.toNat) := by
 rw [okAt_more (by decide) (at2 _ _ _ _)]; exact tl_eq _ (b8 c)
theorem okAt3 (a b c d : UInt8) (t : List UInt8) : okAt (a :: b :: c :: d :: t) 3 = decide (tl d.toNat) := by
 rw [okAt_more (by decide) (at3 _ _ _ _ _)]; exact tl_eq _ (b8 d)
theorem dec_a1 (a : UInt8) (t : List UInt8) (h : a.toNat < 128) : dec (a :: t) = (a.toNat, 1, 0) := by
 rw [dec_n (xs := a :: t) (n := 1) (by simp) (by omega) (by rw [at0, ((class_iff _ (b8 a)).1).2 h]; rfl)]
 simp [decLoop, accN, headBits, at0]
theorem dec_a0 (a : UInt8) (t : List UInt8) (h : ¬ a.toNat < 128) (h2 : ¬ (194 ≤ a.toNat ∧ a.toNat ≤ 244)) : dec (a :: t) = (0, 0, 2) := by
 apply dec_0 (by simp)
 have hc := class_iff _ (b8 a)
 rcases classI_cases _ (b8 a) with h' | h' | h' | h' | h'
 ·exact h'
 ·have := hc.1.1 h'; omega
 ·have := hc.2.1.1 h'; omega
 ·have := hc.2.2.1.1 h'; omega
 ·have := hc.2.2.2.1 h'; omega
theorem dec_a2 (a : UInt8) (t : List UInt8) (h : 194 ≤ a.toNat ∧ a.toNat ≤ 223) : dec (a :: t) = match t with
  | [] => (0, 0, 1)
  | b :: _ => if sec a.toNat b.toNat then ((a.toNat % 32) * 64 + b.toNat % 64, 2, 0) else (0, 0, 2) := by
 rw [dec_n (xs := a :: t) (n := 2) (by simp) (by omega) (by rw [at0, ((class_iff _ (b8 a)).2.1).2 h]; rfl)]
 cases t with
 | nil => simp [decLoop]
 | cons b t => simp [decLoop, accN, headBits, at0, at1, okAt1]
theorem dec_a3 (a : UInt8) (t : List UInt8) (h : 224 ≤ a.toNat ∧ a.toNat ≤ 239) : dec (a :: t) = match t with
  | [] => (0, 0, 1)
  | [b] => if sec a.toNat b.toNat then (0, 0, 1) else (0, 0, 2)
  | b :: c :: _ => if sec a.toNat b.toNat then (if tl c.toNat then (((a.toNat % 16) * 64 + b.toNat % 64) * 64 + c.toNat % 64, 3, 0) else (0, 0, 2)) else (0, 0, 2) := by
 rw [dec_n (xs := a :: t) (n := 3) (by simp) (by omega) (by rw [at0, ((class_iff _ (b8 a)).2.2.1).2 h]; rfl)]
 match t with
 | [] => simp [decLoop]
 | [b] => simp [decLoop, okAt1]
 | b :: c :: t => simp [decLoop, accN, headBits, at0, at1, at2, okAt1, okAt2]
theorem dec_a4 (a : UInt8) (t : List UInt8) (h : 240 ≤ a.toNat ∧ a.toNat ≤ 244) : dec (a :: t) = match t with
  | [] => (0, 0, 1)
  | [b] => if sec a.toNat b.toNat then (0, 0, 1) else (0, 0, 2)
  | [b, c] => if sec a.toNat b.toNat then (if tl c.toNat then (0, 0, 1) else (0, 0, 2)) else (0, 0, 2)
  | b :: c :: d :: _ => if sec a.toNat b.toNat then (if tl c.toNat then (if tl d.toNat then ((((a.toNat % 8) * 64 + b.toNat % 64) * 64 + c.toNat % 64) * 64 + d.toNat % 64, 4, 0) else (0, 0, 2)) else (0, 0, 2)) else (0, 0, 2) := by
 rw [dec_n (xs := a :: t) (n := 4) (by simp) (by omega) (by rw [at0, ((class_iff _ (b8 a)).2.2.2).2 h]; rfl)]
 match t with
 | [] => simp [decLoop]
 | [b] => simp [decLoop, okAt1]
 | [b, c] => simp [decLoop, okAt1, okAt2]
 | b :: c :: d :: t => simp [decLoop, accN, headBits, at0, at1, at2, at3, okAt1, okAt2, okAt3]
theorem u8_of {n : Nat} {a : UInt8} (h : n = a.toNat) : UInt8.ofNat n = a := by rw [h]; exact UInt8.ofNat_toNat
theorem isR_nat (c : Nat) : isR c = decide (c ≤ 1114111 ∧ ¬ (55296 ≤ c ∧ c ≤ 57343)) := by
 unfold isR; rw [Bool.eq_iff_iff]; simp; omega
theorem frm_1 (c : Nat) (h : c < 128) : frm c = [UInt8.ofNat c] := by
 have hr : isR c = true := by rw [isR_nat]; simp; omega
 rw [frm, if_pos hr, if_pos (by omega)]; rfl
theorem frm_2 (c : Nat) (h : 128 ≤ c ∧ c < 2048) : frm c = [UInt8.ofNat (192 + c / 64), UInt8.ofNat (128 + c % 64)] := by
 have hr : isR c = true := by rw [isR_nat]; simp; omega
 rw [frm, if_pos hr, if_neg (by omega), if_pos (by omega), show (192 + (c : Int) / 64).toNat = 192 + c / 64 by omega, show (128 + (c : Int) % 64).toNat = 128 + c % 64 by omega]
theorem frm_3 (c : Nat) (h : 2048 ≤ c ∧ c < 65536) (h' : ¬ (55296 ≤ c ∧ c ≤ 57343)) : frm c = [UInt8.ofNat (224 + c / 4096), UInt8.ofNat (128 + c / 64 % 64), UInt8.ofNat (128 + c % 64)] := by
 have hr : isR c = true := by rw [isR_nat]; simp; omega
 rw [frm, if_pos hr, if_neg (by omega), if_neg (by omega), if_pos (by omega), show (224 + (c : Int) / 4096).toNat = 224 + c / 4096 by omega, show (128 + (c : Int) / 64 % 64).toNat = 128 + c / 64 % 64 by omega, show (128 + (c : Int) % 64).toNat = 128 + c % 64 by omega]
theorem frm_4 (c : Nat) (h : 65536 ≤ c ∧ c ≤ 1114111) : frm c = [UInt8.ofNat (240 + c / 262144), UInt8.ofNat (128 + c / 4096 % 64), UInt8.ofNat (128 + c / 64 % 64), UInt8.ofNat (128 + c % 64)] := by
 have hr : isR c = true := by rw [isR_nat]; simp; omega
 rw [frm, if_pos hr, if_neg (by omega), if_neg (by omega), if_neg (by omega), show (240 + (c : Int) / 262144).toNat = 240 + c / 262144 by omega, show (128 + (c : Int) / 4096 % 64).toNat = 128 + c / 4096 % 64 by omega, show (128 + (c : Int) / 64 % 64).toNat = 128 + c / 64 % 64 by omega, show (128 + (c : Int) % 64).toNat = 128 + c % 64 by omega]
theorem dec_cases {xs : List UInt8} (h : (dec xs).2.2 = 0) :
  (∃ a t, xs = a :: t ∧ a.toNat < 128 ∧ dec xs = (a.toNat, 1, 0)) ∨
  (∃ a b t, xs = a :: b :: t ∧ (194 ≤ a.toNat ∧ a.toNat ≤ 223) ∧ sec a.toNat b.toNat ∧ dec xs = ((a.toNat % 32) * 64 + b.toNat % 64, 2, 0)) ∨
  (∃ a b c t, xs = a :: b :: c :: t ∧ (224 ≤ a.toNat ∧ a.toNat ≤ 239) ∧ sec a.toNat b.toNat ∧ tl c.toNat ∧ dec xs = (((a.toNat % 16) * 64 + b.toNat % 64) * 64 + c.toNat % 64, 3, 0)) ∨
  (∃ a b c d t, xs = a :: b :: c :: d :: t ∧ (240 ≤ a.toNat ∧ a.toNat ≤ 244) ∧ sec a.toNat b.toNat ∧ tl c.toNat ∧ tl d.toNat ∧ dec xs = ((((a.toNat % 8) * 64 + b.toNat % 64) * 64 + c.toNat % 64) * 64 + d.toNat % 64, 4, 0)) := by
 cases xs with
 | nil => simp [dec] at h
 | cons a t =>
  by_cases h1 : a.toNat < 128
  ·exact .inl ⟨a, t, rfl, h1, dec_a1 a t h1⟩
  by_cases h2 : 194 ≤ a.toNat ∧ a.toNat ≤ 223
  ·have e := dec_a2 a t h2
   match t with
   | [] => rw [e] at h; simp at h
   | b :: t =>
    by_cases hs : sec a.toNat b.toNat
    ·simp only [hs, if_true] at e
     exact .inr (.inl ⟨a, b, t, rfl, h2, hs, e⟩)
    ·rw [e] at h; simp [hs] at h
  by_cases h3 : 224 ≤ a.toNat ∧ a.toNat ≤ 239
  ·have e := dec_a3 a t h3
   match t with
   | [] => rw [e] at h; simp at h
   | [b] => rw [e] at h; by_cases hs : sec a.toNat b.toNat <;> simp [hs] at h
   | b :: c :: t =>
    by_cases hs : sec a.toNat b.toNat
    ·by_cases ht : tl c.toNat
     ·simp only [hs, ht, if_true] at e
      exact .inr (.inr (.inl ⟨a, b, c, t, rfl, h3, hs, ht, e⟩))
     ·rw [e] at h; simp [hs, ht] at h
    ·rw [e] at h; simp [hs] at h
  by_cases h4 : 240 ≤ a.toNat ∧ a.toNat ≤ 244
  ·have e := dec_a4 a t h4
   match t with
   | [] => rw [e] at h; simp at h
   | [b] => rw [e] at h; by_cases hs : sec a.toNat b.toNat <;> simp [hs] at h
   | [b, c] => rw [e] at h; by_cases hs : sec a.toNat b.toNat <;> by_cases ht : tl c.toNat <;> simp [hs, ht] at h
   | b :: c :: d :: t =>
    by_cases hs : sec a.toNat b.toNat
    ·by_cases ht : tl c.toNat
     ·by_cases hd : tl d.toNat
      ·simp only [hs, ht, hd, if_true] at e
       exact .inr (.inr (.inr ⟨a, b, c, d, t, rfl, h4, hs, ht, hd, e⟩))
      ·rw [e] at h; simp [hs, ht, hd] at h
     ·rw [e] at h; simp [hs, ht] at h
    ·rw [e] at h; simp [hs] at h
  ·have e := dec_a0 a t h1 (by omega)
   rw [e] at h; simp at h
theorem dec_frm {xs : List UInt8} (h : (dec xs).2.2 = 0) : frm (dec xs).1 = xs.take (dec xs).2.1 ∧ isR (dec xs).1 = true := by
 rcases dec_cases h with ⟨a, t, rfl, h1, e⟩ | ⟨a, b, t, rfl, h1, hs, e⟩ | ⟨a, b, c, t, rfl, h1, hs, ht, e⟩ | ⟨a, b, c, d, t, rfl, h1, hs, ht, hd, e⟩ <;> rw [e] <;> simp only
 ·exact ⟨by rw [frm_1 _ h1, u8_of rfl]; rfl, by rw [isR_nat]; simp; omega⟩
 ·unfold sec at hs
  have hb := b8 b
  refine ⟨?_, by rw [isR_nat]; simp; omega⟩
  rw [frm_2 _ (by omega), u8_of (a := a) (by omega), u8_of (a := b) (by omega)]; rfl
 ·unfold sec at hs; unfold tl at ht
  have hb := b8 b
  have hc := b8 c
  refine ⟨?_, by rw [isR_nat]; simp; omega⟩
  rw [frm_3 _ (by omega) (by omega), u8_of (a := a) (by omega), u8_of (a := b) (by omega), u8_of (a := c) (by omega)]; rfl
 ·unfold sec at hs; unfold tl at ht hd
  have hb := b8 b
  have hc := b8 c
  have hdd := b8 d
  refine ⟨?_, by rw [isR_nat]; simp; omega⟩
  rw [frm_4 _ (by omega), u8_of (a := a) (by omega), u8_of (a := b) (by omega), u8_of (a := c) (by omega), u8_of (a := d) (by omega)]; rfl
theorem frm_ne {c : Int} (h : isR c = true) : frm c ≠ [] := by
 rw [frm, if_pos h]; repeat' split
 all_goals simp
theorem isR_pos {c : Int} (h : isR c = true) : 0 ≤ c := by simp [isR] at h; omega
theorem ofNat8 (n : Nat) (h : n < 256) : (UInt8.ofNat n).toNat = n := by rw [UInt8.toNat_ofNat']; omega
theorem dec_of_frm (c : Nat) (h : isR c = true) (ys : List UInt8) : dec (frm c ++ ys) = (c, (frm c).length, 0) := by
 rw [isR_nat] at h
 simp only [decide_eq_true_eq] at h
 by_cases h1 : c < 128
 ·rw [frm_1 c h1]
  have e := ofNat8 c (by omega)
  rw [List.singleton_append, dec_a1 _ _ (by omega), e]; rfl
 by_cases h2 : c < 2048
 ·rw [frm_2 c (by omega)]
  have e1 := ofNat8 (192 + c / 64) (by omega)
  have e2 := ofNat8 (128 + c % 64) (by omega)
  rw [List.cons_append, dec_a2 _ _ (by omega)]
  simp only [List.cons_append, List.nil_append, e1, e2]
  rw [if_pos (by unfold sec; omega)]
  simp only [Prod.mk.injEq, List.length_cons, List.length_nil, and_true]
  omega
 by_cases h3 : c < 65536
 ·rw [frm_3 c (by omega) (by omega)]
  have e1 := ofNat8 (224 + c / 4096) (by omega)
  have e2 := ofNat8 (128 + c / 64 % 64) (by omega)
  have e3 := ofNat8 (128 + c % 64) (by omega)
  rw [List.cons_append, dec_a3 _ _ (by omega)]
  simp only [List.cons_append, List.nil_append, e1, e2, e3]
  rw [if_pos (by unfold sec; omega), if_pos (by unfold tl; omega)]
  simp only [Prod.mk.injEq, List.length_cons, List.length_nil, and_true]
  omega
 ·rw [frm_4 c (by omega)]
  have e1 := ofNat8 (240 + c / 262144) (by omega)
  have e2 := ofNat8 (128 + c / 4096 % 64) (by omega)
  have e3 := ofNat8 (128 + c / 64 % 64) (by omega)
  have e4 := ofNat8 (128 + c % 64) (by omega)
  rw [List.cons_append, dec_a4 _ _ (by omega)]
  simp only [List.cons_append, List.nil_append, e1, e2, e3, e4]
  rw [if_pos (by unfold sec; omega), if_pos (by unfold tl; omega), if_pos (by unfold tl; omega)]
  simp only [Prod.mk.injEq, List.length_cons, List.length_nil, and_true]
  omega
theorem frm_shape (c : Nat) (h : isR c = true) : ∃ (a : UInt8) (t : List UInt8), frm c = a :: t ∧ t.length ≤ 3 ∧ ¬ tl a.toNat ∧ (∀ x ∈ t, tl x.toNat) ∧ classI a.toNat = ((t.length + 1 : Nat) : Int) := by
 rw [isR_nat] at h
 simp only [decide_eq_true_eq] at h
 by_cases h1 : c < 128
 ·rw [frm_1 c h1]
  have e := ofNat8 c (by omega)
  exact ⟨_, _, rfl, by simp, by rw [e]; unfold tl; omega, by simp, by rw [e, (class_iff _ (by omega)).1.2 h1]; rfl⟩
 by_cases h2 : c < 2048
 ·rw [frm_2 c (by omega)]
  have e1 := ofNat8 (192 + c / 64) (by omega)
  have e2 := ofNat8 (128 + c % 64) (by omega)
  refine ⟨_, _, rfl, by simp, by rw [e1]; unfold tl; omega, ?_, by rw [e1, (class_iff _ (by omega)).2.1.2 (by omega)]; rfl⟩
  intro x hx
  simp only [List.mem_singleton] at hx
  subst hx; rw [e2]; unfold tl; omega
 by_cases h3 : c < 65536
 ·rw [frm_3 c (by omega) (by omega)]
  have e1 := ofNat8 (224 + c / 4096) (by omega)
  have e2 := ofNat8 (128 + c / 64 % 64) (by omega)
  have e3 := ofNat8 (128 + c % 64) (by omega)
  refine ⟨_, _, rfl, by simp, by rw [e1]; unfold tl; omega, ?_, by rw [e1, (class_iff _ (by omega)).2.2.1.2 (by omega)]; rfl⟩
  intro x hx
  simp only [List.mem_cons, List.not_mem_nil, or_false] at hx
  rcases hx with rfl | rfl
  ·rw [e2]; unfold tl; omega
  ·rw [e3]; unfold tl; omega
 ·rw [frm_4 c (by omega)]
  have e1 := ofNat8 (240 + c / 262144) (by omega)
  have e2 := ofNat8 (128 + c / 4096 % 64) (by omega)
  have e3 := ofNat8 (128 + c / 64 % 64) (by omega)
  have e4 := ofNat8 (128 + c % 64) (by omega)
  refine ⟨_, _, rfl, by simp, by rw [e1]; unfold tl; omega, ?_, by rw [e1, (class_iff _ (by omega)).2.2.2.2 (by omega)]; rfl⟩
  intro x hx
  simp only [List.mem_cons, List.not_mem_nil, or_false] at hx
  rcases hx with rfl | rfl | rfl
  ·rw [e2]; unfold tl; omega
  ·rw [e3]; unfold tl; omega
  ·rw [e4]; unfold tl; omega
def headN (x n : Int) : Int := if n = 2 then x - 192 else if n = 3 then x - 224 else if n = 4 then x - 240 else x
def digN (xs : List UInt8) (fill : Int) (i : Nat) : Int := if i < xs.length then (byteAt xs i : Int) - 128 else fill
def numK (xs : List UInt8) (n fill : Int) : Nat → Int
 | 0 => headN (byteAt xs 0) n
 | k + 1 => numK xs n fill k * 64 + digN xs fill (k + 1)
theorem digN_bd (xs : List UInt8) {fill : Int} (hf : 0 ≤ fill ∧ fill ≤ 63) (i : Nat) : -128 ≤ digN xs fill i ∧ digN xs fill i ≤ 127 := by
 unfold digN
 have := byteAt_lt xs i
 split <;> omega
theorem headN_bd (xs : List UInt8) (n : Int) : -256 ≤ headN (byteAt xs 0) n ∧ headN (byteAt xs 0) n ≤ 256 := by
 have := byteAt_lt xs 0
 unfold headN
 split
 ·omega
 ·split
  ·omega
  ·split <;> omega
theorem numK_bd (xs : List UInt8) (n : Int) {fill : Int} (hf : 0 ≤ fill ∧ fill ≤ 63) (k : Nat) (hk : k ≤ 3) : -100000000 ≤ numK xs n fill k ∧ numK xs n fill k ≤ 100000000 := by
 have h0 := headN_bd xs n
 have h1 := digN_bd xs hf 1
 have h2 := digN_bd xs hf 2
 have h3 := digN_bd xs hf 3
 have hk' : k = 0 ∨ k = 1 ∨ k = 2 ∨ k = 3 := by omega
 rcases hk' with rfl | rfl | rfl | rfl <;> simp only [numK, Nat.zero_add, Nat.reduceAdd] <;> omega
def goodK (xs : List UInt8) : Nat → Bool
 | 0 => true
 | k + 1 => goodK xs k && (decide (128 ≤ byteAt xs (k + 1)) && decide (byteAt xs (k + 1) ≤ 191))
theorem ref_yes {xs : List UInt8} {n : Nat} (hn : classI (byteAt xs 0) = n) {c : Int} (hr : isR c = true) (hb : xs.take (frm c).length = frm c) : dec xs = (c.toNat, n, 0) := by
 have hcn : ((c.toNat : Nat) : Int) = c := by have := isR_pos hr; omega
 obtain ⟨a, t, e, -, -, -, hcls⟩ := frm_shape c.toNat (by rw [hcn]; exact hr)
 rw [hcn] at e
 have hx : xs = frm c ++ xs.drop (frm c).length := by
  have := List.take_append_drop (frm c).length xs
  rw [hb] at this; exact this.symm
 have hd := dec_of_frm c.toNat (by rw [hcn]; exact hr) (xs.drop (frm c).length)
 rw [hcn, ← hx] at hd
 have hb0 : byteAt xs 0 = a.toNat := by rw [hx, e]; simp [byteAt]
 have hl : (frm c).length = n := by
  rw [hb0, hcls] at hn; rw [e]; simp only [List.length_cons]; omega
 rw [hd, hl]
theorem ref_back {xs : List UInt8} (h : (dec xs).2.2 = 0) : ∃ n : Nat, 1 ≤ n ∧ n ≤ 4 ∧ classI (byteAt xs 0) = n ∧ goodK xs (n - 1) = true ∧ numK xs n 0 (n - 1) = (dec xs).1 ∧ isR (dec xs).1 = true ∧ xs.take (frm (dec xs).1).length = frm (dec xs).1 := by
 obtain ⟨hf, hr⟩ := dec_frm h
 have htake : xs.take (frm (dec xs).1).length = frm (dec xs).1 := by
  rw [hf, List.length_take]
  by_cases hle : (dec xs).2.1 ≤ xs.length
  ·rw [Nat.min_eq_left hle]
  ·rw [Nat.min_eq_right (by omega), List.take_length, List.take_of_length_le (by omega)]
 rcases dec_cases h with ⟨a, t, rfl, h1, e⟩ | ⟨a, b, t, rfl, h1, hs, e⟩ | ⟨a, b, c, t, rfl, h1, hs, ht, e⟩ | ⟨a, b, c, d, t, rfl, h1, hs, ht, hd, e⟩
 all_goals
  have ha := b8 a
  rw [e] at hr htake ⊢
  simp only at hr htake ⊢
 ·exact ⟨1, by omega, by omega, by simp only [byteAt, List.getD_cons_zero]; exact (class_iff _ (by omega)).1.2 h1, rfl, by simp [numK, headN, byteAt], hr, htake⟩
 ·have hb := b8 b
  unfold sec at hs
  refine ⟨2, by omega, by omega, by simp only [byteAt, List.getD_cons_zero]; exact (class_iff _ (by omega)).2.1.2 h1, ?_, ?_, hr, htake⟩
  ·simp [goodK, byteAt]; omega
  ·simp [numK, headN, digN, byteAt]; omega
 ·have hb := b8 b
  have hc := b8 c
  unfold sec at hs; unfold tl at ht
  refine ⟨3, by omega, by omega, by simp only [byteAt, List.getD_cons_zero]; exact (class_iff _ (by omega)).2.2.1.2 h1, ?_, ?_, hr, htake⟩
  ·simp [goodK, byteAt]; omega
  ·simp [numK, headN, digN, byteAt]; omega
 ·have hb := b8 b
  have hc := b8 c
  have hd' := b8 d
  unfold sec at hs; unfold tl at ht hd
  refine ⟨4, by omega, by omega, by simp only [byteAt, List.getD_cons_zero]; exact (class_iff _ (by omega)).2.2.2.2 h1, ?_, ?_, hr, htake⟩
  ·simp [goodK, byteAt]; omega
  ·simp [numK, headN, digN, byteAt]; omega
theorem decLoop_err (xs : List UInt8) (n : Nat) : ∀ f k, (decLoop xs n f k).2.2 ≠ 0 → decLoop xs n f k = (0, 0, (decLoop xs n f k).2.2)
 | 0, _, h => absurd rfl h
 | f + 1, k, h => by
  unfold decLoop at h ⊢; split
  ·rfl
  ·rename_i hk; rw [if_neg hk] at h; split
   ·rename_i ho; rw [if_pos ho] at h; exact decLoop_err xs n f (k + 1) h
   ·rfl
theorem dec_err {xs : List UInt8} (h : (dec xs).2.2 ≠ 0) : dec xs = (0, 0, (dec xs).2.2) := by
 unfold dec at h ⊢; split
 ·rfl
 ·rename_i h0; rw [if_neg h0] at h; split
  ·rfl
  ·rename_i hc; rw [if_neg hc] at h; exact decLoop_err _ _ _ _ h
theorem wrap32_of {x : Int} (h0 : 0 ≤ x) (h1 : x < 2147483648) : wrap32 x = x := by
 unfold wrap32; omega
theorem isR_le {c : Int} (h : isR c = true) : c ≤ 1114111 := by
 simp only [isR, Bool.and_eq_true, decide_eq_true_eq] at h; exact h.1.2
def refc (x : Int) : Int := if x < 128 then 1 else if x < 192 then 0 else if 194 ≤ x ∧ x ≤ 223 then 2 else if 224 ≤ x ∧ x ≤ 239 then 3 else if 240 ≤ x ∧ x ≤ 244 then 4 else -1
theorem refc_eq (x : Nat) (h : x < 256) : refc x = classI x := by
 have h' : ∀ x : Nat, x < 256 → refc (x : Int) = classI (x : Int) := by decide +kernel
 exact h' x h
end Go.Proofs.YthhnmpkgleelfaaGreatDoor
