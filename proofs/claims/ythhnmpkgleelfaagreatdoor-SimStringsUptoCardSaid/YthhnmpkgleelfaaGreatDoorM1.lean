import Derived.Test.YthhnmpkgleelfaaGreatDoorRows
import Derived.WalkKit
import Derived.WalkSpells
import Derived.WalkLawsBesides
import Derived.Deep.QuietTactic
import Derived.BigQuiet
import Derived.Lib.Hide
import Derived.IntWalk
import Derived.Maps.AppendAt
import Derived.Deep.AppendLies
import Derived.RegionTactic
import Derived.OwnWalk
import Derived.Deep.RegionLaw
import Derived.Laws.MakeOwn
import Derived.Laws.OwnMore
import Derived.Laws.CopyOwn
import Derived.Great.BuildSlice
import Derived.RangeFuncFrom
set_option linter.unusedVariables false
set_option linter.unusedSimpArgs false
namespace Go.Proofs.YthhnmpkgleelfaaGreatDoor
open Go.RowKit
def tailB (x : Int) : Bool := bits .and .u8 x 192 == 128
def secondB (x y : Int) : Bool :=
 if x = 224 then decide (160 ≤ y) && decide (y ≤ 191) else if x = 237 then decide (128 ≤ y) && decide (y ≤ 159)
 else if x = 240 then decide (144 ≤ y) && decide (y ≤ 191) else if x = 244 then decide (128 ≤ y) && decide (y ≤ 143) else tailB y
def lenTab : List Int := [1, 1, 1, 1, 1, 1, 1, 1, 0, 0, 0, 0, 2, 2, 3, 4]
def classI (x : Int) : Int := if x = 192 ∨ x = 193 ∨ 244 < x then -1 else lenTab.getD (x / 16).toNat 0
theorem ret_int {k : IntKind} {a b : Int} (h : a = b) : Ending.returned (.int k a) = .returned (.int k b) := by rw [h]
def byteAt (xs : List UInt8) (i : Nat) : Nat := (xs.getD i 0).toNat
theorem byteAt_lt (xs : List UInt8) (i : Nat) : byteAt xs i < 256 := UInt8.toNat_lt _
def headBits (n x : Nat) : Nat := if n = 1 then x else if n = 2 then x % 32 else if n = 3 then x % 16 else x % 8
def accN (n : Nat) (xs : List UInt8) : Nat → Nat
 | 0 => 0
 | 1 => headBits n (byteAt xs 0)
 | k + 2 => accN n xs (k + 1) * 64 + byteAt xs (k + 1) % 64
def okAt (xs : List UInt8) (k : Nat) : Bool := (k != 1 || secondB (byteAt xs 0) (byteAt xs 1)) && tailB (byteAt xs k)
def decLoop (xs : List UInt8) (n : Nat) : Nat → Nat → Nat × Nat × Nat
 | 0, _ => (accN n xs n, n, 0)
 | f + 1, k => if k = xs.length then (0, 0, 1) else if okAt xs k then decLoop xs n f (k + 1) else (0, 0, 2)
def dec (xs : List UInt8) : Nat × Nat × Nat :=
 if xs = [] then (0, 0, 1) else if classI (byteAt xs 0) < 1 then (0, 0, 2) else
  decLoop xs (classI (byteAt xs 0)).toNat ((classI (byteAt xs 0)).toNat - 1) 1
theorem okAt_one {xs : List UInt8} {x0 y : Nat} (h0 : byteAt xs 0 = x0) (h1 : byteAt xs 1 = y) : okAt xs 1 = (secondB x0 y && tailB y) := by simp [okAt, h0, h1]
theorem okAt_more {xs : List UInt8} {k y : Nat} (hk : k ≠ 1) (h1 : byteAt xs k = y) : okAt xs k = tailB y := by simp [okAt, h1, hk]
theorem lt_of_heap {w : World} {k : Nat} {o : Obj} (h : w.heap[k]? = some o) : k < w.heap.size := (Array.getElem?_eq_some_iff.1 h).1
theorem classI_cases (x : Nat) (hx : x < 256) : classI x < 1 ∨ classI x = 1 ∨ classI x = 2 ∨ classI x = 3 ∨ classI x = 4 := by
 have h : ∀ x : Nat, x < 256 → classI (x : Int) < 1 ∨ classI (x : Int) = 1 ∨ classI (x : Int) = 2 ∨ classI (x : Int) = 3 ∨ classI (x : Int) = 4 := by decide +kernel
 exact h x hx
theorem dec_0 {xs : List UInt8} (h : 0 < xs.length) (hc : classI (byteAt xs 0) < 1) : dec xs = (0, 0, 2) := by
 unfold dec; rw [if_neg (by intro e; subst e; simp at h), if_pos hc]
theorem dec_n {xs : List UInt8} {n : Nat} (h : 0 < xs.length) (hn : 1 ≤ n) (hc : classI (byteAt xs 0) = n) : dec xs = decLoop xs n (n - 1) 1 := by
 unfold dec; rw [if_neg (by intro e; subst e; simp at h), if_neg (by omega), hc]; rfl
def back (xs : List UInt8) : Nat → Nat
 | 0 => 0
 | k + 1 => if decide (xs.length < k + 1 + 4) && tailB (byteAt xs (k + 1)) then back xs k else k + 1
def last (xs : List UInt8) : Nat × Nat × Nat :=
 if xs = [] then (0, 0, 1) else
  let f := back xs (xs.length - 1)
  let r := dec (xs.drop f)
  if r.2.2 = 0 ∧ f + r.2.1 = xs.length then (r.1, r.2.1, 0) else (0, 0, 2)
theorem byteAt_drop (xs : List UInt8) (k i : Nat) : byteAt (xs.drop k) i = byteAt xs (k + i) := by simp [byteAt, List.getElem?_drop]
theorem decLoop_bd (xs : List UInt8) (n : Nat) (hn : n ≤ 4) : ∀ f k, (decLoop xs n f k).2.1 ≤ 4 ∧ (decLoop xs n f k).2.2 ≤ 2
 | 0, _ => ⟨hn, by simp [decLoop]⟩
 | f + 1, k => by
  unfold decLoop; split
  ·simp
  ·split
   ·exact decLoop_bd xs n hn f (k + 1)
   ·simp
theorem dec_bd (xs : List UInt8) : (dec xs).2.1 ≤ 4 ∧ (dec xs).2.2 ≤ 2 := by
 unfold dec; split
 ·simp
 ·split
  ·simp
  ·exact decLoop_bd xs _ (by have := classI_cases _ (byteAt_lt xs 0); omega) _ _
theorem decLoop_le (xs : List UInt8) (n : Nat) : ∀ f k, k + f = n → k ≤ xs.length → (decLoop xs n f k).2.1 ≤ xs.length
 | 0, k, h, hk => by show n ≤ _; omega
 | f + 1, k, h, hk => by
  unfold decLoop; split
  ·exact Nat.zero_le _
  ·split
   ·exact decLoop_le xs n f (k + 1) (by omega) (by omega)
   ·exact Nat.zero_le _
theorem dec_le (xs : List UInt8) : (dec xs).2.1 ≤ xs.length := by
 unfold dec; split
 ·exact Nat.zero_le _
 ·rename_i h0
  split
  ·exact Nat.zero_le _
  ·have : 0 < xs.length := List.length_pos_iff.2 h0
   exact decLoop_le xs _ _ 1 (by omega) (by omega)
def isR (c : Int) : Bool := decide (0 ≤ c) && decide (c ≤ 1114111) && !(decide (55296 ≤ c) && decide (c ≤ 57343))
def frm (c : Int) : List UInt8 :=
 if isR c then
  if c < 128 then [UInt8.ofNat c.toNat]
  else if c < 2048 then [UInt8.ofNat (192 + c / 64).toNat, UInt8.ofNat (128 + c % 64).toNat]
  else if c < 65536 then [UInt8.ofNat (224 + c / 4096).toNat, UInt8.ofNat (128 + c / 64 % 64).toNat, UInt8.ofNat (128 + c % 64).toNat]
  else [UInt8.ofNat (240 + c / 262144).toNat, UInt8.ofNat (128 + c / 4096 % 64).toNat, UInt8.ofNat (128 + c / 64 % 64).toNat, UInt8.ofNat (128 + c % 64).toNat]
 else []
theorem ofNat_toNat8 (n : Int) (h : 0 ≤ n ∧ n < 256) : (((UInt8.ofNat n.toNat).toNat : Nat) : Int) = n := by
 rw [UInt8.toNat_ofNat']; omega
theorem decLoop_pos (xs : List UInt8) (n : Nat) : ∀ f k, (decLoop xs n f k).2.2 = 0 → (decLoop xs n f k).2.1 = n
 | 0, _, _ => rfl
 | f + 1, k, h => by
  unfold decLoop at h ⊢; split
  ·rename_i hk; rw [if_pos hk] at h; simp at h
  ·rename_i hk; rw [if_neg hk] at h; split
   ·rename_i ho; rw [if_pos ho] at h; exact decLoop_pos xs n f (k + 1) h
   ·rename_i ho; rw [if_neg ho] at h; simp at h
theorem dec_pos {xs : List UInt8} (h : (dec xs).2.2 = 0) : 1 ≤ (dec xs).2.1 := by
 unfold dec at h ⊢; split
 ·rename_i h0; rw [if_pos h0] at h; simp at h
 ·rename_i h0; rw [if_neg h0] at h; split
  ·rename_i hc; rw [if_pos hc] at h; simp at h
  ·rename_i hc; rw [if_neg hc] at h; rw [decLoop_pos _ _ _ _ h]; omega
theorem dec_drop_le (xs : List UInt8) (k : Nat) (hk : k ≤ xs.length) : k + (dec (xs.drop k)).2.1 ≤ xs.length := by
 have := dec_le (xs.drop k); rw [List.length_drop] at this; omega
theorem tailB_eq (x : Nat) (h : x < 256) : tailB x = decide (128 ≤ x ∧ x < 192) := by
 have h' : ∀ x : Nat, x < 256 → tailB (x : Int) = decide (128 ≤ x ∧ x < 192) := by decide +kernel
 exact h' x h
theorem secondB_eq (x y : Nat) (hy : y < 256) : secondB x y = (if x = 224 then decide (160 ≤ y ∧ y ≤ 191) else if x = 237 then decide (128 ≤ y ∧ y ≤ 159) else if x = 240 then decide (144 ≤ y ∧ y ≤ 191) else if x = 244 then decide (128 ≤ y ∧ y ≤ 143) else decide (128 ≤ y ∧ y < 192)) := by
 unfold secondB
 rw [tailB_eq y hy, Bool.eq_iff_iff]
 by_cases h1 : x = 224
 ·subst h1; simp <;> omega
 by_cases h2 : x = 237
 ·subst h2; simp <;> omega
 by_cases h3 : x = 240
 ·subst h3; simp <;> omega
 by_cases h4 : x = 244
 ·subst h4; simp <;> omega
 have e1 : ¬ (x : Int) = 224 := by omega
 have e2 : ¬ (x : Int) = 237 := by omega
 have e3 : ¬ (x : Int) = 240 := by omega
 have e4 : ¬ (x : Int) = 244 := by omega
 simp only [e1, e2, e3, e4, h1, h2, h3, h4, if_false]
theorem class_iff (x : Nat) (h : x < 256) : (classI x = 1 ↔ x < 128) ∧ (classI x = 2 ↔ 194 ≤ x ∧ x ≤ 223) ∧ (classI x = 3 ↔ 224 ≤ x ∧ x ≤ 239) ∧ (classI x = 4 ↔ 240 ≤ x ∧ x ≤ 244) := by
 have h' : ∀ x : Nat, x < 256 → ((classI (x : Int) = 1 ↔ x < 128) ∧ (classI (x : Int) = 2 ↔ 194 ≤ x ∧ x ≤ 223) ∧ (classI (x : Int) = 3 ↔ 224 ≤ x ∧ x ≤ 239) ∧ (classI (x : Int) = 4 ↔ 240 ≤ x ∧ x ≤ 244)) := by decide +kernel
 exact h' x h
theorem b8 (a : UInt8) : a.toNat < 256 := a.toNat_lt
theorem at0 (a : UInt8) (t : List UInt8) : byteAt (a :: t) 0 = a.toNat := rfl
theorem at1 (a b : UInt8) (t : List UInt8) : byteAt (a :: b :: t) 1 = b.toNat := rfl
theorem at2 (a b c : UInt8) (t : List UInt8) : byteAt (a :: b :: c :: t) 2 = c.toNat := rfl
theorem at3 (a b c d : UInt8) (t : List UInt8) : byteAt (a :: b :: c :: d :: t) 3 = d.toNat := rfl
def sec (a b : Nat) : Prop := 128 ≤ b ∧ b < 192 ∧ (a = 224 → 160 ≤ b) ∧ (a = 237 → b ≤ 159) ∧ (a = 240 → 144 ≤ b) ∧ (a = 244 → b ≤ 143)
instance (a b : Nat) : Decidable (sec a b) := by unfold sec; exact inferInstance
def tl (b : Nat) : Prop := 128 ≤ b ∧ b < 192
instance (b : Nat) : Decidable (tl b) := by unfold tl; exact inferInstance
theorem sec_eq (x y : Nat) (hy : y < 256) : (secondB x y && tailB y) = decide (sec x y) := by
 rw [secondB_eq x y hy, tailB_eq y hy, Bool.eq_iff_iff]
 unfold sec
 by_cases h1 : x = 224
 ·subst h1; simp; omega
 by_cases h2 : x = 237
 ·subst h2; simp; omega
 by_cases h3 : x = 240
 ·subst h3; simp; omega
 by_cases h4 : x = 244
 ·subst h4; simp; omega
 simp only [h1, h2, h3, h4, if_false, Bool.and_eq_true, decide_eq_true_eq, false_implies, and_true]
 omega
theorem tl_eq (y : Nat) (hy : y < 256) : tailB y = decide (tl y) := tailB_eq y hy
theorem okAt1 (a b : UInt8) (t : List UInt8) : okAt (a :: b :: t) 1 = decide (sec a.toNat b.toNat) := by
 rw [okAt_one (at0 _ _) (at1 _ _ _)]; exact sec_eq _ _ (b8 b)
theorem okAt2 (a b c : UInt8) (t : List UInt8) : okAt (a :: b :: c :: t) 2 = decide (tl c.toNat) := by
 rw [okAt_more (by decide) (at2 _ _ _ _)]; exact tl_eq _ (b8 c)
theorem okAt3 (a b c d : UInt8) (t : List UInt8) : okAt (a :: b :: c :: d :: t) 3 = decide (tl d.toNat) := by
 rw [okAt_more (by decide) (at3 _ _ _ _ _)]; exact tl_eq _ (b8 d)
theorem dec_a1 (a : UInt8) (t : List UInt8) (h : a.toNat < 128) : dec (a :: t) = (a.toNat, 1, 0) := by
 rw [dec_n (xs := a :: t) (n := 1) (by simp) (by omega) (by rw [at0, ((class_iff _ (b8 a)).1).2 h]; rfl)]
 simp [decLoop, accN, headBits, at0]
theorem dec_a0 (a : UInt8) (t : List UInt8) (h : ¬ a.toNat < 128) (h2 : ¬ (194 ≤ a.toNat ∧ a.toNat ≤ 244)) : dec (a :: t) = (0, 0, 2) := by
 apply dec_0 (by simp)
 have hc := class_iff _ (b8 a)
 rcases classI_cases _ (b8 a) with h' | h' | h' | h' | h'
 ·exact h'
 ·have := hc.1.1 h'; omega
 ·have := hc.2.1.1 h'; omega
 ·have := hc.2.2.1.1 h'; omega
 ·have := hc.2.2.2.1 h'; omega
theorem dec_a2 (a : UInt8) (t : List UInt8) (h : 194 ≤ a.toNat ∧ a.toNat ≤ 223) : dec (a :: t) = match t with
  | [] => (0, 0, 1)
  | b :: _ => if sec a.toNat b.toNat then ((a.toNat % 32) * 64 + b.toNat % 64, 2, 0) else (0, 0, 2) := by
 rw [dec_n (xs := a :: t) (n := 2) (by simp) (by omega) (by rw [at0, ((class_iff _ (b8 a)).2.1).2 h]; rfl)]
 cases t with
 | nil => simp [decLoop]
 | cons b t => simp [decLoop, accN, headBits, at0, at1, okAt1]
theorem dec_a3 (a : UInt8) (t : List UInt8) (h : 224 ≤ a.toNat ∧ a.toNat ≤ 239) : dec (a :: t) = match t with
  | [] => (0, 0, 1)
  | [b] => if sec a.toNat b.toNat then (0, 0, 1) else (0, 0, 2)
  | b :: c :: _ => if sec a.toNat b.toNat then (if tl c.toNat then (((a.toNat % 16) * 64 + b.toNat % 64) * 64 + c.toNat % 64, 3, 0) else (0, 0, 2)) else (0, 0, 2) := by
 rw [dec_n (xs := a :: t) (n := 3) (by simp) (by omega) (by rw [at0, ((class_iff _ (b8 a)).2.2.1).2 h]; rfl)]
 match t with
 | [] => simp [decLoop]
 | [b] => simp [decLoop, okAt1]
 | b :: c :: t => simp [decLoop, accN, headBits, at0, at1, at2, okAt1, okAt2]
theorem dec_a4 (a : UInt8) (t : List UInt8) (h : 240 ≤ a.toNat ∧ a.toNat ≤ 244) : dec (a :: t) = match t with
  | [] => (0, 0, 1)
  | [b] => if sec a.toNat b.toNat then (0, 0, 1) else (0, 0, 2)
  | [b, c] => if sec a.toNat b.toNat then (if tl c.toNat then (0, 0, 1) else (0, 0, 2)) else (0, 0, 2)
  | b :: c :: d :: _ => if sec a.toNat b.toNat then (if tl c.toNat then (if tl d.toNat then ((((a.toNat % 8) * 64 + b.toNat % 64) * 64 + c.toNat % 64) * 64 + d.toNat % 64, 4, 0) else (0, 0, 2)) else (0, 0, 2)) else (0, 0, 2) := by
 rw [dec_n (xs := a :: t) (n := 4) (by simp) (by omega) (by rw [at0, ((class_iff _ (b8 a)).2.2.2).2 h]; rfl)]
 match t with
 | [] => simp [decLoop]
 | [b] => simp [decLoop, okAt1]
 | [b, c] => simp [decLoop, okAt1, okAt2]
 | b :: c :: d :: t => simp [decLoop, accN, headBits, at0, at1, at2, at3, okAt1, okAt2, okAt3]
theorem u8_of {n : Nat} {a : UInt8} (h : n = a.toNat) : UInt8.ofNat n = a := by rw [h]; exact UInt8.ofNat_toNat
theorem isR_nat (c : Nat) : isR c = decide (c ≤ 1114111 ∧ ¬ (55296 ≤ c ∧ c ≤ 57343)) := by
 unfold isR; rw [Bool.eq_iff_iff]; simp; omega
theorem frm_1 (c : Nat) (h : c < 128) : frm c = [UInt8.ofNat c] := by
 have hr : isR c = true := by rw [isR_nat]; simp; omega
 rw [frm, if_pos hr, if_pos (by omega)]; rfl
theorem frm_2 (c : Nat) (h : 128 ≤ c ∧ c < 2048) : frm c = [UInt8.ofNat (192 + c / 64), UInt8.ofNat (128 + c % 64)] := by
 have hr : isR c = true := by rw [isR_nat]; simp; omega
 rw [frm, if_pos hr, if_neg (by omega), if_pos (by omega), show (192 + (c : Int) / 64).toNat = 192 + c / 64 by omega, show (128 + (c : Int) % 64).toNat = 128 + c % 64 by omega]
theorem frm_3 (c : Nat) (h : 2048 ≤ c ∧ c < 65536) (h' : ¬ (55296 ≤ c ∧ c ≤ 57343)) : frm c = [UInt8.ofNat (224 + c / 4096), UInt8.ofNat (128 + c / 64 % 64), UInt8.ofNat (128 + c % 64)] := by
 have hr : isR c = true := by rw [isR_nat]; simp; omega
 rw [frm, if_pos hr, if_neg (by omega), if_neg (by omega), if_pos (by omega), show (224 + (c : Int) / 4096).toNat = 224 + c / 4096 by omega, show (128 + (c : Int) / 64 % 64).toNat = 128 + c / 64 % 64 by omega, show (128 + (c : Int) % 64).toNat = 128 + c % 64 by omega]
theorem frm_4 (c : Nat) (h : 65536 ≤ c ∧ c ≤ 1114111) : frm c = [UInt8.ofNat (240 + c / 262144), UInt8.ofNat (128 + c / 4096 % 64), UInt8.ofNat (128 + c / 64 % 64), UInt8.ofNat (128 + c % 64)] := by
 have hr : isR c = true := by rw [isR_nat]; simp; omega
 rw [frm, if_pos hr, if_neg (by omega), if_neg (by omega), if_neg (by omega), show (240 + (c : Int) / 262144).toNat = 240 + c / 262144 by omega, show (128 + (c : Int) / 4096 % 64).toNat = 128 + c / 4096 % 64 by omega, show (128 + (c : Int) / 64 % 64).toNat = 128 + c / 64 % 64 by omega, show (128 + (c : Int) % 64).toNat = 128 + c % 64 by omega]
theorem dec_cases {xs : List UInt8} (h : (dec xs).2.2 = 0) :
  (∃ a t, xs = a :: t ∧ a.toNat < 128 ∧ dec xs = (a.toNat, 1, 0)) ∨
  (∃ a b t, xs = a :: b :: t ∧ (194 ≤ a.toNat ∧ a.toNat ≤ 223) ∧ sec a.toNat b.toNat ∧ dec xs = ((a.toNat % 32) * 64 + b.toNat % 64, 2, 0)) ∨
  (∃ a b c t, xs = a :: b :: c :: t ∧ (224 ≤ a.toNat ∧ a.toNat ≤ 239) ∧ sec a.toNat b.toNat ∧ tl c.toNat ∧ dec xs = (((a.toNat % 16) * 64 + b.toNat % 64) * 64 + c.toNat % 64, 3, 0)) ∨
  (∃ a b c d t, xs = a :: b :: c :: d :: t ∧ (240 ≤ a.toNat ∧ a.toNat ≤ 244) ∧ sec a.toNat b.toNat ∧ tl c.toNat ∧ tl d.toNat ∧ dec xs = ((((a.toNat % 8) * 64 + b.toNat % 64) * 64 + c.toNat % 64) * 64 + d.toNat % 64, 4, 0)) := by
 cases xs with
 | nil => simp [dec] at h
 | cons a t =>
  by_cases h1 : a.toNat < 128
  ·exact .inl ⟨a, t, rfl, h1, dec_a1 a t h1⟩
  by_cases h2 : 194 ≤ a.toNat ∧ a.toNat ≤ 223
  ·have e := dec_a2 a t h2
   match t with
   | [] => rw [e] at h; simp at h
   | b :: t =>
    by_cases hs : sec a.toNat b.toNat
    ·simp only [hs, if_true] at e
     exact .inr (.inl ⟨a, b, t, rfl, h2, hs, e⟩)
    ·rw [e] at h; simp [hs] at h
  by_cases h3 : 224 ≤ a.toNat ∧ a.toNat ≤ 239
  ·have e := dec_a3 a t h3
   match t with
   | [] => rw [e] at h; simp at h
   | [b] => rw [e] at h; by_cases hs : sec a.toNat b.toNat <;> simp [hs] at h
   | b :: c :: t =>
    by_cases hs : sec a.toNat b.toNat
    ·by_cases ht : tl c.toNat
     ·simp only [hs, ht, if_true] at e
      exact .inr (.inr (.inl ⟨a, b, c, t, rfl, h3, hs, ht, e⟩))
     ·rw [e] at h; simp [hs, ht] at h
    ·rw [e] at h; simp [hs] at h
  by_cases h4 : 240 ≤ a.toNat ∧ a.toNat ≤ 244
  ·have e := dec_a4 a t h4
   match t with
   | [] => rw [e] at h; simp at h
   | [b] => rw [e] at h; by_cases hs : sec a.toNat b.toNat <;> simp [hs] at h
   | [b, c] => rw [e] at h; by_cases hs : sec a.toNat b.toNat <;> by_cases ht : tl c.toNat <;> simp [hs, ht] at h
   | b :: c :: d :: t =>
    by_cases hs : sec a.toNat b.toNat
    ·by_cases ht : tl c.toNat
     ·by_cases hd : tl d.toNat
      ·simp only [hs, ht, hd, if_true] at e
       exact .inr (.inr (.inr ⟨a, b, c, d, t, rfl, h4, hs, ht, hd, e⟩))
      ·rw [e] at h; simp [hs, ht, hd] at h
     ·rw [e] at h; simp [hs, ht] at h
    ·rw [e] at h; simp [hs] at h
  ·have e := dec_a0 a t h1 (by omega)
   rw [e] at h; simp at h
theorem dec_frm {xs : List UInt8} (h : (dec xs).2.2 = 0) : frm (dec xs).1 = xs.take (dec xs).2.1 ∧ isR (dec xs).1 = true := by
 rcases dec_cases h with ⟨a, t, rfl, h1, e⟩ | ⟨a, b, t, rfl, h1, hs, e⟩ | ⟨a, b, c, t, rfl, h1, hs, ht, e⟩ | ⟨a, b, c, d, t, rfl, h1, hs, ht, hd, e⟩ <;> rw [e] <;> simp only
 ·exact ⟨by rw [frm_1 _ h1, u8_of rfl]; rfl, by rw [isR_nat]; simp; omega⟩
 ·unfold sec at hs
  have hb := b8 b
  refine ⟨?_, by rw [isR_nat]; simp; omega⟩
  rw [frm_2 _ (by omega), u8_of (a := a) (by omega), u8_of (a := b) (by omega)]; rfl
 ·unfold sec at hs; unfold tl at ht
  have hb := b8 b
  have hc := b8 c
  refine ⟨?_, by rw [isR_nat]; simp; omega⟩
  rw [frm_3 _ (by omega) (by omega), u8_of (a := a) (by omega), u8_of (a := b) (by omega), u8_of (a := c) (by omega)]; rfl
 ·unfold sec at hs; unfold tl at ht hd
  have hb := b8 b
  have hc := b8 c
  have hdd := b8 d
  refine ⟨?_, by rw [isR_nat]; simp; omega⟩
  rw [frm_4 _ (by omega), u8_of (a := a) (by omega), u8_of (a := b) (by omega), u8_of (a := c) (by omega), u8_of (a := d) (by omega)]; rfl
theorem frm_ne {c : Int} (h : isR c = true) : frm c ≠ [] := by
 rw [frm, if_pos h]; repeat' split
 all_goals simp
theorem isR_pos {c : Int} (h : isR c = true) : 0 ≤ c := by simp [isR] at h; omega
theorem ofNat8 (n : Nat) (h : n < 256) : (UInt8.ofNat n).toNat = n := by rw [UInt8.toNat_ofNat']; omega
theorem dec_of_frm (c : Nat) (h : isR c = true) (ys : List UInt8) : dec (frm c ++ ys) = (c, (frm c).length, 0) := by
 rw [isR_nat] at h
 simp only [decide_eq_true_eq] at h
 by_cases h1 : c < 128
 ·rw [frm_1 c h1]
  have e := ofNat8 c (by omega)
  rw [List.singleton_append, dec_a1 _ _ (by omega), e]; rfl
 by_cases h2 : c < 2048
 ·rw [frm_2 c (by omega)]
  have e1 := ofNat8 (192 + c / 64) (by omega)
  have e2 := ofNat8 (128 + c % 64) (by omega)
  rw [List.cons_append, dec_a2 _ _ (by omega)]
  simp only [List.cons_append, List.nil_append, e1, e2]
  rw [if_pos (by unfold sec; omega)]
  simp only [Prod.mk.injEq, List.length_cons, List.length_nil, and_true]
  omega
 by_cases h3 : c < 65536
 ·rw [frm_3 c (by omega) (by omega)]
  have e1 := ofNat8 (224 + c / 4096) (by omega)
  have e2 := ofNat8 (128 + c / 64 % 64) (by omega)
  have e3 := ofNat8 (128 + c % 64) (by omega)
  rw [List.cons_append, dec_a3 _ _ (by omega)]
  simp only [List.cons_append, List.nil_append, e1, e2, e3]
  rw [if_pos (by unfold sec; omega), if_pos (by unfold tl; omega)]
  simp only [Prod.mk.injEq, List.length_cons, List.length_nil, and_true]
  omega
 ·rw [frm_4 c (by omega)]
  have e1 := ofNat8 (240 + c / 262144) (by omega)
  have e2 := ofNat8 (128 + c / 4096 % 64) (by omega)
  have e3 := ofNat8 (128 + c / 64 % 64) (by omega)
  have e4 := ofNat8 (128 + c % 64) (by omega)
  rw [List.cons_append, dec_a4 _ _ (by omega)]
  simp only [List.cons_append, List.nil_append, e1, e2, e3, e4]
  rw [if_pos (by unfold sec; omega), if_pos (by unfold tl; omega), if_pos (by unfold tl; omega)]
  simp only [Prod.mk.injEq, List.length_cons, List.length_nil, and_true]
  omega
theorem frm_shape (c : Nat) (h : isR c = true) : ∃ (a : UInt8) (t : List UInt8), frm c = a :: t ∧ t.length ≤ 3 ∧ ¬ tl a.toNat ∧ (∀ x ∈ t, tl x.toNat) ∧ classI a.toNat = ((t.length + 1 : Nat) : Int) := by
 rw [isR_nat] at h
 simp only [decide_eq_true_eq] at h
 by_cases h1 : c < 128
 ·rw [frm_1 c h1]
  have e := ofNat8 c (by omega)
  exact ⟨_, _, rfl, by simp, by rw [e]; unfold tl; omega, by simp, by rw [e, (class_iff _ (by omega)).1.2 h1]; rfl⟩
 by_cases h2 : c < 2048
 ·rw [frm_2 c (by omega)]
  have e1 := ofNat8 (192 + c / 64) (by omega)
  have e2 := ofNat8 (128 + c % 64) (by omega)
  refine ⟨_, _, rfl, by simp, by rw [e1]; unfold tl; omega, ?_, by rw [e1, (class_iff _ (by omega)).2.1.2 (by omega)]; rfl⟩
  intro x hx
  simp only [List.mem_singleton] at hx
  subst hx; rw [e2]; unfold tl; omega
 by_cases h3 : c < 65536
 ·rw [frm_3 c (by omega) (by omega)]
  have e1 := ofNat8 (224 + c / 4096) (by omega)
  have e2 := ofNat8 (128 + c / 64 % 64) (by omega)
  have e3 := ofNat8 (128 + c % 64) (by omega)
  refine ⟨_, _, rfl, by simp, by rw [e1]; unfold tl; omega, ?_, by rw [e1, (class_iff _ (by omega)).2.2.1.2 (by omega)]; rfl⟩
  intro x hx
  simp only [List.mem_cons, List.not_mem_nil, or_false] at hx
  rcases hx with rfl | rfl
  ·rw [e2]; unfold tl; omega
  ·rw [e3]; unfold tl; omega
 ·rw [frm_4 c (by omega)]
  have e1 := ofNat8 (240 + c / 262144) (by omega)
  have e2 := ofNat8 (128 + c / 4096 % 64) (by omega)
  have e3 := ofNat8 (128 + c / 64 % 64) (by omega)
  have e4 := ofNat8 (128 + c % 64) (by omega)
  refine ⟨_, _, rfl, by simp, by rw [e1]; unfold tl; omega, ?_, by rw [e1, (class_iff _ (by omega)).2.2.2.2 (by omega)]; rfl⟩
  intro x hx
  simp only [List.mem_cons, List.not_mem_nil, or_false] at hx
  rcases hx with rfl | rfl | rfl
  ·rw [e2]; unfold tl; omega
  ·rw [e3]; unfold tl; omega
  ·rw [e4]; unfold tl; omega
def headN (x n : Int) : Int := if n = 2 then x - 192 else if n = 3 then x - 224 else if n = 4 then x - 240 else x
def digN (xs : List UInt8) (fill : Int) (i : Nat) : Int := if i < xs.length then (byteAt xs i : Int) - 128 else fill
def numK (xs : List UInt8) (n fill : Int) : Nat → Int
 | 0 => headN (byteAt xs 0) n
 | k + 1 => numK xs n fill k * 64 + digN xs fill (k + 1)
theorem digN_bd (xs : List UInt8) {fill : Int} (hf : 0 ≤ fill ∧ fill ≤ 63) (i : Nat) : -128 ≤ digN xs fill i ∧ digN xs fill i ≤ 127 := by
 unfold digN
 have := byteAt_lt xs i
 split <;> omega
theorem headN_bd (xs : List UInt8) (n : Int) : -256 ≤ headN (byteAt xs 0) n ∧ headN (byteAt xs 0) n ≤ 256 := by
 have := byteAt_lt xs 0
 unfold headN
 split
 ·omega
 ·split
  ·omega
  ·split <;> omega
theorem numK_bd (xs : List UInt8) (n : Int) {fill : Int} (hf : 0 ≤ fill ∧ fill ≤ 63) (k : Nat) (hk : k ≤ 3) : -100000000 ≤ numK xs n fill k ∧ numK xs n fill k ≤ 100000000 := by
 have h0 := headN_bd xs n
 have h1 := digN_bd xs hf 1
 have h2 := digN_bd xs hf 2
 have h3 := digN_bd xs hf 3
 have hk' : k = 0 ∨ k = 1 ∨ k = 2 ∨ k = 3 := by omega
 rcases hk' with rfl | rfl | rfl | rfl <;> simp only [numK, Nat.zero_add, Nat.reduceAdd] <;> omega
def goodK (xs : List UInt8) : Nat → Bool
 | 0 => true
 | k + 1 => goodK xs k && (decide (128 ≤ byteAt xs (k + 1)) && decide (byteAt xs (k + 1) ≤ 191))
theorem ref_yes {xs : List UInt8} {n : Nat} (hn : classI (byteAt xs 0) = n) {c : Int} (hr : isR c = true) (hb : xs.take (frm c).length = frm c) : dec xs = (c.toNat, n, 0) := by
 have hcn : ((c.toNat : Nat) : Int) = c := by have := isR_pos hr; omega
 obtain ⟨a, t, e, -, -, -, hcls⟩ := frm_shape c.toNat (by rw [hcn]; exact hr)
 rw [hcn] at e
 have hx : xs = frm c ++ xs.drop (frm c).length := by
  have := List.take_append_drop (frm c).length xs
  rw [hb] at this; exact this.symm
 have hd := dec_of_frm c.toNat (by rw [hcn]; exact hr) (xs.drop (frm c).length)
 rw [hcn, ← hx] at hd
 have hb0 : byteAt xs 0 = a.toNat := by rw [hx, e]; simp [byteAt]
 have hl : (frm c).length = n := by
  rw [hb0, hcls] at hn; rw [e]; simp only [List.length_cons]; omega
 rw [hd, hl]
theorem ref_back {xs : List UInt8} (h : (dec xs).2.2 = 0) : ∃ n : Nat, 1 ≤ n ∧ n ≤ 4 ∧ classI (byteAt xs 0) = n ∧ goodK xs (n - 1) = true ∧ numK xs n 0 (n - 1) = (dec xs).1 ∧ isR (dec xs).1 = true ∧ xs.take (frm (dec xs).1).length = frm (dec xs).1 := by
 obtain ⟨hf, hr⟩ := dec_frm h
 have htake : xs.take (frm (dec xs).1).length = frm (dec xs).1 := by
  rw [hf, List.length_take]
  by_cases hle : (dec xs).2.1 ≤ xs.length
  ·rw [Nat.min_eq_left hle]
  ·rw [Nat.min_eq_right (by omega), List.take_length, List.take_of_length_le (by omega)]
 rcases dec_cases h with ⟨a, t, rfl, h1, e⟩ | ⟨a, b, t, rfl, h1, hs, e⟩ | ⟨a, b, c, t, rfl, h1, hs, ht, e⟩ | ⟨a, b, c, d, t, rfl, h1, hs, ht, hd, e⟩
 all_goals
  have ha := b8 a
  rw [e] at hr htake ⊢
  simp only at hr htake ⊢
 ·exact ⟨1, by omega, by omega, by simp only [byteAt, List.getD_cons_zero]; exact (class_iff _ (by omega)).1.2 h1, rfl, by simp [numK, headN, byteAt], hr, htake⟩
 ·have hb := b8 b
  unfold sec at hs
  refine ⟨2, by omega, by omega, by simp only [byteAt, List.getD_cons_zero]; exact (class_iff _ (by omega)).2.1.2 h1, ?_, ?_, hr, htake⟩
  ·simp [goodK, byteAt]; omega
  ·simp [numK, headN, digN, byteAt]; omega
 ·have hb := b8 b
  have hc := b8 c
  unfold sec at hs; unfold tl at ht
  refine ⟨3, by omega, by omega, by simp only [byteAt, List.getD_cons_zero]; exact (class_iff _ (by omega)).2.2.1.2 h1, ?_, ?_, hr, htake⟩
  ·simp [goodK, byteAt]; omega
  ·simp [numK, headN, digN, byteAt]; omega
 ·have hb := b8 b
  have hc := b8 c
  have hd' := b8 d
  unfold sec at hs; unfold tl at ht hd
  refine ⟨4, by omega, by omega, by simp only [byteAt, List.getD_cons_zero]; exact (class_iff _ (by omega)).2.2.2.2 h1, ?_, ?_, hr, htake⟩
  ·simp [goodK, byteAt]; omega
  ·simp [numK, headN, digN, byteAt]; omega
theorem decLoop_err (xs : List UInt8) (n : Nat) : ∀ f k, (decLoop xs n f k).2.2 ≠ 0 → decLoop xs n f k = (0, 0, (decLoop xs n f k).2.2)
 | 0, _, h => absurd rfl h
 | f + 1, k, h => by
  unfold decLoop at h ⊢; split
  ·rfl
  ·rename_i hk; rw [if_neg hk] at h; split
   ·rename_i ho; rw [if_pos ho] at h; exact decLoop_err xs n f (k + 1) h
   ·rfl
theorem dec_err {xs : List UInt8} (h : (dec xs).2.2 ≠ 0) : dec xs = (0, 0, (dec xs).2.2) := by
 unfold dec at h ⊢; split
 ·rfl
 ·rename_i h0; rw [if_neg h0] at h; split
  ·rfl
  ·rename_i hc; rw [if_neg hc] at h; exact decLoop_err _ _ _ _ h
theorem wrap32_of {x : Int} (h0 : 0 ≤ x) (h1 : x < 2147483648) : wrap32 x = x := by
 unfold wrap32; omega
theorem isR_le {c : Int} (h : isR c = true) : c ≤ 1114111 := by
 simp only [isR, Bool.and_eq_true, decide_eq_true_eq] at h; exact h.1.2
def refc (x : Int) : Int := if x < 128 then 1 else if x < 192 then 0 else if 194 ≤ x ∧ x ≤ 223 then 2 else if 224 ≤ x ∧ x ≤ 239 then 3 else if 240 ≤ x ∧ x ≤ 244 then 4 else -1
theorem refc_eq (x : Nat) (h : x < 256) : refc x = classI x := by
 have h' : ∀ x : Nat, x < 256 → refc (x : Int) = classI (x : Int) := by decide +kernel
 exact h' x h
def Bs (w : World) (v : Value) (xs : List UInt8) : Prop :=
 xs.length ≤ 9223372036854775807 ∧ ∃ A c, v = .slice A xs.length c ∧ xs.length ≤ c ∧ (0 < xs.length → ∃ b o, A = some ⟨b, o, none⟩ ∧ ∀ i, i < xs.length → w.cell? ⟨b, o + i, none⟩ = some (.int .u8 (byteAt xs i)))
theorem Bs.drewN {w : World} {v : Value} {xs : List UInt8} (h : Bs w v xs) (m : Nat) : Bs (w.drewN m) v xs := h
theorem Bs.below {w w' : World} {v : Value} {xs : List UInt8} (h : Bs w v xs) (hb : Below w.heap.size w w') : Bs w' v xs := by
 obtain ⟨hm, A, c, e, hc, hcell⟩ := h
 refine ⟨hm, A, c, e, hc, fun h0 => ?_⟩
 obtain ⟨b, o, e, hcl⟩ := hcell h0
 exact ⟨b, o, e, fun i hi => cell_later hb (hcl i hi)⟩
theorem Bs.cut {w : World} {b o c : Nat} {xs : List UInt8} (h : Bs w (.slice (some ⟨b, o, none⟩) xs.length c) xs) {k : Nat} (hk : k ≤ xs.length) :
  Bs w (.slice (some ⟨b, o + k, none⟩) (xs.length - k) (c - k)) (xs.drop k) := by
 obtain ⟨hm, A, c', e, hc, hcell⟩ := h
 injection e with e1 e2 e3
 subst e1 e3
 refine ⟨by simp; omega, _, _, by rw [List.length_drop], by simp; omega, fun h => ⟨b, o + k, rfl, fun i hi => ?_⟩⟩
 simp at h hi
 obtain ⟨b', o', e, hc'⟩ := hcell (by omega)
 injection e with e; injection e with e e'; subst e e'
 rw [Nat.add_assoc, byteAt_drop]; exact hc' (k + i) (by omega)
theorem info5 : (Tryz.prog.info? 5).map (fun i => (i.zero, i.size, i.bytes)) = some (some (.int .u8 0), 1, 1) := by kernel_rfl
def bv (c : UInt8) : Value := .int .u8 c.toNat
def bvs (xs : List UInt8) : List Value := xs.map bv
theorem bvs_len (xs : List UInt8) : (bvs xs).length = xs.length := by simp [bvs]
theorem bvs_append (xs ys : List UInt8) : bvs (xs ++ ys) = bvs xs ++ bvs ys := by simp [bvs]
theorem bvs_one (xs : List UInt8) : ∀ u ∈ bvs xs, u.oneCell' = true := by
 intro u hu; obtain ⟨c, _, rfl⟩ := List.mem_map.1 hu; rfl
theorem bvs_get (xs : List UInt8) (i : Nat) (h : i < xs.length) : (bvs xs)[i]? = some (.int .u8 (byteAt xs i)) := by
 simp [bvs, bv, byteAt, List.getElem?_eq_getElem h]
def OwnB (w : World) (base : Nat) (v : Value) (ys : List UInt8) : Prop := w.ownsRow base 5 1 v ys.length (bvs ys)
theorem Bs.cellsAt {w : World} {ad : Addr} {m c : Nat} {xs : List UInt8} (hr : Bs w (.slice (some ad) m c) xs) : m = xs.length ∧ ∀ j u, (bvs xs)[j]? = some u → w.cell? (ad.add j) = some u := by
 obtain ⟨_, A, c', e, _, hc⟩ := hr
 injection e with e1 e2 e3
 refine ⟨e2, fun j u hu => ?_⟩
 have hj : j < xs.length := by have := (List.getElem?_eq_some_iff.1 hu).1; rwa [bvs_len] at this
 obtain ⟨b, o, e, hcl⟩ := hc (by omega)
 rw [← e1] at e
 injection e with e
 subst e
 rw [bvs_get xs j hj] at hu
 injection hu with hu
 subst hu
 have := hcl j hj
 unfold Addr.add
 split
 ·rename_i h0; subst h0; simpa using this
 ·exact this
theorem run_append_nil (w : World) (base : Nat) (ty : TypeId) (v : Value) (n : Nat) (xs : List Value) (hown : w.ownsRow base 5 1 v n xs) (c : Nat) :
  (Builtin.append_ #[54, 54] ty #[v, .slice none 0 c]).run Tryz.prog w = .ok v w := by
 obtain ⟨i0, hi, hz0, hz1, hz2⟩ := info_parts info5
 rcases hown.2 with ⟨rfl, rfl⟩ | ⟨g, cap, cur, rfl, _, _, hnc, _⟩
 ·simp [Builtin.append_, run_underlying Tryz.underlying54, sizeOf, typeInfo, hi, Builtin.lenOf, Builtin.firstCells]
 ·simp [Builtin.append_, run_underlying Tryz.underlying54, sizeOf, typeInfo, hi, Builtin.lenOf, Builtin.firstCells, hnc, storeCells]
theorem run_append_bs (w : World) (base : Nat) (ty : TypeId) (v u : Value) (ys xs : List UInt8) (hown : OwnB w base v ys) (hr : Bs w u xs) (hlen : ys.length + xs.length ≤ 140737488355328) (hbase : base ≤ w.heap.size) :
  ∃ v' w', (Builtin.append_ #[54, 54] ty #[v, u]).run Tryz.prog w = .ok v' w' ∧ OwnB w' base v' (ys ++ xs) ∧ w.grownBy w' v.ownBlock ∧ (v'.ownBlock = v.ownBlock ∨ v'.ownBlock = some w.heap.size) := by
 obtain ⟨i0, hi, hz0, hz1, hz2⟩ := info_parts info5
 have hr' := hr
 obtain ⟨_, A, c, rfl, hc, _⟩ := hr'
 cases A with
 | none =>
  obtain rfl : xs = [] := by
   obtain ⟨_, A', c', e, _, hcell⟩ := hr
   rcases Nat.eq_zero_or_pos xs.length with h0 | h0
   ·exact List.eq_nil_of_length_eq_zero h0
   ·obtain ⟨b, o, e', _⟩ := hcell h0
    exact absurd ((Value.slice.inj e).1.trans e') (fun h => by cases h)
  have h0 := run_append_nil w base ty v ys.length (bvs ys) hown c
  refine ⟨v, w, ?_, ?_, World.grownBy.refl w _, .inl rfl⟩
  ·exact h0
  ·rw [List.append_nil]; exact hown
 | some ad =>
  obtain ⟨_, hcells⟩ := hr.cellsAt
  obtain ⟨v', w', hrun, h2, h3, _, h5⟩ := run_append_own_at (P := Tryz.prog) w base 54 ty 5 i0 (.int .u8 0) 1 1 Tryz.underlying54 hi hz0 hz1 hz2 rfl (by decide) v ys.length (bvs ys) hown ad xs.length c (bvs xs)
   (by rw [bvs_len]; omega) hcells (bvs_one xs) (by unfold maxLen; omega) (by omega) hbase
  exact ⟨v', w', hrun, by unfold OwnB; rw [bvs_append, List.length_append]; exact h2, h3, h5⟩
theorem wp_append_bs {o : Oper} {a : Act} {K : Act → World → Prop} {Q : Exit → Act → World → Prop} (w : World) (s x : Operand)
  (ho : o.op = .call { callee := .builtin .append, args := #[s, x], argTypes := #[54, 54] })
  (base : Nat) (v u : Value) (ys xs : List UInt8) (hs : a.eval s = v) (hown : OwnB w base v ys) (hx : a.eval x = u) (hr : Bs w u xs)
  (hlen : ys.length + xs.length ≤ 140737488355328) (hbase : base ≤ w.heap.size)
  (h : ∀ v' w', OwnB w' base v' (ys ++ xs) → w.grownBy w' v.ownBlock → (v'.ownBlock = v.ownBlock ∨ v'.ownBlock = some w.heap.size) → K (a.put o.dst v') w') : o.wp Tryz.prog a w K Q := by
 obtain ⟨v', w', hrun, h2, h3, h4⟩ := run_append_bs w base o.type v u ys xs hown hr hlen hbase
 unfold Oper.wp execOp
 simp only [ho, resolve, invoke, builtin, Sem.run_bind, Sem.run_pure, Result.andThen_ok, List.map_toArray, List.map_cons, List.map_nil, hs, hx, hrun]
 exact h v' w' h2 h3 h4
theorem wpList_append_bs {ops : Array Oper} {rest : List Oper} {o : Oper} {a : Act} {Q : Exit → Act → World → Prop} {w : World} (hgd : o.guard = none) (s x : Operand)
  (ho : o.op = .call { callee := .builtin .append, args := #[s, x], argTypes := #[54, 54] })
  (base : Nat) (v u : Value) (ys xs : List UInt8) (hs : a.eval s = v) (hown : OwnB w base v ys) (hx : a.eval x = u) (hr : Bs w u xs)
  (hlen : ys.length + xs.length ≤ 140737488355328) (hbase : base ≤ w.heap.size)
  (h : ∀ v' w', OwnB w' base v' (ys ++ xs) → w.grownBy w' v.ownBlock → (v'.ownBlock = v.ownBlock ∨ v'.ownBlock = some w.heap.size) → wpList Tryz.prog ops Q rest (a.put o.dst v') w') : wpList Tryz.prog ops Q (o :: rest) a w :=
 wpList_plain hgd fun _ hK => wp_append_bs w s x ho base v u ys xs hs hown hx hr hlen hbase fun v' w' h2 h3 h4 => hK _ _ (h v' w' h2 h3 h4)
theorem step_append_bs {ops : Array Oper} {o : Oper} {a : Act} {K : Act → World → Prop} {Q : Exit → Act → World → Prop} {E : Prop} {w : World} (hgd : o.guard = none) (s x : Operand)
  (ho : o.op = .call { callee := .builtin .append, args := #[s, x], argTypes := #[54, 54] })
  (base : Nat) (v u : Value) (ys xs : List UInt8) (hs : a.eval s = v) (hown : OwnB w base v ys) (hx : a.eval x = u) (hr : Bs w u xs)
  (hlen : ys.length + xs.length ≤ 140737488355328) (hbase : base ≤ w.heap.size)
  (h : ∀ v' w', OwnB w' base v' (ys ++ xs) → w.grownBy w' v.ownBlock → (v'.ownBlock = v.ownBlock ∨ v'.ownBlock = some w.heap.size) → K (a.put o.dst v') w') :
  if Region.wanted o (yielded ops a.tmps) = true then Oper.wp Tryz.prog o a w K Q else E := by
 have hw : Region.wanted o (yielded ops a.tmps) = true := by simp [Region.wanted, hgd]
 rw [if_pos hw]
 exact wp_append_bs w s x ho base v u ys xs hs hown hx hr hlen hbase h
theorem OwnB.bs {w : World} {base : Nat} {v : Value} {ys : List UInt8} (h : OwnB w base v ys) : Bs w v ys := by
 obtain ⟨_, ⟨rfl, h0⟩ | ⟨g, cap, cur, rfl, _, hg, hn, hm, hs, ht⟩⟩ := h
 ·exact ⟨by omega, none, 0, by rw [h0], by omega, fun h => by omega⟩
 ·refine ⟨by unfold maxLen at hm; omega, some ⟨g, 0, none⟩, cap, rfl, hn, fun _ => ⟨g, 0, rfl, fun i hi => ?_⟩⟩
  rw [Nat.zero_add]
  have e := bvs_get ys i hi
  rw [← ht, List.getElem?_take] at e
  rw [if_pos (by omega)] at e
  simp [World.cell?, hg]
  simpa using e
theorem OwnB.below {w w' : World} {base B : Nat} {v : Value} {ys : List UInt8} (h : OwnB w base v ys) (hb : Below B w w') (hB : w.heap.size ≤ B) : OwnB w' base v ys := by
 obtain ⟨h1, ⟨rfl, h0⟩ | ⟨g, cap, cur, rfl, hbg, hg, r⟩⟩ := h
 ·exact ⟨h1, .inl ⟨rfl, h0⟩⟩
 ·exact ⟨h1, .inr ⟨g, cap, cur, rfl, hbg, (hb.block g (Nat.lt_of_lt_of_le (lt_of_heap hg) hB)).trans hg, r⟩⟩
theorem OwnB.drewN {w : World} {base : Nat} {v : Value} {ys : List UInt8} (h : OwnB w base v ys) (m : Nat) : OwnB (w.drewN m) base v ys := h
theorem OwnB.low {w : World} {base base' : Nat} {v : Value} {ys : List UInt8} (h : OwnB w base v ys) (hb : base' ≤ base) : OwnB w base' v ys := by
 obtain ⟨h1, ⟨rfl, h0⟩ | ⟨g, cap, cur, rfl, hbg, r⟩⟩ := h
 ·exact ⟨h1, .inl ⟨rfl, h0⟩⟩
 ·exact ⟨h1, .inr ⟨g, cap, cur, rfl, Nat.le_trans hb hbg, r⟩⟩
theorem OwnB.grown {w w' : World} {base : Nat} {v : Value} {ys : List UInt8} {row : Option Nat} (h : OwnB w base v ys) (hg : w.grownBy w' row) (hr : ∀ g, v.ownBlock = some g → row ≠ some g) : OwnB w' base v ys := by
 obtain ⟨h1, ⟨rfl, h0⟩ | ⟨g, cap, cur, rfl, hbg, hh, r⟩⟩ := h
 ·exact ⟨h1, .inl ⟨rfl, h0⟩⟩
 ·exact ⟨h1, .inr ⟨g, cap, cur, rfl, hbg, (hg.block g (lt_of_heap hh) (fun e => hr g rfl e.symm)).trans hh, r⟩⟩
theorem OwnB.nil (w : World) (base : Nat) : OwnB w base (.slice none 0 0) [] := ⟨rfl, .inl ⟨rfl, rfl⟩⟩
theorem blw_drewN {B : Nat} {a w : World} (h : Below B a w) (n : Nat) : Below B a (w.drewN n) := ⟨h.os, h.tape, h.output, h.size, h.block⟩
theorem string_of_bs {w : World} {v : Value} {xs : List UInt8} (h : Bs w v xs) : (convert 54 9 v).run Tryz.prog w = .ok (.string ⟨xs.toArray⟩) w := by
 obtain ⟨hm, A, c, rfl, hc, hcell⟩ := h
 rcases Nat.eq_zero_or_pos xs.length with h0 | h0
 ·obtain rfl : xs = [] := List.eq_nil_of_length_eq_zero h0
  rw [run_convert_bytes_string w 54 9 5 A _ c Tryz.underlying54 Tryz.underlying5 Tryz.underlying9]
  cases A with
  | none => simp [Conv.bytesToString]; rfl
  | some a => simp [Conv.bytesToString, loadCells, loadCellsFrom]; rfl
 ·obtain ⟨b, o, rfl, hcl⟩ := hcell h0
  refine run_convert_bytes_back w 54 9 5 ⟨b, o, none⟩ c xs Tryz.underlying54 Tryz.underlying5 Tryz.underlying9 fun j hj => ?_
  have := hcl j hj
  unfold Addr.add
  split
  ·rename_i h; subst h; simpa [byteAt, List.getElem?_eq_getElem hj] using this
  ·simpa [byteAt, List.getElem?_eq_getElem hj] using this
theorem bs_lit {W : World} {g c : Nat} {z : Nat × Nat} (xs : List UInt8) (hm : xs.length ≤ 9223372036854775807) (hc : xs.length ≤ c) (hg : W.heap[g]? = some (.cells (bvs xs).toArray 5 z)) : Bs W (.slice (some ⟨g, 0, none⟩) xs.length c) xs := by
 refine ⟨hm, _, c, rfl, hc, fun _ => ⟨g, 0, rfl, fun i hi => ?_⟩⟩
 have := bvs_get xs i hi
 simp only [World.cell?, hg, Nat.zero_add]
 simpa using this
theorem alloc_below (w : World) (o : Obj) : Below w.heap.size w (w.alloc o) := (Below.refl _ _).alloc (Nat.le_refl _) _
theorem bthen {a b c : World} (h : Below a.heap.size a b) (k : Below b.heap.size b c) : Below a.heap.size a c := h.trans (k.mono h.size)
structure ElemOk (t e : TypeId) (z : Value) (B : Nat) : Prop where
 ht : Tryz.prog.underlying t = some (.slice e)
 hi : (Tryz.prog.info? e).map (fun i => (i.zero, i.size, i.bytes)) = some (some z, 1, B)
 hz : z.cells.size = 1
theorem setRow_grown (w : World) (g : Nat) (cs : Array Value) : w.grownBy (w.setRow g cs) (some g) :=
 ⟨rfl, rfl, rfl, by simp, fun k _ hk => setRow_other w g k cs (fun e => hk (by simp [e]))⟩
end Go.Proofs.YthhnmpkgleelfaaGreatDoor
