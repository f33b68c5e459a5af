import Derived.Test.YthhnmpkgleelfaaGreatDoorM5
import Derived.Test.YthhnmpkgleelfaaGreatDoorM4
import Derived.Laws.RangeAny
import Derived.Laws.IdiomStrings
set_option linter.unusedVariables false
set_option linter.unusedSimpArgs false
namespace Go.Proofs.YthhnmpkgleelfaaGreatDoor
def idx : Nat → List Bool → List Int
 | _, [] => []
 | k, b :: l => if b = true then (k : Int) :: idx (k + 1) l else idx (k + 1) l
theorem idx_len : ∀ (l : List Bool) (k : Nat), (idx k l).length ≤ l.length
 | [], _ => Nat.le_refl _
 | b :: l, k => by
  have := idx_len l (k + 1)
  unfold idx
  split <;> simp only [List.length_cons] <;> omega
theorem idx_mem : ∀ (l : List Bool) (k : Nat) (c : Int), c ∈ idx k l ↔ ∃ j : Nat, c = k + j ∧ l[j]? = some true
 | [], k, c => by simp [idx]
 | b :: l, k, c => by
  have ih := idx_mem l (k + 1) c
  unfold idx
  constructor
  ·intro h
   by_cases hb : b = true
   ·rw [if_pos hb] at h
    rcases List.mem_cons.1 h with rfl | h
    ·exact ⟨0, by simp, by simp [hb]⟩
    ·obtain ⟨j, h1, h2⟩ := ih.1 h
     exact ⟨j + 1, by rw [h1]; push_cast; omega, by simpa using h2⟩
   ·rw [if_neg hb] at h
    obtain ⟨j, h1, h2⟩ := ih.1 h
    exact ⟨j + 1, by rw [h1]; push_cast; omega, by simpa using h2⟩
  ·rintro ⟨j, h1, h2⟩
   cases j with
   | zero =>
    have hb : b = true := by simpa using h2
    rw [if_pos hb]
    exact List.mem_cons.2 (.inl (by rw [h1]; simp))
   | succ j =>
    have h3 := ih.2 ⟨j, by rw [h1]; push_cast; omega, by simpa using h2⟩
    split
    ·exact List.mem_cons_of_mem _ h3
    ·exact h3
theorem mem0 (y : List Bool) (p : Nat) : (p : Int) ∈ idx 0 y ↔ y[p]? = some true := by
 rw [idx_mem]
 constructor
 ·rintro ⟨j, h1, h2⟩
  obtain rfl : p = j := by push_cast at h1; omega
  exact h2
 ·intro h
  exact ⟨p, by push_cast; omega, h⟩
theorem idx_app : ∀ (l m : List Bool) (k : Nat), idx k (l ++ m) = idx k l ++ idx (k + l.length) m
 | [], m, k => by simp [idx]
 | b :: l, m, k => by
  have ih := idx_app l m (k + 1)
  have e : k + (b :: l).length = k + 1 + l.length := by simp; omega
  rw [e]
  simp only [List.cons_append, idx]
  split
  ·rw [ih]; rfl
  ·rw [ih]
theorem idx_snoc (l : List Bool) (b : Bool) : idx 0 (l ++ [b]) = idx 0 l ++ (if b = true then [(l.length : Int)] else []) := by
 rw [idx_app, Nat.zero_add]
 cases b <;> simp [idx]
def Eps (M : List St) (first last : Bool) (q q' : Nat) : Prop :=
 (∃ b, M[q]? = some (.here b q') ∧ ((b = false ∧ first = true) ∨ (b = true ∧ last = true))) ∨ (∃ a b, M[q]? = some (.fork a b) ∧ (q' = a ∨ q' = b))
inductive EpsS (M : List St) (first last : Bool) : Nat → Nat → Prop
 | refl (q : Nat) : EpsS M first last q q
 | step {p q r : Nat} (h : EpsS M first last p q) (k : Eps M first last q r) : EpsS M first last p r
def StillY (M : List St) (first last : Bool) (l : List Int) (y : List Bool) : Prop := y.length = M.length ∧ ∀ q : Nat, y[q]? = some true ↔ q < M.length ∧ ∃ p : Nat, (p : Int) ∈ l ∧ EpsS M first last p q
def AfterY (M : List St) (l : List Int) (c : Int) (y : List Bool) : Prop := y.length = M.length ∧ ∀ q : Nat, y[q]? = some true ↔ ∃ (p : Nat) (r : Rx), (p : Int) ∈ l ∧ M[p]? = some (.eat r q) ∧ atomT r c = true
inductive Rch (M : List St) (st : Nat) (s : List Int) (E : Bool) : Nat → Nat → Prop
 | start {j : Nat} (h : j ≤ s.length) : Rch M st s E st j
 | step {q i q' i' : Nat} (h : Rch M st s E q i) (k : Stp M s E q i q' i') : Rch M st s E q' i'
theorem Stp.le {M : List St} {s : List Int} {E : Bool} {q i q' i' : Nat} (h : Stp M s E q i q' i') : i ≤ i' := by
 rcases h with ⟨_, _, _, _, _, rfl⟩ | ⟨_, _, rfl, _⟩ | ⟨_, _, _, rfl, _⟩ <;> omega
theorem Stp.len {M : List St} {s : List Int} {E : Bool} {q i q' i' : Nat} (h : Stp M s E q i q' i') (hi : i ≤ s.length) : i' ≤ s.length := by
 rcases h with ⟨_, _, _, h2, _, rfl⟩ | ⟨_, _, rfl, _⟩ | ⟨_, _, _, rfl, _⟩
 ·have := (List.getElem?_eq_some_iff.1 h2).1; omega
 ·exact hi
 ·exact hi
theorem Rch.len {M : List St} {st : Nat} {s : List Int} {E : Bool} {q j : Nat} (h : Rch M st s E q j) : j ≤ s.length := by
 induction h with
 | start h => exact h
 | step h k ih => exact k.len ih
theorem Rch.pth {M : List St} {st : Nat} {s : List Int} {E : Bool} {q j : Nat} (h : Rch M st s E q j) : ∃ i, i ≤ s.length ∧ ∃ n, Pth M s E n st i q j := by
 induction h with
 | start h => exact ⟨_, h, 0, .nil _ _⟩
 | step h k ih =>
  obtain ⟨i, hi, n, p⟩ := ih
  obtain ⟨l, p2⟩ := p.trans (.one k)
  exact ⟨i, hi, l, p2⟩
theorem Pth.rch {M : List St} {st : Nat} {s : List Int} {E : Bool} {n q i q' j : Nat} (p : Pth M s E n q i q' j) : Rch M st s E q i → Rch M st s E q' j := by
 induction p with
 | nil => exact id
 | cons h k ih => intro hr; exact ih (.step hr h)
theorem rch_mt {s : List Int} {r : Rx} (hok : r.ok) (j : Nat) : Rch (mcS r) (mcT r) s true 0 j ↔ ∃ i, i ≤ s.length ∧ Mt s r i j := by
 constructor
 ·intro h
  obtain ⟨i, hi, p⟩ := h.pth
  exact ⟨i, hi, (laid_iff (mc_zero r) hok (mc_laid r)).1 p⟩
 ·rintro ⟨i, hi, hm⟩
  obtain ⟨n, p⟩ := (laid_iff (mc_zero r) hok (mc_laid r)).2 hm
  exact p.rch (.start hi)
theorem Rch.more {M : List St} {st : Nat} {s : List Int} {q j : Nat} (u : List Int) (h : Rch M st s false q j) : Rch M st (s ++ u) false q j := by
 induction h with
 | start h => exact .start (by rw [List.length_append]; omega)
 | step h k ih =>
  refine .step ih ?_
  rcases k with ⟨r, c, h1, h2, h3, h4⟩ | ⟨b, h1, h2, h3⟩ | h1
  ·exact .inl ⟨r, c, h1, by rw [List.getElem?_append_left (List.getElem?_eq_some_iff.1 h2).1]; exact h2, h3, h4⟩
  ·refine .inr (.inl ⟨b, h1, h2, ?_⟩)
   rcases h3 with h3 | ⟨_, h3, _⟩
   ·exact .inl h3
   ·cases h3
  ·exact .inr (.inr h1)
theorem Rch.less {M : List St} {st : Nat} {s u : List Int} {q j : Nat} (h : Rch M st (s ++ u) false q j) : j ≤ s.length → Rch M st s false q j := by
 induction h with
 | start h => intro hj; exact .start hj
 | step h k ih =>
  intro hj
  have hle := k.le
  refine .step (ih (by omega)) ?_
  rcases k with ⟨r, c, h1, h2, h3, h4⟩ | ⟨b, h1, h2, h3⟩ | h1
  ·exact .inl ⟨r, c, h1, by rw [List.getElem?_append_left (by omega)] at h2; exact h2, h3, h4⟩
  ·refine .inr (.inl ⟨b, h1, h2, ?_⟩)
   rcases h3 with h3 | ⟨_, h3, _⟩
   ·exact .inl h3
   ·cases h3
  ·exact .inr (.inr h1)
theorem Rch.sure {M : List St} {st : Nat} {s : List Int} {q j : Nat} (h : Rch M st s false q j) : Rch M st s true q j := by
 induction h with
 | start h => exact .start h
 | step h k ih =>
  refine .step ih ?_
  rcases k with h1 | ⟨b, h1, h2, h3⟩ | h1
  ·exact .inl h1
  ·refine .inr (.inl ⟨b, h1, h2, ?_⟩)
   rcases h3 with h3 | ⟨_, h3, _⟩
   ·exact .inl h3
   ·cases h3
  ·exact .inr (.inr h1)
theorem Rch.early {M : List St} {st : Nat} {s : List Int} {q j : Nat} (h : Rch M st s true q j) : j < s.length → Rch M st s false q j := by
 induction h with
 | start h => intro _; exact .start h
 | step h k ih =>
  intro hj
  have hle := k.le
  refine .step (ih (by omega)) ?_
  rcases k with h1 | ⟨b, h1, h2, h3⟩ | h1
  ·exact .inl h1
  ·refine .inr (.inl ⟨b, h1, h2, ?_⟩)
   rcases h3 with h3 | ⟨_, _, h3⟩
   ·exact .inl h3
   ·omega
  ·exact .inr (.inr h1)
def SetAt (M : List St) (st : Nat) (s : List Int) (y : List Bool) : Prop := y.length = M.length ∧ ∀ q : Nat, y[q]? = some true ↔ q < M.length ∧ Rch M st s false q s.length
theorem lt_st {M : List St} {q : Nat} {z : St} (h : M[q]? = some z) : q < M.length := (List.getElem?_eq_some_iff.1 h).1
theorem EpsS.rch {M : List St} {st : Nat} {s : List Int} {E first last : Bool} (h1 : first = true → s.length = 0) (h2 : last = true → E = true) {p q : Nat} (h : EpsS M first last p q) : Rch M st s E p s.length → Rch M st s E q s.length := by
 induction h with
 | refl => exact id
 | step h k ih =>
  intro hr
  refine .step (ih hr) ?_
  rcases k with ⟨b, e1, e2⟩ | ⟨a, b, e1, e2⟩
  ·refine .inr (.inl ⟨b, e1, rfl, ?_⟩)
   rcases e2 with ⟨e2, e3⟩ | ⟨e2, e3⟩
   ·exact .inl ⟨e2, h1 e3⟩
   ·exact .inr ⟨e2, h2 e3, rfl⟩
  ·exact .inr (.inr ⟨a, b, e1, rfl, e2⟩)
theorem set_start {M : List St} {st : Nat} {y : List Bool} (h : StillY M true false [(st : Int)] y) : SetAt M st [] y := by
 refine ⟨h.1, fun q => ?_⟩
 rw [h.2]
 constructor
 ·rintro ⟨hq, p, hp, he⟩
  obtain rfl : p = st := by simp at hp; omega
  exact ⟨hq, he.rch (fun _ => rfl) (fun e => by cases e) (.start (Nat.le_refl _))⟩
 ·rintro ⟨hq, hr⟩
  refine ⟨hq, st, by simp, ?_⟩
  have key : ∀ q j, Rch M st [] false q j → EpsS M true false st q := by
   intro q j h
   induction h with
   | start h => exact .refl _
   | step h k ih =>
    refine .step ih ?_
    rcases k with ⟨r, c, _, h2, _⟩ | ⟨b, h1, _, h3⟩ | ⟨a, b, h1, _, h2⟩
    ·simp at h2
    ·refine .inl ⟨b, h1, ?_⟩
     rcases h3 with ⟨h3, _⟩ | ⟨_, h3, _⟩
     ·exact .inl ⟨h3, rfl⟩
     ·cases h3
    ·exact .inr ⟨a, b, h1, h2⟩
  exact key q _ hr
theorem set_next {M : List St} {st : Nat} {s : List Int} {c : Int} {y z y' : List Bool} (h : SetAt M st s y) (ha : AfterY M (idx 0 y) c z) (hs : StillY M false false (idx 0 z ++ [(st : Int)]) y') : SetAt M st (s ++ [c]) y' := by
 have hlen : (s ++ [c]).length = s.length + 1 := by simp
 refine ⟨hs.1, fun q => ?_⟩
 rw [hs.2]
 constructor
 ·rintro ⟨hq, p, hp, he⟩
  refine ⟨hq, he.rch (fun e => by cases e) (fun e => by cases e) ?_⟩
  rcases List.mem_append.1 hp with hp | hp
  ·obtain ⟨p', r, h1, h2, h3⟩ := (ha.2 p).1 ((mem0 z p).1 hp)
   have h4 := ((h.2 p').1 ((mem0 y p').1 h1)).2
   rw [hlen]
   refine .step (h4.more [c]) (.inl ⟨r, c, h2, ?_, h3, rfl⟩)
   simp
  ·obtain rfl : p = st := by simp at hp; omega
   exact .start (Nat.le_refl _)
 ·rintro ⟨hq, hr⟩
  refine ⟨hq, ?_⟩
  have key : ∀ q j, Rch M st (s ++ [c]) false q j → j = s.length + 1 → ∃ p : Nat, (p : Int) ∈ idx 0 z ++ [(st : Int)] ∧ EpsS M false false p q := by
   intro q j h'
   induction h' with
   | start _ => intro _; exact ⟨st, by simp, .refl _⟩
   | @step q0 i q1 i1 h0 k ih =>
    intro hj
    rcases k with ⟨r, c', h1, h2, h3, h4⟩ | ⟨b, h1, h2, h3⟩ | ⟨a, b, h1, h2, h3⟩
    ·obtain rfl : i = s.length := by omega
     have h5 := h0.less (Nat.le_refl _)
     have h6 : y[q0]? = some true := (h.2 q0).2 ⟨lt_st h1, h5⟩
     have hc : c' = c := by simpa using h2.symm
     rw [hc] at h3
     have h7 : z[q1]? = some true := (ha.2 q1).2 ⟨q0, r, (mem0 y q0).2 h6, h1, h3⟩
     exact ⟨q1, List.mem_append.2 (.inl ((mem0 z q1).2 h7)), .refl _⟩
    ·rcases h3 with ⟨_, h3⟩ | ⟨_, h3, _⟩
     ·omega
     ·cases h3
    ·obtain ⟨p, hp, he⟩ := ih (by omega)
     exact ⟨p, hp, .step he (.inr ⟨a, b, h1, h3⟩)⟩
  rw [hlen] at hr
  exact key q _ hr rfl
theorem set_end {M : List St} {st : Nat} {s : List Int} {y y' : List Bool} (hst : st < M.length) (hw : Wf M) (h0 : M[0]? = some .done) (h : SetAt M st s y) (hs : StillY M (decide (s.length = 0)) true (idx 0 y) y') : y'[0]? = some true ↔ Rch M st s true 0 s.length := by
 rw [hs.2]
 constructor
 ·rintro ⟨_, p, hp, he⟩
  exact he.rch (fun e => by simpa using e) (fun _ => rfl) ((h.2 p).1 ((mem0 y p).1 hp)).2.sure
 ·intro hr
  refine ⟨lt_st h0, ?_⟩
  have key : ∀ q j, Rch M st s true q j → j = s.length → ∃ p : Nat, (p : Int) ∈ idx 0 y ∧ EpsS M (decide (s.length = 0)) true p q := by
   intro q j h'
   induction h' with
   | start _ => intro _; exact ⟨st, (mem0 y st).2 ((h.2 st).2 ⟨hst, .start (Nat.le_refl _)⟩), .refl _⟩
   | @step q0 i q1 i1 hr0 k ih =>
    intro hj
    rcases k with ⟨r, c', h1, h2, h3, h4⟩ | ⟨b, h1, h2, h3⟩ | ⟨a, b, h1, h2, h3⟩
    ·have h5 : Rch M st s false q1 i1 := .step (hr0.early (by omega)) (.inl ⟨r, c', h1, h2, h3, h4⟩)
     have h6 : q1 < M.length := hw _ (List.mem_of_getElem? h1)
     rw [hj] at h5
     exact ⟨q1, (mem0 y q1).2 ((h.2 q1).2 ⟨h6, h5⟩), .refl _⟩
    ·obtain ⟨p, hp, he⟩ := ih (by omega)
     refine ⟨p, hp, .step he (.inl ⟨b, h1, ?_⟩)⟩
     rcases h3 with ⟨h3, h4⟩ | ⟨h3, _, h4⟩
     ·exact .inl ⟨h3, by simpa using (by omega : s.length = 0)⟩
     ·exact .inr ⟨h3, rfl⟩
    ·obtain ⟨p, hp, he⟩ := ih (by omega)
     exact ⟨p, hp, .step he (.inr ⟨a, b, h1, h3⟩)⟩
  exact key 0 _ hr rfl
def EndsAt (M : List St) (st : Nat) (s : List Int) (E : Bool) (z : List Bool) : Prop := z.length = s.length + 1 ∧ ∀ j : Nat, z[j]? = some true ↔ Rch M st s E 0 j
theorem ends_start {M : List St} {st : Nat} {y : List Bool} {b : Bool} (h : SetAt M st [] y) (hb : y[0]? = some b) : EndsAt M st [] false [b] := by
 refine ⟨rfl, fun j => ?_⟩
 have hlt : 0 < M.length := by have := (List.getElem?_eq_some_iff.1 hb).1; have := h.1; omega
 cases j with
 | zero =>
  have := h.2 0
  rw [hb] at this
  simp only [List.getElem?_cons_zero]
  rw [this]
  exact ⟨fun h => h.2, fun h => ⟨hlt, h⟩⟩
 | succ j =>
  constructor
  ·intro h; simp at h
  ·intro hr; have := hr.len; simp at this
theorem ends_next {M : List St} {st : Nat} {s : List Int} {c : Int} {y z : List Bool} {b : Bool} (hz : EndsAt M st s false z) (h : SetAt M st (s ++ [c]) y) (hb : y[0]? = some b) : EndsAt M st (s ++ [c]) false (z ++ [b]) := by
 have hlt : 0 < M.length := by have := (List.getElem?_eq_some_iff.1 hb).1; have := h.1; omega
 have hlen : (s ++ [c]).length = s.length + 1 := by simp
 refine ⟨by rw [List.length_append, hz.1, hlen]; rfl, fun j => ?_⟩
 by_cases hj : j < z.length
 ·rw [List.getElem?_append_left hj, hz.2]
  exact ⟨fun h => h.more _, fun h => h.less (by have := hz.1; omega)⟩
 ·by_cases hj2 : j = z.length
  ·subst hj2
   rw [List.getElem?_append_right (Nat.le_refl _), Nat.sub_self, List.getElem?_cons_zero]
   have := h.2 0
   rw [hb, hlen, ← hz.1] at this
   rw [this]
   exact ⟨fun h => h.2, fun h => ⟨hlt, h⟩⟩
  ·rw [List.getElem?_eq_none (by simp; omega)]
   constructor
   ·intro h; cases h
   ·intro hr; have := hr.len; have := hz.1; omega
theorem ends_end {M : List St} {st : Nat} {s : List Int} {z : List Bool} {b b' : Bool} (hz : EndsAt M st s false (z ++ [b])) (hb : b' = true ↔ Rch M st s true 0 s.length) : EndsAt M st s true (z ++ [b || b']) := by
 have hl := hz.1
 rw [List.length_append, List.length_cons, List.length_nil] at hl
 refine ⟨by rw [List.length_append]; simpa using hl, fun j => ?_⟩
 by_cases hj : j < z.length
 ·rw [List.getElem?_append_left hj]
  have h1 := hz.2 j
  rw [List.getElem?_append_left hj] at h1
  rw [h1]
  exact ⟨fun h => h.sure, fun h => h.early (by omega)⟩
 ·by_cases hj2 : j = z.length
  ·subst hj2
   have h1 := hz.2 z.length
   rw [List.getElem?_append_right (Nat.le_refl _), Nat.sub_self, List.getElem?_cons_zero] at h1 ⊢
   have e : z.length = s.length := by omega
   rw [e] at h1 ⊢
   rw [← hb]
   have h2 : b = true → b' = true := fun h => hb.2 (h1.1 (by rw [h])).sure
   cases b <;> cases b' <;> simp_all
  ·rw [List.getElem?_eq_none (by simp; omega)]
   constructor
   ·intro h; cases h
   ·intro hr; have := hr.len; omega
def decL (n : Nat) (f : Nat → Nat) : Nat × Nat :=
 if f 0 < 128 then (f 0, 1)
 else if f 0 / 32 = 6 ∧ (1 < n ∧ f 1 / 64 = 2) then (if (f 0 % 32) * 64 + f 1 % 64 ≥ 128 then ((f 0 % 32) * 64 + f 1 % 64, 2) else (65533, 1))
 else if (f 0 / 16 = 14 ∧ (1 < n ∧ f 1 / 64 = 2)) ∧ (2 < n ∧ f 2 / 64 = 2) then
  (if (f 0 % 16) * 4096 + (f 1 % 64) * 64 + f 2 % 64 ≥ 2048 ∧ Utf8.valid (((f 0 % 16) * 4096 + (f 1 % 64) * 64 + f 2 % 64 : Nat) : Int) = true then ((f 0 % 16) * 4096 + (f 1 % 64) * 64 + f 2 % 64, 3) else (65533, 1))
 else if ((f 0 / 8 = 30 ∧ (1 < n ∧ f 1 / 64 = 2)) ∧ (2 < n ∧ f 2 / 64 = 2)) ∧ (3 < n ∧ f 3 / 64 = 2) then
  (if (f 0 % 8) * 262144 + (f 1 % 64) * 4096 + (f 2 % 64) * 64 + f 3 % 64 ≥ 65536 ∧ Utf8.valid (((f 0 % 8) * 262144 + (f 1 % 64) * 4096 + (f 2 % 64) * 64 + f 3 % 64 : Nat) : Int) = true then ((f 0 % 8) * 262144 + (f 1 % 64) * 4096 + (f 2 % 64) * 64 + f 3 % 64, 4) else (65533, 1))
 else (65533, 1)
theorem get_byteAt (s : ByteArray) (i k : Nat) : (s.get! (i + k)).toNat = byteAt (s.data.toList.drop i) k := by
 rw [byteAt_drop]
 unfold byteAt
 show (s.data[i + k]!).toNat = _
 rw [List.getD_eq_getElem?_getD, Array.getElem?_toList, getElem!_def]
 cases s.data[i + k]? <;> rfl
theorem decode_list (s : ByteArray) (i : Nat) : Utf8.decode s i = decL (s.data.toList.drop i).length (byteAt (s.data.toList.drop i)) := by
 have hn : ∀ k, (i + k < s.size) = (k < (s.data.toList.drop i).length) := by
  intro k; rw [List.length_drop, Array.length_toList]; show (i + k < s.data.size) = _; exact propext ⟨fun h => by omega, fun h => by omega⟩
 unfold Utf8.decode decL
 simp only [get_byteAt, hn, Utf8.runeError, Bool.and_eq_true, decide_eq_true_eq, beq_iff_eq, and_assoc]
theorem valid_iff (n : Nat) : Utf8.valid (n : Int) = true ↔ n ≤ 1114111 ∧ ¬ (55296 ≤ n ∧ n ≤ 57343) := by
 unfold Utf8.valid; simp; omega
theorem decL_dec {xs : List UInt8} (h0 : xs ≠ []) : decL xs.length (byteAt xs) = if (dec xs).2.2 = 0 then ((dec xs).1, (dec xs).2.1) else (65533, 1) := by
 by_cases hd : (dec xs).2.2 = 0
 ·rw [if_pos hd]
  rcases dec_cases hd with ⟨a, t, rfl, h1, e⟩ | ⟨a, b, t, rfl, h1, hs, e⟩ | ⟨a, b, c, t, rfl, h1, hs, ht, e⟩ | ⟨a, b, c, d, t, rfl, h1, hs, ht, hd', e⟩ <;> rw [e] <;> unfold decL <;> simp only [valid_iff]
  ·rw [at0, if_pos h1]
  ·unfold sec at hs
   have hb := b8 b
   rw [at0, at1, if_neg (by omega), if_pos ⟨by omega, by simp, by omega⟩, if_pos (by omega)]
  ·unfold sec at hs; unfold tl at ht
   have hb := b8 b
   have hc := b8 c
   rw [at0, at1, at2, if_neg (by omega), if_neg (by omega), if_pos ⟨⟨by omega, by simp, by omega⟩, by simp, by omega⟩, if_pos (by omega)]
   congr 1; omega
  ·unfold sec at hs; unfold tl at ht hd'
   have hb := b8 b
   have hc := b8 c
   have hdd := b8 d
   rw [at0, at1, at2, at3, if_neg (by omega), if_neg (by omega), if_neg (by omega), if_pos ⟨⟨⟨by omega, by simp, by omega⟩, by simp, by omega⟩, by simp, by omega⟩, if_pos (by omega)]
   congr 1; omega
 ·rw [if_neg hd]
  unfold decL
  simp only [valid_iff]
  cases xs with
  | nil => exact absurd rfl h0
  | cons a t =>
   have ha := b8 a
   by_cases h1 : a.toNat < 128
   ·exact absurd (by rw [dec_a1 a t h1]) hd
   rw [at0, if_neg h1]
   split
   ·rename_i h2
    split
    ·rename_i h3
     cases t with
     | nil => simp at h2
     | cons b t =>
      rw [at1] at h2 h3
      have hb := b8 b
      exact absurd (by rw [dec_a2 a (b :: t) (by omega)]; simp only; rw [if_pos (by unfold sec; omega)]) hd
    ·rfl
   ·split
    ·rename_i h2
     split
     ·rename_i h3
      rcases t with _ | ⟨b, _ | ⟨c, t⟩⟩
      ·simp at h2
      ·simp at h2
      ·rw [at1, at2] at h2 h3
       have hb := b8 b
       have hc := b8 c
       exact absurd (by rw [dec_a3 a (b :: c :: t) (by omega)]; simp only; rw [if_pos (by unfold sec; omega), if_pos (by unfold tl; omega)]) hd
     ·rfl
    ·split
     ·rename_i h2
      split
      ·rename_i h3
       rcases t with _ | ⟨b, _ | ⟨c, _ | ⟨d, t⟩⟩⟩
       ·simp at h2
       ·simp at h2
       ·simp at h2
       ·rw [at1, at2, at3] at h2 h3
        have hb := b8 b
        have hc := b8 c
        have hdd := b8 d
        exact absurd (by rw [dec_a4 a (b :: c :: d :: t) (by omega)]; simp only; rw [if_pos (by unfold sec; omega), if_pos (by unfold tl; omega), if_pos (by unfold tl; omega)]) hd
      ·rfl
     ·rfl
theorem decode_dec (s : ByteArray) (i : Nat) (h : i < s.size) : Utf8.decode s i = if (dec (s.data.toList.drop i)).2.2 = 0 then ((dec (s.data.toList.drop i)).1, (dec (s.data.toList.drop i)).2.1) else (65533, 1) := by
 rw [decode_list]
 apply decL_dec
 intro e
 have := congrArg List.length e
 rw [List.length_drop, Array.length_toList] at this
 have : s.size = s.data.size := rfl
 simp at *; omega
theorem frm_fffd : frm ((65533 : Nat) : Int) = [239, 191, 189] := by rw [frm_3 65533 (by omega) (by omega)]; rfl
theorem dec_fffd {xs : List UInt8} (h : (dec xs).2.2 = 0) (hc : (dec xs).1 = 65533) : xs.take 3 = [239, 191, 189] := by
 have ⟨h1, _⟩ := dec_frm h
 rw [hc] at h1
 rw [frm_fffd] at h1
 have hl := congrArg List.length h1
 rw [List.length_take] at hl
 simp at hl
 have h4 := (dec_bd xs).1
 have : (dec xs).2.1 = 3 ∨ ((dec xs).2.1 = 4 ∧ xs.length = 3) := by omega
 rcases this with h | ⟨h, hx⟩
 ·rw [h] at h1; exact h1.symm
 ·rw [h, List.take_of_length_le (by omega)] at h1; rw [← h1]; rfl
theorem dec_not_fffd {xs : List UInt8} (h : (dec xs).2.2 ≠ 0) : xs.take 3 ≠ [239, 191, 189] := by
 intro e
 have e2 : xs = frm ((65533 : Nat) : Int) ++ xs.drop 3 := by
  rw [frm_fffd, ← e, List.take_append_drop]
 rw [e2, dec_of_frm 65533 (by rw [isR_nat]; simp)] at h
 exact h rfl
structure StI (M : List St) (first last : Bool) (l : List Int) (sn : List Bool) (td : List Int) : Prop where
 len : sn.length = M.length
 rng : ∀ i ∈ td, ∃ q : Nat, i = q ∧ q < M.length
 snd1 : ∀ q : Nat, sn[q]? = some true → ∃ p : Nat, (p : Int) ∈ l ∧ EpsS M first last p q
 snd2 : ∀ q : Nat, (q : Int) ∈ td → ∃ p : Nat, (p : Int) ∈ l ∧ EpsS M first last p q
 cls1 : ∀ p : Nat, (p : Int) ∈ l → sn[p]? = some true ∨ (p : Int) ∈ td
 cls2 : ∀ q r : Nat, sn[q]? = some true → Eps M first last q r → sn[r]? = some true ∨ (r : Int) ∈ td
theorem StI.start {M : List St} {first last : Bool} {l : List Int} (h : ∀ i ∈ l, ∃ q : Nat, i = q ∧ q < M.length) : StI M first last l (List.replicate M.length false) l := by
 have hf : ∀ q : Nat, (List.replicate M.length false)[q]? = some true → False := by
  intro q hq
  rw [List.getElem?_replicate] at hq
  split at hq <;> cases hq
 exact ⟨by simp, h, fun q hq => (hf q hq).elim, fun q hq => ⟨q, hq, .refl _⟩, fun p hp => .inr hp, fun q r hq _ => (hf q hq).elim⟩
theorem StI.pop {M : List St} {first last : Bool} {l : List Int} {sn : List Bool} {td : List Int} {q : Nat} (h : StI M first last l sn (td ++ [(q : Int)])) (hq : sn[q]? = some true) : StI M first last l sn td := by
 have key : ∀ r : Nat, sn[r]? = some true ∨ (r : Int) ∈ td ++ [(q : Int)] → sn[r]? = some true ∨ (r : Int) ∈ td := by
  intro r hr
  rcases hr with hr | hr
  ·exact .inl hr
  ·rcases List.mem_append.1 hr with hr | hr
   ·exact .inr hr
   ·obtain rfl : r = q := by simp at hr; omega
    exact .inl hq
 exact ⟨h.len, fun i hi => h.rng i (List.mem_append.2 (.inl hi)), h.snd1, fun r hr => h.snd2 r (List.mem_append.2 (.inl hr)), fun p hp => key p (h.cls1 p hp), fun a r ha he => key r (h.cls2 a r ha he)⟩
theorem set_true {sn : List Bool} {q r : Nat} : (sn.set q true)[r]? = some true ↔ sn[r]? = some true ∨ (r = q ∧ q < sn.length) := by
 rw [List.getElem?_set]
 by_cases h : q = r
 ·subst h
  by_cases hl : q < sn.length
  ·simp [hl]
  ·simp [hl]
 ·rw [if_neg h]
  constructor
  ·intro h1; exact .inl h1
  ·rintro (h1 | ⟨h1, _⟩)
   ·exact h1
   ·exact absurd h1.symm h
theorem StI.mark {M : List St} {first last : Bool} {l : List Int} {sn : List Bool} {td N : List Int} {q : Nat} (h : StI M first last l sn (td ++ [(q : Int)])) (hN : ∀ r : Nat, (r : Int) ∈ N ↔ Eps M first last q r) (hr : ∀ i ∈ N, ∃ r : Nat, i = r ∧ r < M.length) : StI M first last l (sn.set q true) (td ++ N) := by
 have hq : q < M.length := by
  obtain ⟨q', e, hq'⟩ := h.rng (q : Int) (by simp)
  omega
 have hql : q < sn.length := by rw [h.len]; exact hq
 obtain ⟨p0, hp0, he0⟩ := h.snd2 q (by simp)
 have key : ∀ r : Nat, sn[r]? = some true ∨ (r : Int) ∈ td ++ [(q : Int)] → (sn.set q true)[r]? = some true ∨ (r : Int) ∈ td ++ N := by
  intro r hr
  rcases hr with hr | hr
  ·exact .inl (set_true.2 (.inl hr))
  ·rcases List.mem_append.1 hr with hr | hr
   ·exact .inr (List.mem_append.2 (.inl hr))
   ·obtain rfl : r = q := by simp at hr; omega
    exact .inl (set_true.2 (.inr ⟨rfl, hql⟩))
 refine ⟨by rw [List.length_set]; exact h.len, fun i hi => ?_, fun r hs => ?_, fun r hm => ?_, fun p hp => key p (h.cls1 p hp), fun a r ha he => ?_⟩
 ·rcases List.mem_append.1 hi with hi | hi
  ·exact h.rng i (List.mem_append.2 (.inl hi))
  ·exact hr i hi
 ·rcases set_true.1 hs with hs | ⟨rfl, _⟩
  ·exact h.snd1 r hs
  ·exact ⟨p0, hp0, he0⟩
 ·rcases List.mem_append.1 hm with hm | hm
  ·exact h.snd2 r (List.mem_append.2 (.inl hm))
  ·exact ⟨p0, hp0, .step he0 ((hN r).1 hm)⟩
 ·rcases set_true.1 ha with ha | ⟨rfl, _⟩
  ·exact key r (h.cls2 a r ha he)
  ·exact .inr (List.mem_append.2 (.inr ((hN r).2 he)))
theorem StI.done {M : List St} {first last : Bool} {l : List Int} {sn : List Bool} (h : StI M first last l sn []) : StillY M first last l sn := by
 refine ⟨h.len, fun q => ⟨fun hq => ⟨?_, h.snd1 q hq⟩, ?_⟩⟩
 ·have := (List.getElem?_eq_some_iff.1 hq).1
  have := h.len
  omega
 ·rintro ⟨hq, p, hp, he⟩
  clear hq
  induction he with
  | refl =>
   rcases h.cls1 p hp with h1 | h1
   ·exact h1
   ·simp at h1
  | step h0 k ih =>
   rcases h.cls2 _ _ ih k with h1 | h1
   ·exact h1
   ·simp at h1
theorem count_set {sn : List Bool} {q : Nat} (h : sn[q]? = some false) : (sn.set q true).count false + 1 = sn.count false := by
 induction sn generalizing q with
 | nil => simp at h
 | cons b sn ih =>
  cases q with
  | zero =>
   have hb : b = false := by simpa using h
   subst hb
   simp
  | succ q =>
   have := ih (q := q) (by simpa using h)
   simp only [List.set_cons_succ, List.count_cons]
   omega
def kn (c : Int) : Int := if isR c = true then c else -1
theorem kn_ok {c : Int} (h : isR c = true) : kn c = c := if_pos h
theorem kn_bad {c : Int} (h : isR c = false) : kn c = -1 := by unfold kn; rw [h]; rfl
theorem kn_chr {d c : Int} (hd : isR d = true) : atomT (.chr d) (kn c) = (decide (c = d) && isR c) := by
 cases hc : isR c with
 | true =>
  rw [kn_ok hc]
  have := isR_pos hc
  simp only [atomT]
  by_cases h : c = d
  ·subst h; simp [this]
  ·have h' : ¬ d = c := fun e => h e.symm
   simp [h, h']
 | false => rw [kn_bad hc]; simp [atomT]
theorem kn_any {c : Int} : atomT .any (kn c) = (isR c && (decide (c ≠ 10) && decide (c ≠ 13) && decide (c ≠ 8232) && decide (c ≠ 8233))) := by
 cases hc : isR c with
 | true =>
  rw [kn_ok hc]
  have := isR_pos hc
  simp only [atomT, Bool.true_and]
  rw [decide_eq_true this, Bool.true_and]
 | false => rw [kn_bad hc]; simp [atomT]
theorem kn_set {cs : List Int} {c : Int} : atomT (.set cs) (kn c) = (inB cs c && isR c) := by
 cases hc : isR c with
 | true =>
  rw [kn_ok hc]
  have := isR_pos hc
  simp only [atomT]
  rw [decide_eq_true this, Bool.true_and, Bool.and_true]
 | false => rw [kn_bad hc]; simp [atomT]
theorem runes_frm (s : ByteArray) : ∀ (l : List Int) (bound i : Nat) (acc : Array Value), (∀ c ∈ l, isR c = true) → s.data.toList.drop i = l.flatMap frm → l.length ≤ bound → Conv.runesFrom s bound i acc = acc ++ (l.map fun c => Value.int .i32 c).toArray
 | [], bound, i, acc, _, h, _ => by
  have hi : ¬ i < s.size := by
   intro hi
   have := congrArg List.length h
   rw [List.length_drop, Array.length_toList] at this
   have : s.size = s.data.size := rfl
   simp at *; omega
  cases bound with
  | zero => simp [Conv.runesFrom]
  | succ b => unfold Conv.runesFrom; rw [if_neg hi]; simp
 | c :: l, bound, i, acc, hr, h, hb => by
  obtain ⟨b, rfl⟩ : ∃ b, bound = b + 1 := ⟨bound - 1, by simp at hb; omega⟩
  have hc := hr c (by simp)
  obtain ⟨n, rfl⟩ : ∃ n : Nat, c = n := ⟨c.toNat, by have := isR_pos hc; omega⟩
  have hd : s.data.toList.drop i = frm (n : Int) ++ l.flatMap frm := by rw [h]; rfl
  have hdec := dec_of_frm n hc (l.flatMap frm)
  rw [← hd] at hdec
  have hpos : 1 ≤ (frm (n : Int)).length := by
   have := dec_pos (xs := s.data.toList.drop i) (by rw [hdec])
   rw [hdec] at this
   exact this
  have hi : i < s.size := by
   have := congrArg List.length hd
   rw [List.length_drop, Array.length_toList, List.length_append] at this
   have : s.size = s.data.size := rfl
   omega
  unfold Conv.runesFrom
  rw [if_pos hi, decode_dec s i hi, hdec]
  simp only [if_pos]
  rw [runes_frm s l b _ _ (fun c hm => hr c (List.mem_cons_of_mem _ hm)) ?_ (by simp at hb; omega)]
  ·simp
  ·rw [← List.drop_drop, hd, List.drop_left']
   rfl
def NoX : List Int → Prop
 | a :: b :: l => ¬ (a < 55296 ∧ 57343 < b) ∧ NoX l
 | _ => True
theorem nox_of : ∀ (cs : List Int), (∀ c, inCs cs c → isR c = true) → NoX cs
 | [], _ => trivial
 | [_], _ => trivial
 | a :: b :: l, h => by
  refine ⟨fun ⟨h1, h2⟩ => ?_, nox_of l (fun c hc => h c (.inr hc))⟩
  have := h 55296 (.inl ⟨by omega, by omega⟩)
  exact absurd this (by decide)
theorem SetOf.nox {P : Int → Prop} {cs : List Int} (h : SetOf P cs) : NoX cs := nox_of cs fun c hc => ((h.mem c).1 hc).1
def Rx.nox : Rx → Prop
 | .set cs => NoX cs
 | .cat a b => a.nox ∧ b.nox
 | .alt a b => a.nox ∧ b.nox
 | .rep x _ _ => x.nox
 | _ => True
theorem joinR_nox (op : Rx → Rx → Rx) (hop : ∀ a b, a.nox → b.nox → (op a b).nox) : ∀ (l : List Rx), (∀ r ∈ l, r.nox) → (joinR op l).nox
 | [], _ => trivial
 | [x], h => h x (by simp)
 | x :: y :: l, h => by
  rw [joinR_cons op x (by simp)]
  exact hop _ _ (h x (by simp)) (joinR_nox op hop (y :: l) (fun r hr => h r (List.mem_cons_of_mem _ hr)))
theorem cat_nox {l : List Rx} (h : ∀ r ∈ l, r.nox) : (joinR .cat l).nox := joinR_nox .cat (fun _ _ h k => ⟨h, k⟩) l h
theorem alt_nox {l : List Rx} (h : ∀ r ∈ l, r.nox) : (joinR .alt l).nox := joinR_nox .alt (fun _ _ h k => ⟨h, k⟩) l h
mutual
theorem AltL.nox : ∀ {xs ys : List UInt8} {l : List Rx}, AltL xs l ys → ∀ r ∈ l, r.nox
 | _, _, _, .one h _ => by
  have h1 := cat_nox h.nox
  intro r hr
  rw [List.mem_singleton.1 hr]
  exact h1
 | _, _, _, .more h h2 => by
  have h1 := cat_nox h.nox
  have h3 := h2.nox
  intro r hr
  rcases List.mem_cons.1 hr with e | hr
  ·rw [e]; exact h1
  ·exact h3 r hr
theorem SeqL.nox : ∀ {xs ys : List UInt8} {l : List Rx}, SeqL xs l ys → ∀ r ∈ l, r.nox
 | _, _, _, .done _ => by simp
 | _, _, _, .more _ h h2 => by
  have h1 := h.nox
  have h3 := h2.nox
  intro r hr
  rcases List.mem_cons.1 hr with e | hr
  ·rw [e]; exact h1
  ·exact h3 r hr
theorem Piece.nox : ∀ {xs ys : List UInt8} {x : Rx}, Piece xs x ys → x.nox
 | _, _, _, .bare h _ => h.nox
 | _, _, _, .rep _ h _ _ => h.nox
theorem Atom.nox : ∀ {xs ys : List UInt8} {x : Rx}, Atom xs x ys → x.nox
 | _, _, _, .any => trivial
 | _, _, _, .beg => trivial
 | _, _, _, .fin => trivial
 | _, _, _, .group _ h => alt_nox h.nox
 | _, _, _, .group2 h => alt_nox h.nox
 | _, _, _, .cls _ _ hs => hs.nox
 | _, _, _, .classN _ hs => hs.nox
 | _, _, _, .escS _ hs => hs.nox
 | _, _, _, .escC _ => trivial
 | _, _, _, .chr _ _ _ => trivial
end
theorem Parsed.nox {xs : List UInt8} {r : Rx} (h : Parsed xs r) : r.nox := by
 obtain ⟨l, hl, rfl⟩ := h
 exact alt_nox hl.nox
theorem Gaps.two {a b : Int} {l : List Int} (h : Gaps (a :: b :: l)) : a ≤ b ∧ Gaps l := by
 cases l with
 | nil => exact ⟨h, trivial⟩
 | cons c l => exact ⟨h.1, h.2.2⟩
theorem Gaps.at : ∀ (l : List Int) (i : Nat) (a b : Int), Gaps l → NoX l → l[i]? = some a → l[i + 1]? = some b → (i % 2 = 0 → a ≤ b ∧ ¬ (a < 55296 ∧ 57343 < b)) ∧ (i % 2 = 1 → a + 2 ≤ b)
 | [], i, a, b, _, _, h, _ => by simp at h
 | [_], i, a, b, _, _, h, h2 => by simp at h2
 | x :: y :: l, 0, a, b, hg, hx, h, h2 => by
  simp at h h2; subst h h2
  exact ⟨fun _ => ⟨(Gaps.two hg).1, hx.1⟩, fun e => by omega⟩
 | x :: y :: [], 1, a, b, hg, hx, h, h2 => by simp at h2
 | x :: y :: z :: l, 1, a, b, hg, hx, h, h2 => by
  simp at h h2; subst h h2
  exact ⟨fun e => by omega, fun _ => by have := hg.2.1; omega⟩
 | x :: y :: l, i + 2, a, b, hg, hx, h, h2 => by
  have := Gaps.at l i a b (Gaps.two hg).2 hx.2 (by simpa using h) (by simpa using h2)
  exact ⟨fun e => this.1 (by omega), fun e => this.2 (by omega)⟩
def othP : Int → Spans → Spans
 | nx, [] => if nx ≤ 1114111 then [(nx, 1114111)] else []
 | nx, (a, b) :: l => (if nx < a then [(nx, a - 1)] else []) ++ othP (max nx (b + 1)) l
def SortedS (l : Spans) : Prop := l.Pairwise fun p q => p.1 ≤ q.1
def BdS (l : Spans) : Prop := ∀ p ∈ l, 0 ≤ p.1 ∧ p.1 ≤ p.2 ∧ p.2 ≤ 1114111
theorem inSp_nil (c : Int) : ¬ inSp [] c := fun ⟨_, h, _⟩ => by simp at h
theorem othP_spec : ∀ (l : Spans) (nx : Int), 0 ≤ nx → SortedS l → BdS l →
  GapsS (othP nx l) ∧ (∀ p ∈ othP nx l, nx ≤ p.1 ∧ p.1 ≤ p.2 ∧ p.2 ≤ 1114111) ∧ ∀ c, inSp (othP nx l) c ↔ nx ≤ c ∧ c ≤ 1114111 ∧ ¬ inSp l c
 | [], nx, h0, _, _ => by
  unfold othP
  split
  ·rename_i h
   refine ⟨?_, fun p hp => ?_, fun c => ?_⟩
   ·exact GapsS.cons h GapsS.nil (fun c hc => absurd hc (inSp_nil c))
   ·simp at hp; subst hp; exact ⟨Int.le_refl _, h, Int.le_refl _⟩
   ·rw [inSp_cons]
    have := inSp_nil c
    simp only [this, or_false, not_false_eq_true, and_true]
  ·refine ⟨GapsS.nil, fun p hp => by simp at hp, fun c => ?_⟩
   have := inSp_nil c
   simp only [this, false_iff]
   omega
 | (a, b) :: l, nx, h0, hs, hb => by
  have hs2 : SortedS l := (List.pairwise_cons.1 hs).2
  have hs1 : ∀ q ∈ l, a ≤ q.1 := (List.pairwise_cons.1 hs).1
  have hab := hb (a, b) (by simp)
  simp only at hab
  obtain ⟨ih1, ih2, ih3⟩ := othP_spec l (max nx (b + 1)) (by omega) hs2 (fun p hp => hb p (List.mem_cons_of_mem _ hp))
  have hlow : ∀ c, inSp l c → a ≤ c := by
   rintro c ⟨q, hq, h1, _⟩
   have := hs1 q hq
   omega
  unfold othP
  by_cases hn : nx < a
  ·rw [if_pos hn, List.singleton_append]
   refine ⟨GapsS.cons (by omega) ih1 (fun c hc => ?_), fun p hp => ?_, fun c => ?_⟩
   ·have := ((ih3 c).1 hc).1
    omega
   ·rcases List.mem_cons.1 hp with rfl | hp
    ·simp only; omega
    ·have := ih2 p hp; omega
   ·rw [inSp_cons, inSp_cons, ih3]
    simp only
    constructor
    ·rintro (⟨h1, h2⟩ | ⟨h1, h2, h3⟩)
     ·refine ⟨h1, by omega, ?_⟩
      rintro (⟨h4, _⟩ | h4)
      ·omega
      ·have := hlow c h4; omega
     ·refine ⟨by omega, h2, ?_⟩
      rintro (⟨_, h4⟩ | h4)
      ·omega
      ·exact h3 h4
    ·rintro ⟨h1, h2, h3⟩
     by_cases hc : c < a
     ·exact .inl ⟨h1, by omega⟩
     ·refine .inr ⟨?_, h2, fun h4 => h3 (.inr h4)⟩
      have : ¬ (c ≤ b) := fun h4 => h3 (.inl ⟨by omega, h4⟩)
      omega
  ·rw [if_neg hn, List.nil_append]
   refine ⟨ih1, fun p hp => by have := ih2 p hp; omega, fun c => ?_⟩
   rw [inSp_cons, ih3]
   simp only
   constructor
   ·rintro ⟨h1, h2, h3⟩
    refine ⟨by omega, h2, ?_⟩
    rintro (⟨_, h4⟩ | h4)
    ·omega
    ·exact h3 h4
   ·rintro ⟨h1, h2, h3⟩
    refine ⟨?_, h2, fun h4 => h3 (.inr h4)⟩
    have : ¬ (c ≤ b) := fun h4 => h3 (.inl ⟨by omega, h4⟩)
    omega
theorem inSp_perm {l m : Spans} (h : l.Perm m) (c : Int) : inSp l c ↔ inSp m c := by
 unfold inSp
 constructor
 ·rintro ⟨p, hp, h2⟩; exact ⟨p, h.mem_iff.1 hp, h2⟩
 ·rintro ⟨p, hp, h2⟩; exact ⟨p, h.mem_iff.2 hp, h2⟩
theorem BdS.perm {l m : Spans} (h : l.Perm m) (hb : BdS m) : BdS l := fun p hp => hb p (h.mem_iff.1 hp)
abbrev sur : Int × Int := (55296, 57343)
theorem BdS.sur {l : Spans} (h : BdS l) : BdS (l ++ [YthhnmpkgleelfaaGreatDoor.sur]) := fun p hp => by
 rcases List.mem_append.1 hp with hp | hp
 ·exact h p hp
 ·rw [List.mem_singleton.1 hp]; decide
theorem BdS.oth {l : Spans} (hs : SortedS l) (h : BdS l) : BdS (othP 0 l) := (othP_spec l 0 (Int.le_refl _) hs h).2.1
theorem isR_iff (c : Int) : isR c = true ↔ 0 ≤ c ∧ c ≤ 1114111 ∧ ¬ (55296 ≤ c ∧ c ≤ 57343) := by
 simp [isR]; omega
theorem set_core {S : Spans} (hs : SortedS S) (hb : BdS S) (hm : sur ∈ S) : SetOf (fun c => ¬ inSp S c) (flatS (othP 0 S)) := by
 obtain ⟨h1, h2, h3⟩ := othP_spec S 0 (Int.le_refl _) hs hb
 have key : ∀ c, inSp (othP 0 S) c → isR c = true := by
  intro c hc
  obtain ⟨k1, k2, k3⟩ := (h3 c).1 hc
  rw [isR_iff]
  exact ⟨k1, k2, fun k => k3 ⟨sur, hm, k⟩⟩
 refine ⟨h1, ?_, fun c => ?_⟩
 ·have hf : ∀ (l : Spans), (∀ p ∈ l, isR p.1 = true ∧ isR p.2 = true) → ∀ c ∈ flatS l, isR c = true := by
   intro l
   induction l with
   | nil => intro _ c hc; simp [flatS] at hc
   | cons p l ih =>
    obtain ⟨a, b⟩ := p
    intro h c hc
    simp only [flatS, List.mem_cons] at hc
    have := h (a, b) (by simp)
    rcases hc with rfl | rfl | hc
    ·exact this.1
    ·exact this.2
    ·exact ih (fun p hp => h p (List.mem_cons_of_mem _ hp)) c hc
  refine hf _ fun p hp => ?_
  have := (h2 p hp).2.1
  exact ⟨key _ ⟨p, hp, Int.le_refl _, this⟩, key _ ⟨p, hp, this, Int.le_refl _⟩⟩
 ·rw [inCs_flat]
  constructor
  ·intro hc; exact ⟨key c hc, ((h3 c).1 hc).2.2⟩
  ·rintro ⟨hr, hn⟩
   rw [isR_iff] at hr
   exact (h3 c).2 ⟨hr.1, hr.2.1, hn⟩
theorem inSp_sur {c : Int} (hc : isR c = true) : ¬ inSp [sur] c := by
 rintro ⟨p, hp, h⟩
 rw [List.mem_singleton.1 hp] at h
 rw [isR_iff] at hc
 exact hc.2.2 h
theorem set_neg {L S : Spans} (hL : BdS L) (hs : SortedS S) (hp : S.Perm (L ++ [sur])) : SetOf (fun c => ¬ inSp L c) (flatS (othP 0 S)) := by
 refine (set_core hs (hL.sur.perm hp) (hp.mem_iff.2 (by simp))).wk fun c hc => ?_
 rw [inSp_perm hp, inSp_append]
 have := inSp_sur hc
 simp only [this, or_false]
theorem set_pos {L S1 S : Spans} (hL : BdS L) (hs1 : SortedS S1) (hp1 : S1.Perm L) (hs : SortedS S) (hp : S.Perm (othP 0 S1 ++ [sur])) : SetOf (inSp L) (flatS (othP 0 S)) := by
 have hb1 := hL.perm hp1
 refine (set_neg (BdS.oth hs1 hb1) hs hp).wk fun c hc => ?_
 rw [(othP_spec S1 0 (Int.le_refl _) hs1 hb1).2.2, inSp_perm hp1]
 rw [isR_iff] at hc
 constructor
 ·intro h
  exact Classical.byContradiction fun hn => h ⟨hc.1, hc.2.1, hn⟩
 ·rintro h ⟨_, _, hn⟩
  exact hn h
theorem othP_len : ∀ (l : Spans) (nx : Int), (othP nx l).length ≤ l.length + 1
 | [], nx => by unfold othP; split <;> simp
 | (a, b) :: l, nx => by
  have := othP_len l (max nx (b + 1))
  unfold othP
  split <;> simp <;> omega
end Go.Proofs.YthhnmpkgleelfaaGreatDoor
