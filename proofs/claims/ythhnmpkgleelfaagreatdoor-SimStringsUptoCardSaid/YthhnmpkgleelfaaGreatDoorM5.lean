import Derived.Test.YthhnmpkgleelfaaGreatDoorM4
set_option linter.unusedVariables false
set_option linter.unusedSimpArgs false
namespace Go.Proofs.YthhnmpkgleelfaaGreatDoor
inductive St where
 | done
 | eat (a : Rx) (t : Nat)
 | here (last : Bool) (t : Nat)
 | fork (a b : Nat)
def Chn (P : Nat → Nat → Prop) : Nat → Nat → Nat → Prop
 | 0, st, a => st = a
 | n + 1, st, a => ∃ m, P st m ∧ Chn P n m a
def Opt (M : List St) (P : Nat → Nat → Prop) (t : Nat) : Nat → Nat → Prop
 | 0, a => a = t
 | n + 1, a => ∃ bg a', M[a]? = some (.fork bg t) ∧ P bg a' ∧ Opt M P t n a'
def Laid (M : List St) : Rx → Nat → Nat → Prop
 | .emp, st, t => st = t
 | .chr c, st, t => M[st]? = some (.eat (.chr c) t)
 | .any, st, t => M[st]? = some (.eat .any t)
 | .set cs, st, t => M[st]? = some (.eat (.set cs) t)
 | .beg, st, t => M[st]? = some (.here false t)
 | .fin, st, t => M[st]? = some (.here true t)
 | .cat a b, st, t => ∃ m, Laid M b m t ∧ Laid M a st m
 | .alt a b, st, t => ∃ a' b', M[st]? = some (.fork a' b') ∧ Laid M a a' t ∧ Laid M b b' t
 | .rep x mn mx, st, t => ∃ a, ((mx < 0 ∧ ∃ bg, M[a]? = some (.fork bg t) ∧ Laid M x bg a) ∨ (¬ mx < 0 ∧ Opt M (Laid M x) t (mx - mn).toNat a)) ∧ Chn (Laid M x) mn.toNat st a
def Stp (M : List St) (s : List Int) (E : Bool) (q i q' i' : Nat) : Prop :=
 (∃ r c, M[q]? = some (.eat r q') ∧ s[i]? = some c ∧ atomT r c = true ∧ i' = i + 1) ∨
 (∃ b, M[q]? = some (.here b q') ∧ i' = i ∧ ((b = false ∧ i = 0) ∨ (b = true ∧ E = true ∧ i = s.length))) ∨
 (∃ a b, M[q]? = some (.fork a b) ∧ i' = i ∧ (q' = a ∨ q' = b))
inductive Pth (M : List St) (s : List Int) (E : Bool) : Nat → Nat → Nat → Nat → Nat → Prop
 | nil (q i : Nat) : Pth M s E 0 q i q i
 | cons {n q i q1 i1 q' i' : Nat} (h : Stp M s E q i q1 i1) (k : Pth M s E n q1 i1 q' i') : Pth M s E (n + 1) q i q' i'
theorem Pth.trans {M : List St} {s : List Int} {E : Bool} {n q i q1 i1 : Nat} (h : Pth M s E n q i q1 i1) : ∀ {m q2 i2 : Nat}, Pth M s E m q1 i1 q2 i2 → ∃ l, Pth M s E l q i q2 i2 := by
 induction h with
 | nil => intro m q2 i2 k; exact ⟨_, k⟩
 | cons h k ih => intro m q2 i2 k2; obtain ⟨l, hl⟩ := ih k2; exact ⟨_, .cons h hl⟩
theorem Pth.one {M : List St} {s : List Int} {E : Bool} {q i q1 i1 : Nat} (h : Stp M s E q i q1 i1) : Pth M s E 1 q i q1 i1 := .cons h (.nil _ _)
theorem Pw.front {R : Nat → Nat → Prop} : ∀ (m : Nat) {i j : Nat}, Pw R (m + 1) i j → ∃ k, R i k ∧ Pw R m k j
 | 0, i, j, ⟨k, h, r⟩ => by
  obtain rfl : i = k := h
  exact ⟨j, r, rfl⟩
 | m + 1, i, j, ⟨k, h, r⟩ => by
  obtain ⟨l, h1, h2⟩ := Pw.front m h
  exact ⟨l, h1, k, h2, r⟩
theorem Pw.back {R : Nat → Nat → Prop} : ∀ (m : Nat) {i k j : Nat}, R i k → Pw R m k j → Pw R (m + 1) i j
 | 0, i, k, j, r, h => by
  obtain rfl : k = j := h
  exact ⟨i, rfl, r⟩
 | m + 1, i, k, j, r, ⟨l, h1, h2⟩ => ⟨l, Pw.back m r h1, h2⟩
theorem Pw.split {R : Nat → Nat → Prop} {m : Nat} : ∀ (n : Nat) {i j : Nat}, Pw R (m + n) i j → ∃ k, Pw R m i k ∧ Pw R n k j
 | 0, i, j, h => ⟨j, h, rfl⟩
 | n + 1, i, j, ⟨l, h, r⟩ => by
  obtain ⟨k, h1, h2⟩ := Pw.split n h
  exact ⟨k, h1, l, h2, r⟩
theorem Pw.join {R : Nat → Nat → Prop} {m : Nat} : ∀ (n : Nat) {i k j : Nat}, Pw R m i k → Pw R n k j → Pw R (m + n) i j
 | 0, i, k, j, h, e => by
  obtain rfl : k = j := e
  exact h
 | n + 1, i, k, j, h, ⟨l, h1, r⟩ => ⟨l, Pw.join n h h1, r⟩
def Cpl (M : List St) (s : List Int) (P R : Nat → Nat → Prop) : Prop := ∀ st t i j, P st t → R i j → ∃ n, Pth M s true n st i t j
def Snd (M : List St) (s : List Int) (P R : Nat → Nat → Prop) : Prop := ∀ n st t i j, P st t → Pth M s true n st i 0 j → ∃ k n', n' ≤ n ∧ R i k ∧ Pth M s true n' t k 0 j
theorem Cpl.chn {M : List St} {s : List Int} {P R : Nat → Nat → Prop} (h : Cpl M s P R) : ∀ n, Cpl M s (Chn P n) (Pw R n)
 | 0, st, t, i, j, e, e2 => by
  obtain rfl : st = t := e
  obtain rfl : i = j := e2
  exact ⟨0, .nil _ _⟩
 | n + 1, st, t, i, j, ⟨m, h1, h2⟩, hp => by
  obtain ⟨k, r1, r2⟩ := Pw.front n hp
  obtain ⟨_, p1⟩ := h _ _ _ _ h1 r1
  obtain ⟨_, p2⟩ := Cpl.chn h n _ _ _ _ h2 r2
  exact p1.trans p2
theorem Cpl.star {M : List St} {s : List Int} {P R : Nat → Nat → Prop} (h : Cpl M s P R) {a bg t : Nat} (hf : M[a]? = some (.fork bg t)) (hp : P bg a) : ∀ (d i j : Nat), Pw R d i j → ∃ n, Pth M s true n a i t j
 | 0, i, j, e => by
  obtain rfl : i = j := e
  exact ⟨1, .one (.inr (.inr ⟨_, _, hf, rfl, .inr rfl⟩))⟩
 | d + 1, i, j, hw => by
  obtain ⟨k, r1, r2⟩ := Pw.front d hw
  obtain ⟨_, p1⟩ := h _ _ _ _ hp r1
  obtain ⟨_, p2⟩ := Cpl.star h hf hp d k j r2
  obtain ⟨_, p3⟩ := p1.trans p2
  exact ⟨_, .cons (.inr (.inr ⟨_, _, hf, rfl, .inl rfl⟩)) p3⟩
theorem Cpl.opt {M : List St} {s : List Int} {P R : Nat → Nat → Prop} (h : Cpl M s P R) {t : Nat} : ∀ (n d a i j : Nat), Opt M P t n a → d ≤ n → Pw R d i j → ∃ n, Pth M s true n a i t j
 | 0, d, a, i, j, e, hd, hw => by
  obtain rfl : d = 0 := by omega
  obtain rfl : a = t := e
  obtain rfl : i = j := hw
  exact ⟨0, .nil _ _⟩
 | n + 1, 0, a, i, j, ⟨bg, a', hf, hp, ho⟩, hd, hw => by
  obtain rfl : i = j := hw
  exact ⟨1, .one (.inr (.inr ⟨_, _, hf, rfl, .inr rfl⟩))⟩
 | n + 1, d + 1, a, i, j, ⟨bg, a', hf, hp, ho⟩, hd, hw => by
  obtain ⟨k, r1, r2⟩ := Pw.front d hw
  obtain ⟨_, p1⟩ := h _ _ _ _ hp r1
  obtain ⟨_, p2⟩ := Cpl.opt h n d a' k j ho (by omega) r2
  obtain ⟨_, p3⟩ := p1.trans p2
  exact ⟨_, .cons (.inr (.inr ⟨_, _, hf, rfl, .inl rfl⟩)) p3⟩
theorem laid_cpl (M : List St) (s : List Int) : ∀ r : Rx, r.ok → Cpl M s (Laid M r) (Mt s r)
 | .emp, _ => fun st t i j e e2 => by
  obtain rfl : st = t := e
  obtain rfl : i = j := e2
  exact ⟨0, .nil _ _⟩
 | .chr c, _ => fun st t i j h ⟨e, c, h1, h2⟩ => ⟨1, .one (.inl ⟨_, _, h, h1, h2, e⟩)⟩
 | .any, _ => fun st t i j h ⟨e, c, h1, h2⟩ => ⟨1, .one (.inl ⟨_, _, h, h1, h2, e⟩)⟩
 | .set cs, _ => fun st t i j h ⟨e, c, h1, h2⟩ => ⟨1, .one (.inl ⟨_, _, h, h1, h2, e⟩)⟩
 | .beg, _ => fun st t i j h ⟨e, e2⟩ => ⟨1, .one (.inr (.inl ⟨_, h, by rw [e, e2], .inl ⟨rfl, e⟩⟩))⟩
 | .fin, _ => fun st t i j h ⟨e, e2⟩ => ⟨1, .one (.inr (.inl ⟨_, h, by rw [e, e2], .inr ⟨rfl, rfl, e⟩⟩))⟩
 | .cat a b, hok => fun st t i j ⟨m, h1, h2⟩ ⟨k, r1, r2⟩ => by
  obtain ⟨_, p1⟩ := laid_cpl M s a hok.1 _ _ _ _ h2 r1
  obtain ⟨_, p2⟩ := laid_cpl M s b hok.2 _ _ _ _ h1 r2
  exact p1.trans p2
 | .alt a b, hok => fun st t i j ⟨a', b', hf, h1, h2⟩ hr => by
  rcases hr with hr | hr
  ·obtain ⟨_, p⟩ := laid_cpl M s a hok.1 _ _ _ _ h1 hr
   exact ⟨_, .cons (.inr (.inr ⟨_, _, hf, rfl, .inl rfl⟩)) p⟩
  ·obtain ⟨_, p⟩ := laid_cpl M s b hok.2 _ _ _ _ h2 hr
   exact ⟨_, .cons (.inr (.inr ⟨_, _, hf, rfl, .inr rfl⟩)) p⟩
 | .rep x mn mx, hok => fun st t i j ⟨a, h1, h2⟩ ⟨m, hm1, hm2, hw⟩ => by
  have ih := laid_cpl M s x hok.1
  have hq := hok.2
  obtain ⟨d, hd⟩ : ∃ d, m = mn.toNat + d := ⟨m - mn.toNat, by omega⟩
  rw [hd] at hw
  obtain ⟨k, w1, w2⟩ := Pw.split d hw
  obtain ⟨_, p1⟩ := ih.chn _ _ _ _ _ h2 w1
  rcases h1 with ⟨hx, bg, hf, hl⟩ | ⟨hx, ho⟩
  ·obtain ⟨_, p2⟩ := ih.star hf hl d k j w2
   exact p1.trans p2
  ·obtain ⟨_, p2⟩ := ih.opt _ d a k j ho (by omega) w2
   exact p1.trans p2
theorem Pth.split1 {M : List St} {s : List Int} {n q i j : Nat} {z : St} (h0 : M[0]? = some .done) (hz : M[q]? = some z) (hd : z ≠ .done) (h : Pth M s true n q i 0 j) : ∃ m q1 i1, n = m + 1 ∧ Stp M s true q i q1 i1 ∧ Pth M s true m q1 i1 0 j := by
 cases h with
 | nil => rw [h0] at hz; exact absurd (Option.some.inj hz).symm hd
 | cons h k => exact ⟨_, _, _, rfl, h, k⟩
theorem Snd.chn {M : List St} {s : List Int} {P R : Nat → Nat → Prop} (h : Snd M s P R) : ∀ n, Snd M s (Chn P n) (Pw R n)
 | 0, n, st, t, i, j, e, hp => by
  obtain rfl : st = t := e
  exact ⟨i, n, Nat.le_refl _, rfl, hp⟩
 | m + 1, n, st, t, i, j, ⟨l, h1, h2⟩, hp => by
  obtain ⟨k, n1, hn1, r1, p1⟩ := h _ _ _ _ _ h1 hp
  obtain ⟨k2, n2, hn2, r2, p2⟩ := Snd.chn h m _ _ _ _ _ h2 p1
  exact ⟨k2, n2, by omega, Pw.back m r1 r2, p2⟩
theorem Snd.star {M : List St} {s : List Int} {P R : Nat → Nat → Prop} (h : Snd M s P R) (h0 : M[0]? = some .done) {a bg t : Nat} (hf : M[a]? = some (.fork bg t)) (hp : P bg a) : ∀ (N n i j : Nat), n ≤ N → Pth M s true n a i 0 j → ∃ d k n', n' ≤ n ∧ Pw R d i k ∧ Pth M s true n' t k 0 j := by
 intro N
 induction N with
 | zero =>
  intro n i j hn p
  obtain ⟨m, _, _, e, _⟩ := p.split1 h0 hf (by simp)
  omega
 | succ N ih =>
  intro n i j hn p
  obtain ⟨m, q1, i1, e, hs, p1⟩ := p.split1 h0 hf (by simp)
  rcases hs with ⟨_, _, e1, _⟩ | ⟨_, e1, _⟩ | ⟨x, y, e1, rfl, e2⟩
  ·rw [hf] at e1; cases e1
  ·rw [hf] at e1; cases e1
  ·rw [hf] at e1
   injection e1 with e1
   injection e1 with e3 e4
   subst e3 e4
   rcases e2 with rfl | rfl
   ·obtain ⟨k, n1, hn1, r1, p2⟩ := h _ _ _ _ _ hp p1
    obtain ⟨d, k2, n2, hn2, r2, p3⟩ := ih n1 k j (by omega) p2
    exact ⟨d + 1, k2, n2, by omega, Pw.back d r1 r2, p3⟩
   ·exact ⟨0, _, m, by omega, rfl, p1⟩
theorem Snd.opt {M : List St} {s : List Int} {P R : Nat → Nat → Prop} (h : Snd M s P R) (h0 : M[0]? = some .done) {t : Nat} : ∀ (N a n i j : Nat), Opt M P t N a → Pth M s true n a i 0 j → ∃ d k n', d ≤ N ∧ n' ≤ n ∧ Pw R d i k ∧ Pth M s true n' t k 0 j
 | 0, a, n, i, j, e, p => by
  obtain rfl : a = t := e
  exact ⟨0, i, n, Nat.le_refl _, Nat.le_refl _, rfl, p⟩
 | N + 1, a, n, i, j, ⟨bg, a', hf, hp, ho⟩, p => by
  obtain ⟨m, q1, i1, e, hs, p1⟩ := p.split1 h0 hf (by simp)
  rcases hs with ⟨_, _, e1, _⟩ | ⟨_, e1, _⟩ | ⟨x, y, e1, rfl, e2⟩
  ·rw [hf] at e1; cases e1
  ·rw [hf] at e1; cases e1
  ·rw [hf] at e1
   injection e1 with e1
   injection e1 with e3 e4
   subst e3 e4
   rcases e2 with rfl | rfl
   ·obtain ⟨k, n1, hn1, r1, p2⟩ := h _ _ _ _ _ hp p1
    obtain ⟨d, k2, n2, hd, hn2, r2, p3⟩ := Snd.opt h h0 N a' n1 k j ho p2
    exact ⟨d + 1, k2, n2, by omega, by omega, Pw.back d r1 r2, p3⟩
   ·exact ⟨0, _, m, by omega, by omega, rfl, p1⟩
theorem laid_snd (M : List St) (s : List Int) (h0 : M[0]? = some .done) : ∀ r : Rx, r.ok → Snd M s (Laid M r) (Mt s r)
 | .emp, _ => fun n st t i j e p => by
  obtain rfl : st = t := e
  exact ⟨i, n, Nat.le_refl _, rfl, p⟩
 | .chr c, _ => fun n st t i j h p => by
  obtain ⟨m, q1, i1, e, hs, p1⟩ := p.split1 h0 h (by simp)
  rcases hs with ⟨r, c', e1, e2, e3, rfl⟩ | ⟨_, e1, _⟩ | ⟨x, y, e1, _⟩
  ·rw [show M[st]? = some (.eat (.chr c) t) from h] at e1
   injection e1 with e1
   injection e1 with e4 e5
   subst e4 e5
   exact ⟨_, m, by omega, ⟨rfl, c', e2, e3⟩, p1⟩
  ·rw [show M[st]? = some (.eat (.chr c) t) from h] at e1; cases e1
  ·rw [show M[st]? = some (.eat (.chr c) t) from h] at e1; cases e1
 | .any, _ => fun n st t i j h p => by
  obtain ⟨m, q1, i1, e, hs, p1⟩ := p.split1 h0 h (by simp)
  rcases hs with ⟨r, c', e1, e2, e3, rfl⟩ | ⟨_, e1, _⟩ | ⟨x, y, e1, _⟩
  ·rw [show M[st]? = some (.eat .any t) from h] at e1
   injection e1 with e1
   injection e1 with e4 e5
   subst e4 e5
   exact ⟨_, m, by omega, ⟨rfl, c', e2, e3⟩, p1⟩
  ·rw [show M[st]? = some (.eat .any t) from h] at e1; cases e1
  ·rw [show M[st]? = some (.eat .any t) from h] at e1; cases e1
 | .set cs, _ => fun n st t i j h p => by
  obtain ⟨m, q1, i1, e, hs, p1⟩ := p.split1 h0 h (by simp)
  rcases hs with ⟨r, c', e1, e2, e3, rfl⟩ | ⟨_, e1, _⟩ | ⟨x, y, e1, _⟩
  ·rw [show M[st]? = some (.eat (.set cs) t) from h] at e1
   injection e1 with e1
   injection e1 with e4 e5
   subst e4 e5
   exact ⟨_, m, by omega, ⟨rfl, c', e2, e3⟩, p1⟩
  ·rw [show M[st]? = some (.eat (.set cs) t) from h] at e1; cases e1
  ·rw [show M[st]? = some (.eat (.set cs) t) from h] at e1; cases e1
 | .beg, _ => fun n st t i j h p => by
  obtain ⟨m, q1, i1, e, hs, p1⟩ := p.split1 h0 h (by simp)
  rcases hs with ⟨r, c', e1, _⟩ | ⟨b, e1, rfl, e2⟩ | ⟨x, y, e1, _⟩
  ·rw [show M[st]? = some (.here false t) from h] at e1; cases e1
  ·rw [show M[st]? = some (.here false t) from h] at e1
   injection e1 with e1
   injection e1 with e4 e5
   subst e4 e5
   rcases e2 with ⟨_, e2⟩ | ⟨e2, _⟩
   ·exact ⟨_, m, by omega, ⟨e2, e2⟩, p1⟩
   ·cases e2
  ·rw [show M[st]? = some (.here false t) from h] at e1; cases e1
 | .fin, _ => fun n st t i j h p => by
  obtain ⟨m, q1, i1, e, hs, p1⟩ := p.split1 h0 h (by simp)
  rcases hs with ⟨r, c', e1, _⟩ | ⟨b, e1, rfl, e2⟩ | ⟨x, y, e1, _⟩
  ·rw [show M[st]? = some (.here true t) from h] at e1; cases e1
  ·rw [show M[st]? = some (.here true t) from h] at e1
   injection e1 with e1
   injection e1 with e4 e5
   subst e4 e5
   rcases e2 with ⟨e2, _⟩ | ⟨_, _, e2⟩
   ·cases e2
   ·exact ⟨_, m, by omega, ⟨e2, e2⟩, p1⟩
  ·rw [show M[st]? = some (.here true t) from h] at e1; cases e1
 | .cat a b, hok => fun n st t i j ⟨l, h1, h2⟩ p => by
  obtain ⟨k, n1, hn1, r1, p1⟩ := laid_snd M s h0 a hok.1 _ _ _ _ _ h2 p
  obtain ⟨k2, n2, hn2, r2, p2⟩ := laid_snd M s h0 b hok.2 _ _ _ _ _ h1 p1
  exact ⟨k2, n2, by omega, ⟨k, r1, r2⟩, p2⟩
 | .alt a b, hok => fun n st t i j ⟨a', b', hf, h1, h2⟩ p => by
  obtain ⟨m, q1, i1, e, hs, p1⟩ := p.split1 h0 hf (by simp)
  rcases hs with ⟨_, _, e1, _⟩ | ⟨_, e1, _⟩ | ⟨x, y, e1, rfl, e2⟩
  ·rw [hf] at e1; cases e1
  ·rw [hf] at e1; cases e1
  ·rw [hf] at e1
   injection e1 with e1
   injection e1 with e3 e4
   subst e3 e4
   rcases e2 with rfl | rfl
   ·obtain ⟨k, n1, hn1, r1, p2⟩ := laid_snd M s h0 a hok.1 _ _ _ _ _ h1 p1
    exact ⟨k, n1, by omega, .inl r1, p2⟩
   ·obtain ⟨k, n1, hn1, r1, p2⟩ := laid_snd M s h0 b hok.2 _ _ _ _ _ h2 p1
    exact ⟨k, n1, by omega, .inr r1, p2⟩
 | .rep x mn mx, hok => fun n st t i j ⟨a, h1, h2⟩ p => by
  have ih := laid_snd M s h0 x hok.1
  have hq := hok.2
  obtain ⟨k, n1, hn1, r1, p1⟩ := ih.chn _ _ _ _ _ _ h2 p
  rcases h1 with ⟨hx, bg, hf, hl⟩ | ⟨hx, ho⟩
  ·obtain ⟨d, k2, n2, hn2, r2, p2⟩ := ih.star h0 hf hl n1 n1 k j (Nat.le_refl _) p1
   exact ⟨k2, n2, by omega, ⟨mn.toNat + d, by omega, .inl hx, Pw.join d r1 r2⟩, p2⟩
  ·obtain ⟨d, k2, n2, hd, hn2, r2, p2⟩ := ih.opt h0 _ a n1 k j ho p1
   exact ⟨k2, n2, by omega, ⟨mn.toNat + d, by omega, .inr (by omega), Pw.join d r1 r2⟩, p2⟩
theorem laid_iff {M : List St} {s : List Int} {r : Rx} {st i j : Nat} (h0 : M[0]? = some .done) (hok : r.ok) (h : Laid M r st 0) : (∃ n, Pth M s true n st i 0 j) ↔ Mt s r i j := by
 constructor
 ·rintro ⟨n, p⟩
  obtain ⟨k, n', _, hm, p'⟩ := laid_snd M s h0 r hok _ _ _ _ _ h p
  cases p' with
  | nil => exact hm
  | cons hs _ =>
   rcases hs with ⟨_, _, e1, _⟩ | ⟨_, e1, _⟩ | ⟨x, y, e1, _⟩ <;> (rw [h0] at e1; cases e1)
 ·intro hm
  exact laid_cpl M s r hok _ _ _ _ h hm
def itF (f : Nat → List St → Nat × List St) : Nat → Nat → List St → Nat × List St
 | 0, a, L => (a, L)
 | n + 1, a, L => itF f n (f a L).1 (f a L).2
def optF (f : Nat → List St → Nat × List St) (t a : Nat) (L : List St) : Nat × List St := ((f a L).2.length, (f a L).2 ++ [.fork (f a L).1 t])
def layF : Rx → Nat → List St → Nat × List St
 | .emp, t, L => (t, L)
 | .chr c, t, L => (L.length, L ++ [.eat (.chr c) t])
 | .any, t, L => (L.length, L ++ [.eat .any t])
 | .set cs, t, L => (L.length, L ++ [.eat (.set cs) t])
 | .beg, t, L => (L.length, L ++ [.here false t])
 | .fin, t, L => (L.length, L ++ [.here true t])
 | .cat a b, t, L => layF a (layF b t L).1 (layF b t L).2
 | .alt a b, t, L => ((layF a t (layF b t L).2).2.length, (layF a t (layF b t L).2).2 ++ [.fork (layF a t (layF b t L).2).1 (layF b t L).1])
 | .rep x mn mx, t, L =>
  if mx < 0 then itF (layF x) mn.toNat L.length ((layF x L.length (L ++ [.fork t t])).2.set L.length (.fork (layF x L.length (L ++ [.fork t t])).1 t))
  else itF (layF x) mn.toNat (itF (optF (layF x) t) (mx - mn).toNat t L).1 (itF (optF (layF x) t) (mx - mn).toNat t L).2
def repA (x : Rx) (mn mx : Int) (t : Nat) (L : List St) : Nat × List St :=
 if mx < 0 then (L.length, (layF x L.length (L ++ [.fork t t])).2.set L.length (.fork (layF x L.length (L ++ [.fork t t])).1 t)) else itF (optF (layF x) t) (mx - mn).toNat t L
theorem layF_rep (x : Rx) (mn mx : Int) (t : Nat) (L : List St) : layF (.rep x mn mx) t L = itF (layF x) mn.toNat (repA x mn mx t L).1 (repA x mn mx t L).2 := by
 unfold repA
 rw [layF]
 split <;> rfl
def Agr (M L L' : List St) : Prop := ∀ i, L.length ≤ i → i < L'.length → M[i]? = L'[i]?
theorem Agr.left {M L L' T : List St} (h : Agr M L (L' ++ T)) : Agr M L L' := fun i h1 h2 => by
 rw [h i h1 (by simp; omega), List.getElem?_append_left h2]
theorem Agr.right {M L T L' : List St} (h : Agr M L L') (hp : L.length ≤ T.length) : Agr M T L' := fun i h1 h2 => h i (by omega) h2
theorem Agr.self (L L' : List St) : Agr L' L L' := fun _ _ _ => rfl
theorem Agr.last {M L : List St} {z : St} (h : Agr M L (L ++ [z])) : M[L.length]? = some z := by rw [h L.length (Nat.le_refl _) (by simp)]; simp
theorem Agr.last2 {M L L' : List St} {z : St} (h : Agr M L (L' ++ [z])) (hl : L.length ≤ L'.length) : M[L'.length]? = some z := by rw [h L'.length hl (by simp)]; simp
structure LayOk (P : List St → Nat → Nat → Prop) (f : Nat → List St → Nat × List St) : Prop where
 pre : ∀ t L, ∃ T, (f t L).2 = L ++ T
 laid : ∀ t L M, Agr M L (f t L).2 → P M (f t L).1 t
theorem LayOk.len {P : List St → Nat → Nat → Prop} {f : Nat → List St → Nat × List St} (h : LayOk P f) (t : Nat) (L : List St) : L.length ≤ (f t L).2.length := by
 obtain ⟨T, e⟩ := h.pre t L
 rw [e]; simp
theorem LayOk.it_pre {P : List St → Nat → Nat → Prop} {f : Nat → List St → Nat × List St} (h : LayOk P f) : ∀ n t L, ∃ T, (itF f n t L).2 = L ++ T
 | 0, t, L => ⟨[], by simp [itF]⟩
 | n + 1, t, L => by
  obtain ⟨T, e⟩ := h.pre t L
  obtain ⟨T2, e2⟩ := LayOk.it_pre h n (f t L).1 (f t L).2
  exact ⟨T ++ T2, by rw [itF, e2, e, List.append_assoc]⟩
theorem Chn.snoc {P : Nat → Nat → Prop} : ∀ {n st m a : Nat}, Chn P n st m → P m a → Chn P (n + 1) st a
 | 0, st, m, a, e, h => by
  obtain rfl : st = m := e
  exact ⟨a, h, rfl⟩
 | n + 1, st, m, a, ⟨l, h1, h2⟩, h => ⟨l, h1, Chn.snoc h2 h⟩
theorem LayOk.it {P : List St → Nat → Nat → Prop} {f : Nat → List St → Nat × List St} (h : LayOk P f) : ∀ n t L M, Agr M L (itF f n t L).2 → Chn (P M) n (itF f n t L).1 t
 | 0, t, L, M, ha => rfl
 | n + 1, t, L, M, ha => by
  rw [itF] at ha ⊢
  have h1 := LayOk.it h n (f t L).1 (f t L).2 M (ha.right (h.len t L))
  obtain ⟨T, e⟩ := LayOk.it_pre h n (f t L).1 (f t L).2
  rw [e] at ha
  exact h1.snoc (h.laid t L M ha.left)
theorem LayOk.opt_pre {P : List St → Nat → Nat → Prop} {f : Nat → List St → Nat × List St} (h : LayOk P f) (t : Nat) : ∀ n a L, ∃ T, (itF (optF f t) n a L).2 = L ++ T
 | 0, a, L => ⟨[], by simp [itF]⟩
 | n + 1, a, L => by
  obtain ⟨T, e⟩ := h.pre a L
  obtain ⟨T2, e2⟩ := LayOk.opt_pre h t n (optF f t a L).1 (optF f t a L).2
  exact ⟨T ++ [.fork (f a L).1 t] ++ T2, by rw [itF, e2]; unfold optF; rw [e]; simp⟩
theorem LayOk.opt {P : List St → Nat → Nat → Prop} {f : Nat → List St → Nat × List St} (h : LayOk P f) (t : Nat) : ∀ n k a L M, Agr M L (itF (optF f t) n a L).2 → Opt M (P M) t k a → Opt M (P M) t (k + n) (itF (optF f t) n a L).1
 | 0, k, a, L, M, ha, ho => ho
 | n + 1, k, a, L, M, ha, ho => by
  rw [itF] at ha ⊢
  have hl : L.length ≤ (optF f t a L).2.length := by unfold optF; have := h.len a L; simp; omega
  have h1 := LayOk.opt h t n (k + 1) (optF f t a L).1 (optF f t a L).2 M (ha.right hl)
  rw [show k + (n + 1) = k + 1 + n by omega]
  refine h1 ⟨(f a L).1, a, ?_, ?_, ho⟩
  ·obtain ⟨T, e⟩ := LayOk.opt_pre h t n (optF f t a L).1 (optF f t a L).2
   rw [e] at ha
   have h2 : Agr M L ((f a L).2 ++ [.fork (f a L).1 t]) := ha.left
   exact h2.last2 (h.len a L)
  ·obtain ⟨T, e⟩ := LayOk.opt_pre h t n (optF f t a L).1 (optF f t a L).2
   rw [e] at ha
   have h2 : Agr M L ((f a L).2 ++ [.fork (f a L).1 t]) := ha.left
   exact h.laid a L M h2.left
theorem set_app (L T : List St) (z y : St) : (L ++ [z] ++ T).set L.length y = L ++ [y] ++ T := by
 induction L with
 | nil => rfl
 | cons x L ih => simp only [List.cons_append, List.length_cons, List.set_cons_succ]; rw [ih]
theorem lay_ok : ∀ r : Rx, LayOk (fun M st t => Laid M r st t) (layF r)
 | .emp => ⟨fun t L => ⟨[], by simp [layF]⟩, fun t L M _ => rfl⟩
 | .chr c => ⟨fun t L => ⟨_, rfl⟩, fun t L M h => h.last⟩
 | .any => ⟨fun t L => ⟨_, rfl⟩, fun t L M h => h.last⟩
 | .set cs => ⟨fun t L => ⟨_, rfl⟩, fun t L M h => h.last⟩
 | .beg => ⟨fun t L => ⟨_, rfl⟩, fun t L M h => h.last⟩
 | .fin => ⟨fun t L => ⟨_, rfl⟩, fun t L M h => h.last⟩
 | .cat a b => by
  have ia := lay_ok a
  have ib := lay_ok b
  refine ⟨fun t L => ?_, fun t L M h => ?_⟩
  ·obtain ⟨T, e⟩ := ib.pre t L
   obtain ⟨T2, e2⟩ := ia.pre (layF b t L).1 (layF b t L).2
   exact ⟨T ++ T2, by rw [layF, e2, e, List.append_assoc]⟩
  ·rw [layF] at h ⊢
   have h2 := h.right (ib.len t L)
   obtain ⟨T2, e2⟩ := ia.pre (layF b t L).1 (layF b t L).2
   rw [e2] at h
   exact ⟨_, ib.laid t L M h.left, ia.laid _ _ M h2⟩
 | .alt a b => by
  have ia := lay_ok a
  have ib := lay_ok b
  refine ⟨fun t L => ?_, fun t L M h => ?_⟩
  ·obtain ⟨T, e⟩ := ib.pre t L
   obtain ⟨T2, e2⟩ := ia.pre t (layF b t L).2
   exact ⟨T ++ T2 ++ [.fork (layF a t (layF b t L).2).1 (layF b t L).1], by rw [layF, e2, e]; simp⟩
  ·rw [layF] at h ⊢
   have hl1 := ib.len t L
   have hl2 := ia.len t (layF b t L).2
   have h2 := h.last2 (by omega)
   have h3 := h.left
   have h4 := h3.right hl1
   obtain ⟨T2, e2⟩ := ia.pre t (layF b t L).2
   rw [e2] at h3
   exact ⟨_, _, h2, ia.laid t _ M h4, ib.laid t L M h3.left⟩
 | .rep x mn mx => by
  have ix := lay_ok x
  have hA : ∀ t L, ∃ T, (repA x mn mx t L).2 = L ++ T := by
   intro t L
   unfold repA
   split
   ·obtain ⟨T, e⟩ := ix.pre L.length (L ++ [.fork t t])
    refine ⟨[.fork (layF x L.length (L ++ [.fork t t])).1 t] ++ T, ?_⟩
    show (layF x L.length (L ++ [.fork t t])).2.set L.length (.fork (layF x L.length (L ++ [.fork t t])).1 t) = _
    rw [e, set_app, List.append_assoc]
   ·exact ix.opt_pre t _ t L
  refine ⟨fun t L => ?_, fun t L M h => ?_⟩
  ·obtain ⟨T, e⟩ := hA t L
   obtain ⟨T2, e2⟩ := ix.it_pre mn.toNat (repA x mn mx t L).1 (repA x mn mx t L).2
   exact ⟨T ++ T2, by rw [layF_rep, e2, e, List.append_assoc]⟩
  ·rw [layF_rep] at h ⊢
   have hlen : L.length ≤ (repA x mn mx t L).2.length := by obtain ⟨T, e⟩ := hA t L; rw [e]; simp
   have h1 := ix.it mn.toNat (repA x mn mx t L).1 (repA x mn mx t L).2 M (h.right hlen)
   obtain ⟨T2, e2⟩ := ix.it_pre mn.toNat (repA x mn mx t L).1 (repA x mn mx t L).2
   rw [e2] at h
   have h2 := h.left
   refine ⟨_, ?_, h1⟩
   unfold repA at h2 ⊢
   by_cases hx : mx < 0
   ·rw [if_pos hx] at h2 ⊢
    obtain ⟨T, e⟩ := ix.pre L.length (L ++ [.fork t t])
    have e3 : (layF x L.length (L ++ [.fork t t])).2.set L.length (.fork (layF x L.length (L ++ [.fork t t])).1 t) = L ++ [.fork (layF x L.length (L ++ [.fork t t])).1 t] ++ T := by
     rw [e, set_app]
    refine .inl ⟨hx, (layF x L.length (L ++ [.fork t t])).1, ?_, ?_⟩
    ·have h3 : Agr M L ((layF x L.length (L ++ [.fork t t])).2.set L.length (.fork (layF x L.length (L ++ [.fork t t])).1 t)) := h2
     rw [e3] at h3
     exact h3.left.last
    ·refine ix.laid L.length (L ++ [.fork t t]) M (fun i hi1 hi2 => ?_)
     have h3 : Agr M L ((layF x L.length (L ++ [.fork t t])).2.set L.length (.fork (layF x L.length (L ++ [.fork t t])).1 t)) := h2
     have hi3 : L.length < i := by simp at hi1; omega
     rw [h3 i (by omega) (by rw [List.length_set]; exact hi2), List.getElem?_set_ne (by omega)]
   ·rw [if_neg hx] at h2 ⊢
    refine .inr ⟨hx, ?_⟩
    have h3 := ix.opt t (mx - mn).toNat 0 t L M h2 rfl
    rwa [Nat.zero_add] at h3
theorem adS_zero {a b : Int} (ha : 0 ≤ a) (hb : 0 ≤ b) (h : adS a b = 0) : a = 0 ∧ b = 0 := by unfold adS mxS at h; omega
theorem it_id {f : Nat → List St → Nat × List St} (h : ∀ t L, f t L = (t, L)) : ∀ n t L, itF f n t L = (t, L)
 | 0, t, L => rfl
 | n + 1, t, L => by rw [itF, h]; exact it_id h n t L
theorem lay_zero : ∀ r : Rx, r.ok → needF r = 0 → ∀ t L, layF r t L = (t, L)
 | .emp, _, _, t, L => rfl
 | .chr c, _, h, _, _ => by simp [needF] at h
 | .any, _, h, _, _ => by simp [needF] at h
 | .set cs, _, h, _, _ => by simp [needF] at h
 | .beg, _, h, _, _ => by simp [needF] at h
 | .fin, _, h, _, _ => by simp [needF] at h
 | .cat a b, hok, h, t, L => by
  rw [needF] at h
  obtain ⟨h1, h2⟩ := adS_zero (needF_bd a hok.1).1 (needF_bd b hok.2).1 h
  rw [layF, lay_zero b hok.2 h2, lay_zero a hok.1 h1]
 | .alt a b, hok, h, t, L => by
  rw [needF] at h
  obtain ⟨_, h2⟩ := adS_zero (adS_bd (needF_bd a hok.1).1 (needF_bd b hok.2).1).1 (by omega) h
  omega
 | .rep x mn mx, hok, h, t, L => by
  have hx := needF_bd x hok.1
  have hq := hok.2
  rw [needF] at h
  by_cases hm : mx < 0
  ·rw [if_pos hm] at h
   obtain ⟨_, h2⟩ := adS_zero (muS_bd hq.1 hx.1).1 (adS_bd hx.1 (by omega)).1 h
   obtain ⟨_, h3⟩ := adS_zero hx.1 (by omega) h2
   omega
  ·rw [if_neg hm] at h
   obtain ⟨h1, h2⟩ := adS_zero (muS_bd hq.1 hx.1).1 (muS_bd (by omega) (adS_bd hx.1 (by omega)).1).1 h
   have h3 : mx - mn = 0 := by
    apply Classical.byContradiction
    intro hne
    have hpos : 1 ≤ adS (needF x) 1 := by unfold adS mxS; omega
    have : 1 * 1 ≤ (mx - mn) * adS (needF x) 1 := Int.mul_le_mul (by omega) hpos (by omega) (by omega)
    unfold muS mxS at h2; omega
   rw [layF, if_neg hm, show (mx - mn).toNat = 0 by omega]
   show itF (layF x) mn.toNat t L = (t, L)
   by_cases hmn : mn = 0
   ·rw [hmn]; rfl
   ·have h4 : needF x = 0 := by
     apply Classical.byContradiction
     intro hne
     have : 1 * 1 ≤ mn * needF x := Int.mul_le_mul (by omega) (by omega) (by omega) (by omega)
     unfold muS mxS at h1; omega
    exact it_id (lay_zero x hok.1 h4) _ _ _
theorem it_len {f : Nat → List St → Nat × List St} {k : Nat} (h : ∀ t L, (f t L).2.length = L.length + k) : ∀ n t L, (itF f n t L).2.length = L.length + n * k
 | 0, t, L => by simp [itF]
 | n + 1, t, L => by rw [itF, it_len h n, h, Nat.succ_mul]; omega
theorem adS_eq {a b N : Int} (h : adS a b ≤ N) (hN : N < mxS) : adS a b = a + b := by unfold adS at h ⊢; omega
theorem muS_eq {a b N : Int} (h : muS a b ≤ N) (hN : N < mxS) : muS a b = a * b := by unfold muS at h ⊢; omega
theorem lay_len : ∀ r : Rx, r.ok → needF r ≤ 3000 → ∀ t L, (layF r t L).2.length = L.length + (needF r).toNat
 | .emp, _, _, t, L => by simp [layF, needF]
 | .chr c, _, _, t, L => by simp [layF, needF]
 | .any, _, _, t, L => by simp [layF, needF]
 | .set cs, _, _, t, L => by simp [layF, needF]
 | .beg, _, _, t, L => by simp [layF, needF]
 | .fin, _, _, t, L => by simp [layF, needF]
 | .cat a b, hok, h, t, L => by
  have ha := needF_bd a hok.1
  have hb := needF_bd b hok.2
  rw [needF] at h ⊢
  have e := adS_eq h (by unfold mxS; omega)
  rw [e] at h ⊢
  rw [layF, lay_len a hok.1 (by omega), lay_len b hok.2 (by omega)]
  omega
 | .alt a b, hok, h, t, L => by
  have ha := needF_bd a hok.1
  have hb := needF_bd b hok.2
  rw [needF] at h ⊢
  have e := adS_eq h (by unfold mxS; omega)
  rw [e] at h ⊢
  have e2 := adS_eq (a := needF a) (b := needF b) (N := 3000) (by omega) (by unfold mxS; omega)
  rw [e2] at h ⊢
  rw [layF]
  simp only [List.length_append, List.length_cons, List.length_nil]
  rw [lay_len a hok.1 (by omega), lay_len b hok.2 (by omega)]
  omega
 | .rep x mn mx, hok, h, t, L => by
  have hx := needF_bd x hok.1
  have hq := hok.2
  have hi : ∀ t L, needF x ≤ 3000 → (layF x t L).2.length = L.length + (needF x).toNat := fun t L hn => lay_len x hok.1 hn t L
  have hit : ∀ (n : Nat) t L, (n : Int) * needF x ≤ 3000 → (itF (layF x) n t L).2.length = L.length + n * (needF x).toNat := by
   intro n t L hn
   by_cases h0 : n = 0
   ·subst h0; simp [itF]
   ·have : needF x ≤ 3000 := by
     have h1 : 1 * needF x ≤ (n : Int) * needF x := Int.mul_le_mul_of_nonneg_right (by omega) hx.1
     omega
    exact it_len (fun t L => hi t L this) n t L
  rw [needF] at h ⊢
  rw [layF_rep]
  by_cases hm : mx < 0
  ·rw [if_pos hm] at h ⊢
   have e := adS_eq h (by unfold mxS; omega)
   have b1 := (muS_bd hq.1 hx.1).1
   have b2 := (adS_bd hx.1 (show (0 : Int) ≤ 1 by omega)).1
   rw [e] at h ⊢
   have e2 := muS_eq (a := mn) (b := needF x) (N := 3000) (by omega) (by unfold mxS; omega)
   have e3 := adS_eq (a := needF x) (b := 1) (N := 3000) (by omega) (by unfold mxS; omega)
   rw [e2] at b1
   rw [e3] at b2
   rw [e2, e3] at h ⊢
   rw [hit mn.toNat _ _ (by rw [show ((mn.toNat : Nat) : Int) = mn by omega]; omega)]
   unfold repA
   rw [if_pos hm]
   simp only [List.length_set]
   rw [hi _ _ (by omega)]
   simp only [List.length_append, List.length_cons, List.length_nil]
   have e4 : ((mn.toNat * (needF x).toNat : Nat) : Int) = mn * needF x := by push_cast; rw [show ((mn.toNat : Nat) : Int) = mn by omega, show (((needF x).toNat : Nat) : Int) = needF x by omega]
   omega
  ·rw [if_neg hm] at h ⊢
   have e := adS_eq h (by unfold mxS; omega)
   have b1 := (muS_bd hq.1 hx.1).1
   have b2 := (muS_bd (show 0 ≤ mx - mn by omega) (adS_bd hx.1 (show (0 : Int) ≤ 1 by omega)).1).1
   rw [e] at h ⊢
   have e2 := muS_eq (a := mn) (b := needF x) (N := 3000) (by omega) (by unfold mxS; omega)
   have e3 := muS_eq (a := mx - mn) (b := adS (needF x) 1) (N := 3000) (by omega) (by unfold mxS; omega)
   rw [e2] at b1
   rw [e3] at b2
   rw [e2, e3] at h ⊢
   rw [hit mn.toNat _ _ (by rw [show ((mn.toNat : Nat) : Int) = mn by omega]; omega)]
   unfold repA
   rw [if_neg hm]
   have e4 : ((mn.toNat * (needF x).toNat : Nat) : Int) = mn * needF x := by push_cast; rw [show ((mn.toNat : Nat) : Int) = mn by omega, show (((needF x).toNat : Nat) : Int) = needF x by omega]
   by_cases h0 : mx - mn = 0
   ·rw [show (mx - mn).toNat = 0 by omega]
    rw [h0, Int.zero_mul]
    simp only [itF]
    omega
   ·have hpos : adS (needF x) 1 ≤ 3000 := by
     have h1 : 1 * adS (needF x) 1 ≤ (mx - mn) * adS (needF x) 1 := Int.mul_le_mul_of_nonneg_right (by omega) (adS_bd hx.1 (by omega)).1
     omega
    have e5 := adS_eq hpos (by unfold mxS; omega)
    rw [e5] at h b2 hpos ⊢
    have ho : ∀ a L, (optF (layF x) t a L).2.length = L.length + ((needF x).toNat + 1) := by
     intro a L
     unfold optF
     simp only [List.length_append, List.length_cons, List.length_nil]
     rw [hi _ _ (by omega)]
     omega
    rw [it_len ho]
    have e6 : (((mx - mn).toNat * ((needF x).toNat + 1) : Nat) : Int) = (mx - mn) * (needF x + 1) := by push_cast; rw [show (((mx - mn).toNat : Nat) : Int) = mx - mn by omega, show (((needF x).toNat : Nat) : Int) = needF x by omega]
    omega
def St.lt (n : Nat) : St → Prop
 | .done => True
 | .eat _ t => t < n
 | .here _ t => t < n
 | .fork a b => a < n ∧ b < n
def Wf (L : List St) : Prop := ∀ z ∈ L, z.lt L.length
theorem St.lt_mono {n m : Nat} (h : n ≤ m) : ∀ z : St, z.lt n → z.lt m
 | .done, _ => trivial
 | .eat _ t, k => Nat.lt_of_lt_of_le k h
 | .here _ t, k => Nat.lt_of_lt_of_le k h
 | .fork a b, k => ⟨Nat.lt_of_lt_of_le k.1 h, Nat.lt_of_lt_of_le k.2 h⟩
theorem Wf.snoc {L : List St} {z : St} (h : Wf L) (hz : z.lt (L.length + 1)) : Wf (L ++ [z]) := by
 intro y hy
 rw [List.length_append, List.length_cons, List.length_nil]
 rcases List.mem_append.1 hy with hy | hy
 ·exact St.lt_mono (by omega) y (h y hy)
 ·simp at hy; subst hy; exact hz
def WfF (f : Nat → List St → Nat × List St) : Prop := ∀ t L, t < L.length → Wf L → Wf (f t L).2 ∧ (f t L).1 < (f t L).2.length ∧ L.length ≤ (f t L).2.length
theorem WfF.it {f : Nat → List St → Nat × List St} (h : WfF f) : ∀ n, WfF (itF f n)
 | 0, t, L, ht, hL => ⟨hL, ht, Nat.le_refl _⟩
 | n + 1, t, L, ht, hL => by
  obtain ⟨h1, h2, h3⟩ := h t L ht hL
  obtain ⟨h4, h5, h6⟩ := WfF.it h n _ _ h2 h1
  rw [itF]
  exact ⟨h4, h5, by omega⟩
theorem WfF.opt {f : Nat → List St → Nat × List St} (h : WfF f) (t : Nat) : ∀ n a L, t < L.length → a < L.length → Wf L → Wf (itF (optF f t) n a L).2 ∧ (itF (optF f t) n a L).1 < (itF (optF f t) n a L).2.length ∧ L.length ≤ (itF (optF f t) n a L).2.length
 | 0, a, L, ht, ha, hL => ⟨hL, ha, Nat.le_refl _⟩
 | n + 1, a, L, ht, ha, hL => by
  obtain ⟨h1, h2, h3⟩ := h a L ha hL
  have hw : Wf (optF f t a L).2 := h1.snoc ⟨by omega, by omega⟩
  have hl : (optF f t a L).2.length = (f a L).2.length + 1 := by unfold optF; simp
  have ha' : (optF f t a L).1 = (f a L).2.length := rfl
  obtain ⟨h4, h5, h6⟩ := WfF.opt h t n (optF f t a L).1 (optF f t a L).2 (by omega) (by omega) hw
  rw [itF]
  exact ⟨h4, h5, by omega⟩
theorem lay_wf : ∀ r : Rx, WfF (layF r)
 | .emp => fun t L ht hL => ⟨hL, ht, Nat.le_refl _⟩
 | .chr c => fun t L ht hL => ⟨hL.snoc (by show t < _; omega), by simp [layF], by simp [layF]⟩
 | .any => fun t L ht hL => ⟨hL.snoc (by show t < _; omega), by simp [layF], by simp [layF]⟩
 | .set cs => fun t L ht hL => ⟨hL.snoc (by show t < _; omega), by simp [layF], by simp [layF]⟩
 | .beg => fun t L ht hL => ⟨hL.snoc (by show t < _; omega), by simp [layF], by simp [layF]⟩
 | .fin => fun t L ht hL => ⟨hL.snoc (by show t < _; omega), by simp [layF], by simp [layF]⟩
 | .cat a b => fun t L ht hL => by
  obtain ⟨h1, h2, h3⟩ := lay_wf b t L ht hL
  obtain ⟨h4, h5, h6⟩ := lay_wf a _ _ h2 h1
  rw [layF]
  exact ⟨h4, h5, by omega⟩
 | .alt a b => fun t L ht hL => by
  obtain ⟨h1, h2, h3⟩ := lay_wf b t L ht hL
  obtain ⟨h4, h5, h6⟩ := lay_wf a t _ (by omega) h1
  rw [layF]
  exact ⟨h4.snoc ⟨by omega, by omega⟩, by simp, by simp; omega⟩
 | .rep x mn mx => fun t L ht hL => by
  have ix := lay_wf x
  rw [layF_rep]
  have hA : Wf (repA x mn mx t L).2 ∧ (repA x mn mx t L).1 < (repA x mn mx t L).2.length ∧ L.length ≤ (repA x mn mx t L).2.length := by
   unfold repA
   by_cases hm : mx < 0
   ·rw [if_pos hm]
    have h0 : Wf (L ++ [.fork t t]) := hL.snoc ⟨by omega, by omega⟩
    obtain ⟨h1, h2, h3⟩ := ix L.length (L ++ [.fork t t]) (by simp) h0
    simp only [List.length_append, List.length_cons, List.length_nil] at h3
    refine ⟨fun z hz => ?_, by simp only [List.length_set]; omega, by simp only [List.length_set]; omega⟩
    simp only [List.length_set]
    rcases List.mem_or_eq_of_mem_set hz with hz | rfl
    ·exact h1 z hz
    ·exact ⟨h2, by omega⟩
   ·rw [if_neg hm]
    exact ix.opt t _ t L ht ht hL
  obtain ⟨h1, h2, h3⟩ := hA
  obtain ⟨h4, h5, h6⟩ := ix.it mn.toNat _ _ h2 h1
  exact ⟨h4, h5, by omega⟩
def mcS (r : Rx) : List St := (layF r 0 [.done]).2
def mcT (r : Rx) : Nat := (layF r 0 [.done]).1
theorem mc_zero (r : Rx) : (mcS r)[0]? = some .done := by
 obtain ⟨T, e⟩ := (lay_ok r).pre 0 [.done]
 unfold mcS
 rw [e]; rfl
theorem mc_laid (r : Rx) : Laid (mcS r) r (mcT r) 0 := (lay_ok r).laid 0 [.done] _ (Agr.self _ _)
theorem mc_wf (r : Rx) : Wf (mcS r) ∧ mcT r < (mcS r).length := by
 obtain ⟨h1, h2, _⟩ := lay_wf r 0 [.done] (by simp) (fun z hz => by simp at hz; subst hz; trivial)
 exact ⟨h1, h2⟩
theorem mc_len {r : Rx} (hok : r.ok) (h : statesF r ≤ 3000) : ((mcS r).length : Int) = statesF r := by
 have h1 := needF_bd r hok
 have e : statesF r = needF r + 1 := adS_eq h (by unfold mxS; omega)
 rw [e] at h ⊢
 unfold mcS
 rw [lay_len r hok (by omega)]
 simp
 omega
end Go.Proofs.YthhnmpkgleelfaaGreatDoor
