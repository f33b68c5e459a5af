import Derived.Test.YthhnmpkgleelfaaGreatDoorM3
set_option linter.unusedVariables false
set_option linter.unusedSimpArgs false
namespace Go.Proofs.YthhnmpkgleelfaaGreatDoor
def Rx.ok : Rx → Prop
 | .chr c => isR c = true
 | .set cs => Gaps cs ∧ ∀ c ∈ cs, isR c = true
 | .cat a b => a.ok ∧ b.ok
 | .alt a b => a.ok ∧ b.ok
 | .rep x mn mx => x.ok ∧ 0 ≤ mn ∧ mn ≤ 1000 ∧ (mx = -1 ∨ (mn ≤ mx ∧ mx ≤ 1000))
 | _ => True
theorem EscC_isR {xs ys : List UInt8} {c : Int} (h : EscC xs c ys) : isR c = true := by
 cases h with
 | plain h => rename_i b; have := b.toNat_lt; simp [isR]; omega
 | u h h2 =>
  rename_i a b c d
  obtain ⟨h3, h4, h5, h6⟩ := h
  have k : ∀ b : UInt8, hexv b ≤ 15 := by intro b; unfold hexv; split <;> (try split) <;> (try split) <;> omega
  have := k a; have := k b; have := k c; have := k d
  unfold four at *
  simp [isR]; omega
 | uu h h2 h3 h4 =>
  rename_i a b c d a' b' c' d'
  simp [isR]; omega
 | _ => decide
theorem numF_nonneg : ∀ (xs : List UInt8) (n : Int), 0 ≤ n → 0 ≤ (numF n xs).1
 | [], n, h => h
 | b :: t, n, h => by
  unfold numF
  split
  ·rename_i hd
   refine numF_nonneg t _ ?_
   unfold isDig at hd
   simp at hd
   omega
  ·exact h
theorem Braces.ok {xs ys : List UInt8} {n m : Int} (h : Braces xs n m ys) : 0 ≤ n ∧ n ≤ 1000 ∧ (m = -1 ∨ (n ≤ m ∧ m ≤ 1000)) := by
 have h1 := numF_nonneg xs 0 (Int.le_refl _)
 cases h with
 | same h e hn => rw [e] at h1; exact ⟨h1, hn, .inr ⟨Int.le_refl _, hn⟩⟩
 | more h e hn => rw [e] at h1; exact ⟨h1, hn, .inl rfl⟩
 | upto h e h2 e2 hn hm => rw [e] at h1; exact ⟨h1, by omega, .inr ⟨hn, hm⟩⟩
theorem Quant.ok {xs ys : List UInt8} {n m : Int} (h : Quant xs n m ys) : 0 ≤ n ∧ n ≤ 1000 ∧ (m = -1 ∨ (n ≤ m ∧ m ≤ 1000)) := by
 cases h with
 | braces h => exact h.ok
 | _ => omega
theorem joinR_ok (op : Rx → Rx → Rx) (hop : ∀ a b, a.ok → b.ok → (op a b).ok) : ∀ (l : List Rx), (∀ r ∈ l, r.ok) → (joinR op l).ok
 | [], _ => trivial
 | [x], h => h x (by simp)
 | x :: y :: l, h => by
  rw [joinR_cons op x (by simp)]
  exact hop _ _ (h x (by simp)) (joinR_ok op hop (y :: l) (fun r hr => h r (List.mem_cons_of_mem _ hr)))
theorem cat_ok {l : List Rx} (h : ∀ r ∈ l, r.ok) : (joinR .cat l).ok := joinR_ok .cat (fun _ _ h k => ⟨h, k⟩) l h
theorem alt_ok {l : List Rx} (h : ∀ r ∈ l, r.ok) : (joinR .alt l).ok := joinR_ok .alt (fun _ _ h k => ⟨h, k⟩) l h
theorem nxR {xs : List UInt8} (h : 0 ≤ nx xs) : isR (nx xs) = true := by
 rcases nx_cases xs with ⟨_, h1, _⟩ | ⟨_, _, _, _, h1⟩ | ⟨_, _, h1, _⟩
 ·omega
 ·exact h1
 ·omega
mutual
theorem AltL.ok : ∀ {xs ys : List UInt8} {l : List Rx}, AltL xs l ys → ∀ r ∈ l, r.ok
 | _, _, _, .one h _ => by
  have h1 := cat_ok h.ok
  intro r hr
  rw [List.mem_singleton.1 hr]
  exact h1
 | _, _, _, .more h h2 => by
  have h1 := cat_ok h.ok
  have h3 := h2.ok
  intro r hr
  rcases List.mem_cons.1 hr with e | hr
  ·rw [e]; exact h1
  ·exact h3 r hr
theorem SeqL.ok : ∀ {xs ys : List UInt8} {l : List Rx}, SeqL xs l ys → ∀ r ∈ l, r.ok
 | _, _, _, .done _ => by simp
 | _, _, _, .more _ h h2 => by
  have h1 := h.ok
  have h3 := h2.ok
  intro r hr
  rcases List.mem_cons.1 hr with e | hr
  ·rw [e]; exact h1
  ·exact h3 r hr
theorem Piece.ok : ∀ {xs ys : List UInt8} {x : Rx}, Piece xs x ys → x.ok
 | _, _, _, .bare h _ => h.ok
 | _, _, _, .rep _ h h2 _ => ⟨h.ok, h2.ok⟩
theorem Atom.ok : ∀ {xs ys : List UInt8} {x : Rx}, Atom xs x ys → x.ok
 | _, _, _, .any => trivial
 | _, _, _, .beg => trivial
 | _, _, _, .fin => trivial
 | _, _, _, .group _ h => alt_ok h.ok
 | _, _, _, .group2 h => alt_ok h.ok
 | _, _, _, .cls _ _ hs => ⟨hs.gaps, hs.chars⟩
 | _, _, _, .classN _ hs => ⟨hs.gaps, hs.chars⟩
 | _, _, _, .escS _ hs => ⟨hs.gaps, hs.chars⟩
 | _, _, _, .escC h => EscC_isR h
 | _, _, _, .chr h0 _ _ => nxR h0
end
theorem Parsed.ok {xs : List UInt8} {r : Rx} (h : Parsed xs r) : r.ok := by
 obtain ⟨l, hl, rfl⟩ := h
 exact alt_ok hl.ok
def mxS : Int := 4611686018427387904
def adS (a b : Int) : Int := min (a + b) mxS
def muS (a b : Int) : Int := min (a * b) mxS
def needF : Rx → Int
 | .emp => 0
 | .cat a b => adS (needF a) (needF b)
 | .alt a b => adS (adS (needF a) (needF b)) 1
 | .rep x mn mx => if mx < 0 then adS (muS mn (needF x)) (adS (needF x) 1) else adS (muS mn (needF x)) (muS (mx - mn) (adS (needF x) 1))
 | _ => 1
def statesF (r : Rx) : Int := adS (needF r) 1
theorem adS_bd {a b : Int} (h : 0 ≤ a) (k : 0 ≤ b) : 0 ≤ adS a b ∧ adS a b ≤ mxS := by unfold adS mxS; omega
theorem muS_bd {a b : Int} (h : 0 ≤ a) (k : 0 ≤ b) : 0 ≤ muS a b ∧ muS a b ≤ mxS := by have := Int.mul_nonneg h k; unfold muS mxS; omega
theorem needF_bd : ∀ (r : Rx), r.ok → 0 ≤ needF r ∧ needF r ≤ mxS
 | .emp, _ => by unfold needF mxS; omega
 | .chr _, _ => by unfold needF mxS; omega
 | .any, _ => by unfold needF mxS; omega
 | .set _, _ => by unfold needF mxS; omega
 | .beg, _ => by unfold needF mxS; omega
 | .fin, _ => by unfold needF mxS; omega
 | .cat a b, h => adS_bd (needF_bd a h.1).1 (needF_bd b h.2).1
 | .alt a b, h => adS_bd (adS_bd (needF_bd a h.1).1 (needF_bd b h.2).1).1 (by omega)
 | .rep x mn mx, h => by
  have h1 := needF_bd x h.1
  have h2 := h.2
  unfold needF
  split
  ·exact adS_bd (muS_bd h2.1 h1.1).1 (adS_bd h1.1 (by omega)).1
  ·exact adS_bd (muS_bd h2.1 h1.1).1 (muS_bd (by omega) (adS_bd h1.1 (by omega)).1).1
def SubAt (ys : List Ex) (p : Nat) (r : Rx) : Prop := ∀ i x, (r.flat p)[i]? = some x → ys[p + i]? = some x
theorem SubAt.whole (r : Rx) : SubAt (r.flat 0) 0 r := fun i x h => by rw [Nat.zero_add]; exact h
theorem SubAt.cat {ys : List Ex} {p : Nat} {a b : Rx} (h : SubAt ys p (.cat a b)) : ys[p]? = some ⟨7, 0, noB, (p + 1 : Nat), (p + 1 + a.size : Nat), 0, 0⟩ ∧ SubAt ys (p + 1) a ∧ SubAt ys (p + 1 + a.size) b := by
 refine ⟨h 0 _ rfl, fun i x hi => ?_, fun i x hi => ?_⟩
 ·have := h (i + 1) x (by simp only [Rx.flat, List.getElem?_cons_succ]; rw [List.getElem?_append_left (List.getElem?_eq_some_iff.1 hi).1]; exact hi)
  rwa [show p + (i + 1) = p + 1 + i by omega] at this
 ·have := h (i + a.size + 1) x (by simp only [Rx.flat, List.getElem?_cons_succ]; rw [List.getElem?_append_right (by rw [a.flat_len]; omega), a.flat_len, Nat.add_sub_cancel]; exact hi)
  rwa [show p + (i + a.size + 1) = p + 1 + a.size + i by omega] at this
theorem SubAt.alt {ys : List Ex} {p : Nat} {a b : Rx} (h : SubAt ys p (.alt a b)) : ys[p]? = some ⟨8, 0, noB, (p + 1 : Nat), (p + 1 + a.size : Nat), 0, 0⟩ ∧ SubAt ys (p + 1) a ∧ SubAt ys (p + 1 + a.size) b := by
 refine ⟨h 0 _ rfl, fun i x hi => ?_, fun i x hi => ?_⟩
 ·have := h (i + 1) x (by simp only [Rx.flat, List.getElem?_cons_succ]; rw [List.getElem?_append_left (List.getElem?_eq_some_iff.1 hi).1]; exact hi)
  rwa [show p + (i + 1) = p + 1 + i by omega] at this
 ·have := h (i + a.size + 1) x (by simp only [Rx.flat, List.getElem?_cons_succ]; rw [List.getElem?_append_right (by rw [a.flat_len]; omega), a.flat_len, Nat.add_sub_cancel]; exact hi)
  rwa [show p + (i + a.size + 1) = p + 1 + a.size + i by omega] at this
theorem SubAt.rep {ys : List Ex} {p : Nat} {a : Rx} {mn mx : Int} (h : SubAt ys p (.rep a mn mx)) : ys[p]? = some ⟨9, 0, noB, (p + 1 : Nat), 0, mn, mx⟩ ∧ SubAt ys (p + 1) a := by
 refine ⟨h 0 _ rfl, fun i x hi => ?_⟩
 have := h (i + 1) x (by simp only [Rx.flat, List.getElem?_cons_succ]; exact hi)
 rwa [show p + (i + 1) = p + 1 + i by omega] at this
def runesF (bad : UInt8 → Int) : Nat → List UInt8 → List Int
 | 0, _ => []
 | _ + 1, [] => []
 | f + 1, x :: t => if (dec (x :: t)).2.2 = 0 then ((dec (x :: t)).1 : Int) :: runesF bad f ((x :: t).drop (dec (x :: t)).2.1) else bad x :: runesF bad f t
def runes (bad : UInt8 → Int) (xs : List UInt8) : List Int := runesF bad xs.length xs
theorem runesF_eq (bad : UInt8 → Int) : ∀ (f g : Nat) (xs : List UInt8), xs.length ≤ f → xs.length ≤ g → runesF bad f xs = runesF bad g xs
 | 0, g, xs, h, _ => by
  obtain rfl : xs = [] := List.eq_nil_of_length_eq_zero (by omega)
  cases g <;> rfl
 | f + 1, g, [], _, _ => by cases g <;> rfl
 | f + 1, 0, x :: t, _, h => by simp at h
 | f + 1, g + 1, x :: t, h1, h2 => by
  simp only [List.length_cons] at h1 h2
  unfold runesF
  split
  ·rename_i h
   have hp := dec_pos h
   rw [runesF_eq bad f g _ (by rw [List.length_drop, List.length_cons]; omega) (by rw [List.length_drop, List.length_cons]; omega)]
  ·rw [runesF_eq bad f g t (by omega) (by omega)]
theorem runes_nil (bad : UInt8 → Int) : runes bad [] = [] := rfl
theorem runes_good {bad : UInt8 → Int} {xs : List UInt8} (h0 : xs ≠ []) (h : (dec xs).2.2 = 0) : runes bad xs = ((dec xs).1 : Int) :: runes bad (xs.drop (dec xs).2.1) := by
 cases xs with
 | nil => exact absurd rfl h0
 | cons x t =>
  have hp := dec_pos h
  unfold runes
  rw [List.length_cons, runesF, if_pos h, runesF_eq bad t.length _ _ (by rw [List.length_drop, List.length_cons]; omega) (Nat.le_refl _)]
theorem runes_bad {bad : UInt8 → Int} {x : UInt8} {t : List UInt8} (h : (dec (x :: t)).2.2 ≠ 0) : runes bad (x :: t) = bad x :: runes bad t := by
 unfold runes
 rw [List.length_cons, runesF, if_neg h]
theorem runes_utf8 (bad : UInt8 → Int) : ∀ {cs : List Int}, (∀ c ∈ cs, isR c = true) → runes bad (cs.flatMap frm) = cs
 | [], _ => rfl
 | c :: cs, h => by
  have hc := h c (by simp)
  have h0 := isR_pos hc
  obtain ⟨n, rfl⟩ : ∃ n : Nat, c = n := ⟨c.toNat, by omega⟩
  have hd := dec_of_frm n hc (cs.flatMap frm)
  rw [List.flatMap_cons, runes_good (by simp [frm_ne hc]) (by rw [hd]), hd]
  simp only [List.drop_left]
  rw [runes_utf8 bad (fun c hm => h c (List.mem_cons_of_mem _ hm))]
def badR (_ : UInt8) : Int := -1
theorem runes_len (bad : UInt8 → Int) : ∀ (n : Nat) (xs : List UInt8), xs.length ≤ n → (runes bad xs).length ≤ xs.length
 | _, [], _ => by simp [runes_nil]
 | 0, x :: t, h => by simp at h
 | n + 1, x :: t, h => by
  simp only [List.length_cons] at h
  by_cases hd : (dec (x :: t)).2.2 = 0
  ·have hp := dec_pos hd
   rw [runes_good (by simp) hd, List.length_cons]
   have := runes_len bad n ((x :: t).drop (dec (x :: t)).2.1) (by rw [List.length_drop, List.length_cons]; omega)
   rw [List.length_drop, List.length_cons] at this
   rw [List.length_cons]
   omega
  ·rw [runes_bad hd, List.length_cons, List.length_cons]
   have := runes_len bad n t (by omega)
   omega
def inB : List Int → Int → Bool
 | a :: b :: l, c => (decide (a ≤ c) && decide (c ≤ b)) || inB l c
 | _, _ => false
def atomT : Rx → Int → Bool
 | .chr d, c => decide (0 ≤ c) && decide (d = c)
 | .any, c => decide (0 ≤ c) && (decide (c ≠ 10) && decide (c ≠ 13) && decide (c ≠ 8232) && decide (c ≠ 8233))
 | .set cs, c => decide (0 ≤ c) && inB cs c
 | _, _ => false
theorem Gaps.even : ∀ (n : Nat) (l : List Int), l.length ≤ n → Gaps l → l.length % 2 = 0
 | _, [], _, _ => rfl
 | _, [_], _, h => h.elim
 | _, [_, _], _, _ => by simp
 | 0, _ :: _ :: _ :: _, h, _ => by simp at h
 | n + 1, a :: b :: c :: l, hn, h => by
  have := Gaps.even n (c :: l) (by simp only [List.length_cons] at hn ⊢; omega) h.2.2
  simp only [List.length_cons] at this ⊢
  omega
theorem Gaps.count : ∀ (n : Nat) (l : List Int) (lo : Int), l.length ≤ n → Gaps l → (∀ c ∈ l, lo ≤ c ∧ c ≤ 1114111) → lo ≤ 1114112 → (l.length : Int) ≤ 1114114 - lo
 | _, [], _, _, _, _, _ => by simp; omega
 | _, [_], _, _, h, _, _ => h.elim
 | _, [a, b], _, _, _, h, _ => by have := h a (by simp); simp; omega
 | 0, _ :: _ :: _ :: _, _, h, _, _, _ => by simp at h
 | n + 1, a :: b :: c :: l, lo, hn, h, hb, hlo => by
  have h1 := h.1
  have h2 := h.2.1
  have ha := hb a (by simp)
  have hbb := hb b (by simp)
  have hsorted : ∀ (m : Nat) (l : List Int) (a : Int), l.length ≤ m → Gaps (a :: l) → ∀ x ∈ a :: l, a ≤ x := by
   intro m
   induction m with
   | zero => intro l a h1 h2; obtain rfl : l = [] := List.eq_nil_of_length_eq_zero (by omega); exact h2.elim
   | succ m ih =>
    intro l a h1 h2 x hx
    match l, h1, h2, hx with
    | [], _, h2, _ => exact h2.elim
    | [b], _, h2, hx =>
     have : a ≤ b := h2
     simp at hx; omega
    | b :: c :: l, h1, h2, hx =>
     have e1 := h2.1
     have e2 := h2.2.1
     simp only [List.mem_cons] at hx
     rcases hx with rfl | rfl | hx
     ·exact Int.le_refl _
     ·exact e1
     ·have := ih l c (by simp only [List.length_cons] at h1; omega) h2.2.2 x (by simpa using hx)
      omega
  have hs := hsorted l.length l c (Nat.le_refl _) h.2.2
  have := Gaps.count n (c :: l) (b + 2) (by simp only [List.length_cons] at hn ⊢; omega) h.2.2 (fun x hx => ⟨by have := hs x hx; omega, (hb x (by simp only [List.mem_cons] at hx ⊢; exact .inr (.inr hx))).2⟩) (by have := hb c (by simp); omega)
  simp only [List.length_cons] at this ⊢
  push_cast at this ⊢
  omega
theorem rng_size {cs : List Int} (h : Gaps cs) (hc : ∀ c ∈ cs, isR c = true) : (rngB cs).size ≤ 10000000 ∧ cs.length % 2 = 0 ∧ cs.length ≤ 1200000 := by
 have h1 := Gaps.count cs.length cs 0 (Nat.le_refl _) h (fun c hm => by have := hc c hm; simp [isR] at this; omega) (by omega)
 have key : ∀ l : List Int, (l.flatMap frm).length ≤ 4 * l.length := by
  intro l
  induction l with
  | nil => simp
  | cons x l ih =>
   have : (frm x).length ≤ 4 := by
    unfold frm
    split
    ·split
     ·simp
     ·split
      ·simp
      ·split <;> simp
    ·simp
   rw [List.flatMap_cons, List.length_append, List.length_cons]; omega
 have h2 := key cs
 refine ⟨?_, Gaps.even cs.length cs (Nat.le_refl _) h, by omega⟩
 show (cs.flatMap frm).toArray.size ≤ _
 rw [List.size_toArray]
 omega
def Pw (R : Nat → Nat → Prop) : Nat → Nat → Nat → Prop
 | 0, i, j => i = j
 | m + 1, i, j => ∃ k, Pw R m i k ∧ R k j
def Mt (s : List Int) : Rx → Nat → Nat → Prop
 | .emp, i, j => i = j
 | .chr d, i, j => j = i + 1 ∧ ∃ c, s[i]? = some c ∧ atomT (.chr d) c = true
 | .any, i, j => j = i + 1 ∧ ∃ c, s[i]? = some c ∧ atomT .any c = true
 | .set cs, i, j => j = i + 1 ∧ ∃ c, s[i]? = some c ∧ atomT (.set cs) c = true
 | .beg, i, j => i = 0 ∧ j = 0
 | .fin, i, j => i = s.length ∧ j = s.length
 | .cat a b, i, j => ∃ k, Mt s a i k ∧ Mt s b k j
 | .alt a b, i, j => Mt s a i j ∨ Mt s b i j
 | .rep x mn mx, i, j => ∃ m : Nat, mn ≤ m ∧ (mx < 0 ∨ (m : Int) ≤ mx) ∧ Pw (Mt s x) m i j
def Img (R : Nat → Nat → Prop) (x y : List Bool) : Prop := y.length = x.length ∧ ∀ j, y[j]? = some true ↔ ∃ i, x[i]? = some true ∧ R i j
theorem Img.id (x : List Bool) : Img (fun i j => i = j) x x := ⟨rfl, fun j => ⟨fun h => ⟨j, h, rfl⟩, fun ⟨i, h, e⟩ => by rw [← e]; exact h⟩⟩
theorem Img.comp {R S : Nat → Nat → Prop} {x y z : List Bool} (h : Img R x y) (k : Img S y z) : Img (fun i j => ∃ m, R i m ∧ S m j) x z := by
 refine ⟨k.1.trans h.1, fun j => ?_⟩
 rw [k.2]
 constructor
 ·rintro ⟨m, hm, hs⟩
  obtain ⟨i, hi, hr⟩ := (h.2 m).1 hm
  exact ⟨i, hi, m, hr, hs⟩
 ·rintro ⟨i, hi, m, hr, hs⟩
  exact ⟨m, (h.2 m).2 ⟨i, hi, hr⟩, hs⟩
theorem Img.wk {R S : Nat → Nat → Prop} {x y : List Bool} (h : Img R x y) (e : ∀ i j, R i j ↔ S i j) : Img S x y := ⟨h.1, fun j => by rw [h.2]; simp only [e]⟩
theorem bools_ext {x y : List Bool} (hl : x.length = y.length) (h : ∀ j : Nat, x[j]? = some true ↔ y[j]? = some true) : x = y := by
 apply List.ext_getElem?
 intro j
 by_cases hj : j < x.length
 ·obtain ⟨a, ha⟩ : ∃ a, x[j]? = some a := ⟨_, List.getElem?_eq_getElem hj⟩
  obtain ⟨b, hb⟩ : ∃ b, y[j]? = some b := ⟨_, List.getElem?_eq_getElem (by omega)⟩
  have := h j
  rw [ha, hb] at this ⊢
  cases a <;> cases b <;> simp at this ⊢
 ·have h1 : x[j]? = none := by simp; omega
  have h2 : y[j]? = none := by simp; omega
  rw [h1, h2]
theorem Pw.stay {R : Nat → Nat → Prop} {x y : List Bool} {i : Nat} (h : Img (Pw R i) x y) (k : Img R y y) : ∀ d, Img (Pw R (i + d)) x y
 | 0 => h
 | d + 1 => (Pw.stay h k d).comp k
theorem EscC.uniq {xs ys zs : List UInt8} {c d : Int} (h : EscC xs c ys) (k : EscC xs d zs) : c = d ∧ ys = zs := by
 cases h <;> cases k <;> first
  | exact ⟨rfl, rfl⟩
  | (exfalso; rename_i h; revert h; decide)
  | (exfalso; rename_i h _ _; revert h; decide)
  | (exfalso; rename_i h _ _ _ _; revert h; decide)
  | (exfalso; omega)
theorem EscS.uniq {xs ys zs : List UInt8} {l m : Spans} (h : EscS xs l ys) (k : EscS xs m zs) : l = m ∧ ys = zs := by
 cases h <;> cases k <;> exact ⟨rfl, rfl⟩
theorem EscC.not {xs ys zs : List UInt8} {c : Int} {l : Spans} (h : EscC xs c ys) (k : EscS xs l zs) : False := by
 cases k <;> cases h <;> (rename_i h; revert h; decide)
theorem Single.uniq {f : Bool} {xs ys zs : List UInt8} {c d : Int} (h : Single f xs c ys) (k : Single f xs d zs) : c = d ∧ ys = zs := by
 cases h with
 | esc h =>
  cases k with
  | esc k => exact h.uniq k
  | chr h0 h1 => rw [nx_lit _ _ (by decide)] at h1; exact absurd rfl h1
 | dash h =>
  cases k with
  | dash k => exact ⟨rfl, rfl⟩
  | chr h0 h1 h2 h3 => rw [nx_lit _ _ (by decide)] at h3; exact absurd rfl h3
 | dash1 =>
  cases k with
  | dash1 => exact ⟨rfl, rfl⟩
  | chr h0 h1 h2 h3 => rw [nx_lit _ _ (by decide)] at h3; exact absurd rfl h3
 | chr h0 h1 h2 h3 =>
  cases k with
  | esc k => rw [nx_lit _ _ (by decide)] at h1; exact absurd rfl h1
  | dash k => rw [nx_lit _ _ (by decide)] at h3; exact absurd rfl h3
  | dash1 => rw [nx_lit _ _ (by decide)] at h3; exact absurd rfl h3
  | chr => exact ⟨rfl, rfl⟩
theorem Single.not {f : Bool} {t ys zs : List UInt8} {c : Int} {l : Spans} (h : Single f (92 :: t) c ys) (k : EscS t l zs) : False := by
 cases h with
 | esc h => exact h.not k
 | chr h0 h1 => rw [nx_lit _ _ (by decide)] at h1; exact absurd rfl h1
theorem Item.uniq {f : Bool} {xs ys zs : List UInt8} {l m : Spans} (h : Item f xs l ys) (k : Item f xs m zs) : l = m ∧ ys = zs := by
 cases h with
 | cls h =>
  cases k with
  | cls k => exact h.uniq k
  | one k => exact (k.not h).elim
  | two k => exact (k.not h).elim
 | one h h2 =>
  cases k with
  | cls k => exact (h.not k).elim
  | one k => obtain ⟨rfl, rfl⟩ := h.uniq k; exact ⟨rfl, rfl⟩
  | two k k2 => obtain ⟨_, rfl⟩ := h.uniq k; exact absurd k2 h2
 | two h h2 h3 h4 =>
  cases k with
  | cls k => exact (h.not k).elim
  | one k k2 => obtain ⟨_, rfl⟩ := h.uniq k; exact absurd h2 k2
  | two k k2 k3 k4 =>
   obtain ⟨rfl, e⟩ := h.uniq k
   injection e with _ e
   subst e
   obtain ⟨rfl, rfl⟩ := h3.uniq k3
   exact ⟨rfl, rfl⟩
theorem Items.uniq {f : Bool} {xs ys : List UInt8} {l : Spans} (h : Items f xs l ys) : ∀ {zs : List UInt8} {m : Spans}, Items f xs m zs → l = m ∧ ys = zs := by
 induction h with
 | done =>
  intro zs m k
  cases k with
  | done => exact ⟨rfl, rfl⟩
  | more h0 => rw [nx_lit _ _ (by decide)] at h0; exact absurd rfl h0
 | more h0 h h2 ih =>
  intro zs m k
  cases k with
  | done => rw [nx_lit _ _ (by decide)] at h0; exact absurd rfl h0
  | more k0 k k2 =>
   obtain ⟨rfl, rfl⟩ := h.uniq k
   obtain ⟨rfl, rfl⟩ := ih k2
   exact ⟨rfl, rfl⟩
theorem hasDig_cons' (b : UInt8) (t : List UInt8) : hasDig (b :: t) = isDig b := rfl
theorem Braces.uniq {xs ys zs : List UInt8} {n m n' m' : Int} (h : Braces xs n m ys) (k : Braces xs n' m' zs) : n = n' ∧ m = m' ∧ ys = zs := by
 cases h with
 | same h e hn =>
  cases k with
  | same k e' hn' => rw [e] at e'; injection e' with e1 e2; injection e2 with _ e2; exact ⟨e1, e1, e2⟩
  | more k e' hn' => rw [e] at e'; injection e' with e1 e2; injection e2 with e2 _; exact absurd e2 (by decide)
  | upto k e' k2 e2' hn' hm' => rw [e] at e'; injection e' with e1 e2; injection e2 with e2 _; exact absurd e2 (by decide)
 | more h e hn =>
  cases k with
  | same k e' hn' => rw [e] at e'; injection e' with e1 e2; injection e2 with e2 _; exact absurd e2 (by decide)
  | more k e' hn' => rw [e] at e'; injection e' with e1 e2; injection e2 with _ e2; injection e2 with _ e2; exact ⟨e1, rfl, e2⟩
  | upto k e' k2 e2' hn' hm' => rw [e] at e'; injection e' with e1 e2; injection e2 with _ e2; rw [← e2] at k2; rw [hasDig_cons'] at k2; exact absurd k2 (by decide)
 | upto h e h2 e2 hn hm =>
  cases k with
  | same k e' hn' => rw [e] at e'; injection e' with e1 e3; injection e3 with e3 _; exact absurd e3 (by decide)
  | more k e' hn' => rw [e] at e'; injection e' with e1 e3; injection e3 with _ e3; rw [e3] at h2; rw [hasDig_cons'] at h2; exact absurd h2 (by decide)
  | upto k e' k2 e2' hn' hm' =>
   rw [e] at e'; injection e' with e1 e3; injection e3 with _ e3
   subst e3
   rw [e2] at e2'; injection e2' with e4 e5; injection e5 with _ e5
   exact ⟨e1, e4, e5⟩
theorem Quant.uniq {xs ys zs : List UInt8} {n m n' m' : Int} (h : Quant xs n m ys) (k : Quant xs n' m' zs) : n = n' ∧ m = m' ∧ ys = zs := by
 cases h with
 | braces h => cases k with | braces k => exact h.uniq k
 | _ => cases k; exact ⟨rfl, rfl, rfl⟩
theorem Quant.rpt {xs ys : List UInt8} {n m : Int} (h : Quant xs n m ys) : rptB (nx xs) = true := by
 cases h <;> (rw [nx_lit _ _ (by decide)]; decide)
mutual
theorem AltL.uniq : ∀ {xs ys : List UInt8} {l : List Rx}, AltL xs l ys → ∀ {zs : List UInt8} {m : List Rx}, AltL xs m zs → l = m ∧ ys = zs
 | _, _, _, .one h h2 => by
  have ih := @SeqL.uniq _ _ _ h
  intro k
  cases k with
  | one k k2 => obtain ⟨rfl, rfl⟩ := ih k; exact ⟨rfl, rfl⟩
  | more k k2 => obtain ⟨_, e⟩ := ih k; rw [e, nx_lit _ _ (by decide)] at h2; exact absurd rfl h2
 | _, _, _, .more h h2 => by
  have ih := @SeqL.uniq _ _ _ h
  have ih2 := @AltL.uniq _ _ _ h2
  intro k
  cases k with
  | one k k2 => obtain ⟨_, e⟩ := ih k; rw [← e, nx_lit _ _ (by decide)] at k2; exact absurd rfl k2
  | more k k2 =>
   obtain ⟨rfl, e⟩ := ih k
   injection e with _ e
   subst e
   obtain ⟨rfl, rfl⟩ := ih2 k2
   exact ⟨rfl, rfl⟩
theorem SeqL.uniq : ∀ {xs ys : List UInt8} {l : List Rx}, SeqL xs l ys → ∀ {zs : List UInt8} {m : List Rx}, SeqL xs m zs → l = m ∧ ys = zs
 | _, _, _, .done h => by
  intro k
  cases k with
  | done => exact ⟨rfl, rfl⟩
  | more h0 => omega
 | _, _, _, .more h0 h h2 => by
  have ih := @Piece.uniq _ _ _ h
  have ih2 := @SeqL.uniq _ _ _ h2
  intro k
  cases k with
  | done h => omega
  | more k0 k k2 =>
   obtain ⟨rfl, rfl⟩ := ih k
   obtain ⟨rfl, rfl⟩ := ih2 k2
   exact ⟨rfl, rfl⟩
theorem Piece.uniq : ∀ {xs ys : List UInt8} {x : Rx}, Piece xs x ys → ∀ {zs : List UInt8} {y : Rx}, Piece xs y zs → x = y ∧ ys = zs
 | _, _, _, .bare h h2 => by
  have ih := @Atom.uniq _ _ _ h
  intro k
  cases k with
  | bare k k2 => exact ih k
  | rep k0 k k2 k3 => obtain ⟨_, rfl⟩ := ih k; rw [k2.rpt] at h2; cases h2
 | _, _, _, .rep h0 h h2 h3 => by
  have ih := @Atom.uniq _ _ _ h
  intro k
  cases k with
  | bare k k2 => obtain ⟨_, rfl⟩ := ih k; rw [h2.rpt] at k2; cases k2
  | rep k0 k k2 k3 =>
   obtain ⟨rfl, rfl⟩ := ih k
   obtain ⟨rfl, rfl, rfl⟩ := h2.uniq k2
   exact ⟨rfl, rfl⟩
theorem Atom.uniq : ∀ {xs ys : List UInt8} {x : Rx}, Atom xs x ys → ∀ {zs : List UInt8} {y : Rx}, Atom xs y zs → x = y ∧ ys = zs
 | _, _, _, .any => by
  intro k
  cases k with
  | any => exact ⟨rfl, rfl⟩
  | chr h0 h1 h2 => rw [nx_lit _ _ (by decide)] at h2; exact absurd rfl h2.1
 | _, _, _, .beg => by
  intro k
  cases k with
  | beg => exact ⟨rfl, rfl⟩
  | chr h0 h1 h2 => rw [nx_lit _ _ (by decide)] at h2; exact absurd rfl h2.2.1
 | _, _, _, .fin => by
  intro k
  cases k with
  | fin => exact ⟨rfl, rfl⟩
  | chr h0 h1 h2 => rw [nx_lit _ _ (by decide)] at h2; exact absurd rfl h2.2.2.1
 | _, _, _, .group h0 h => by
  have ih := @AltL.uniq _ _ _ h
  intro k
  cases k with
  | group k0 k => obtain ⟨rfl, e⟩ := ih k; injection e with _ e; exact ⟨rfl, e⟩
  | group2 k => rw [nx_lit _ _ (by decide)] at h0; exact absurd rfl h0
  | chr h0 h1 h2 => rw [nx_lit _ _ (by decide)] at h2; exact absurd rfl h2.2.2.2.1
 | _, _, _, .group2 h => by
  have ih := @AltL.uniq _ _ _ h
  intro k
  cases k with
  | group k0 k => rw [nx_lit _ _ (by decide)] at k0; exact absurd rfl k0
  | group2 k => obtain ⟨rfl, e⟩ := ih k; injection e with _ e; exact ⟨rfl, e⟩
  | chr h0 h1 h2 => rw [nx_lit _ _ (by decide)] at h2; exact absurd rfl h2.2.2.2.1
 | _, _, _, .cls h0 h hs => by
  intro k
  cases k with
  | cls k0 k ks => obtain ⟨rfl, rfl⟩ := h.uniq k; rw [hs.uniq ks]; exact ⟨rfl, rfl⟩
  | classN k ks => rw [nx_lit _ _ (by decide)] at h0; exact absurd rfl h0
  | chr h0 h1 h2 => rw [nx_lit _ _ (by decide)] at h2; exact absurd rfl h2.2.2.2.2.1
 | _, _, _, .classN h hs => by
  intro k
  cases k with
  | cls k0 k ks => rw [nx_lit _ _ (by decide)] at k0; exact absurd rfl k0
  | classN k ks => obtain ⟨rfl, rfl⟩ := h.uniq k; rw [hs.uniq ks]; exact ⟨rfl, rfl⟩
  | chr h0 h1 h2 => rw [nx_lit _ _ (by decide)] at h2; exact absurd rfl h2.2.2.2.2.1
 | _, _, _, .escS h hs => by
  intro k
  cases k with
  | escS k ks => obtain ⟨rfl, rfl⟩ := h.uniq k; rw [hs.uniq ks]; exact ⟨rfl, rfl⟩
  | escC k => exact (k.not h).elim
  | chr h0 h1 h2 => rw [nx_lit _ _ (by decide)] at h2; exact absurd rfl h2.2.2.2.2.2
 | _, _, _, .escC h => by
  intro k
  cases k with
  | escS k ks => exact (h.not k).elim
  | escC k => obtain ⟨rfl, rfl⟩ := h.uniq k; exact ⟨rfl, rfl⟩
  | chr h0 h1 h2 => rw [nx_lit _ _ (by decide)] at h2; exact absurd rfl h2.2.2.2.2.2
 | xs, _, _, .chr h0 h1 h2 => by
  intro k
  cases k with
  | chr => exact ⟨rfl, rfl⟩
  | any => rw [nx_lit _ _ (by decide)] at h2; exact absurd rfl h2.1
  | beg => rw [nx_lit _ _ (by decide)] at h2; exact absurd rfl h2.2.1
  | fin => rw [nx_lit _ _ (by decide)] at h2; exact absurd rfl h2.2.2.1
  | group => rw [nx_lit _ _ (by decide)] at h2; exact absurd rfl h2.2.2.2.1
  | group2 => rw [nx_lit _ _ (by decide)] at h2; exact absurd rfl h2.2.2.2.1
  | cls => rw [nx_lit _ _ (by decide)] at h2; exact absurd rfl h2.2.2.2.2.1
  | classN => rw [nx_lit _ _ (by decide)] at h2; exact absurd rfl h2.2.2.2.2.1
  | escS => rw [nx_lit _ _ (by decide)] at h2; exact absurd rfl h2.2.2.2.2.2
  | escC => rw [nx_lit _ _ (by decide)] at h2; exact absurd rfl h2.2.2.2.2.2
end
theorem Parsed.uniq {xs : List UInt8} {r q : Rx} (h : Parsed xs r) (k : Parsed xs q) : r = q := by
 obtain ⟨l, hl, rfl⟩ := h
 obtain ⟨m, hm, rfl⟩ := k
 rw [(hl.uniq hm).1]
def NF (low : Bool) (t : List UInt8) : Prop := ∀ a b c d u, t = a :: b :: c :: d :: u → allHex a b c d → (low = true → ¬ (56320 ≤ four a b c d ∧ four a b c d < 57344)) ∧ (low = false → 56320 ≤ four a b c d ∧ four a b c d < 57344)
def NoEscC (t : List UInt8) : Prop := ∀ z ys, ¬ EscC t z ys
def NoEscS (t : List UInt8) : Prop := ∀ L ys, ¬ EscS t L ys
def NoSgl (f : Bool) (t : List UInt8) : Prop := ∀ z ys, ¬ Single f t z ys
def NoItem (f : Bool) (t : List UInt8) : Prop := ∀ L ys, ¬ Item f t L ys
def NoItems (f : Bool) (t : List UInt8) : Prop := ∀ L ys, ¬ Items f t L ys
def NoBr (t : List UInt8) : Prop := ∀ n m ys, ¬ Braces t n m ys
def NoAtom (t : List UInt8) : Prop := ∀ r ys, ¬ Atom t r ys
def NoPiece (t : List UInt8) : Prop := ∀ r ys, ¬ Piece t r ys
def NoSeq (t : List UInt8) : Prop := ∀ l ys, ¬ SeqL t l ys
def NoAlt (t : List UInt8) : Prop := ∀ l ys, ¬ AltL t l ys
def NoGrp (t : List UInt8) : Prop := ∀ l ys, ¬ AltL t l (41 :: ys)
theorem noesc_four {t : List UInt8} (h : NF false t) : NoEscC (117 :: t) := by
 intro z ys k
 cases k with
 | plain h' => revert h'; decide
 | u hh h2 => have := (h _ _ _ _ _ rfl hh).2 rfl; omega
 | uu hh h2 h3 h4 => have := (h _ _ _ _ _ rfl hh).2 rfl; omega
theorem noesc_pair {a b c d : UInt8} {u : List UInt8} (h2 : 55296 ≤ four a b c d ∧ four a b c d < 56320) (h : nx u ≠ 92 ∨ nx (u.drop 1) ≠ 117 ∨ NF true (u.drop 2)) : NoEscC (117 :: a :: b :: c :: d :: u) := by
 intro z ys k
 cases k with
 | plain h' => revert h'; decide
 | u hh h2 => omega
 | uu hh h2 h3 h4 =>
  rcases h with h | h | h
  ·rw [nx_lit _ _ (by decide)] at h; exact h rfl
  ·rw [List.drop_succ_cons, List.drop_zero, nx_lit _ _ (by decide)] at h; exact h rfl
  ·exact (h _ _ _ _ _ rfl h3).1 rfl h4
theorem special_lt' : ∀ b ∈ special, b.toNat < 128 := by decide
theorem noesc_none {t : List UInt8} (hs : ∀ b ∈ special, (b.toNat : Int) ≠ nx t) (h : nx t ≠ 116 ∧ nx t ≠ 110 ∧ nx t ≠ 118 ∧ nx t ≠ 102 ∧ nx t ≠ 114 ∧ nx t ≠ 117) : NoEscC t := by
 obtain ⟨h1, h2, h3, h4, h5, h6⟩ := h
 intro z ys k
 cases k with
 | plain h' => exact hs _ h' (nx_ascii _ _ (special_lt' _ h')).1.symm
 | t => rw [nx_lit _ _ (by decide)] at h1; exact h1 rfl
 | n => rw [nx_lit _ _ (by decide)] at h2; exact h2 rfl
 | v => rw [nx_lit _ _ (by decide)] at h3; exact h3 rfl
 | f => rw [nx_lit _ _ (by decide)] at h4; exact h4 rfl
 | r => rw [nx_lit _ _ (by decide)] at h5; exact h5 rfl
 | u => rw [nx_lit _ _ (by decide)] at h6; exact h6 rfl
 | uu => rw [nx_lit _ _ (by decide)] at h6; exact h6 rfl
theorem nocls_none {t : List UInt8} (h : nx t ≠ 100 ∧ nx t ≠ 119 ∧ nx t ≠ 115 ∧ nx t ≠ 68 ∧ nx t ≠ 87 ∧ nx t ≠ 83) : NoEscS t := by
 obtain ⟨h1, h2, h3, h4, h5, h6⟩ := h
 intro z ys k
 cases k with
 | d => rw [nx_lit _ _ (by decide)] at h1; exact h1 rfl
 | w => rw [nx_lit _ _ (by decide)] at h2; exact h2 rfl
 | s => rw [nx_lit _ _ (by decide)] at h3; exact h3 rfl
 | D => rw [nx_lit _ _ (by decide)] at h4; exact h4 rfl
 | W => rw [nx_lit _ _ (by decide)] at h5; exact h5 rfl
 | S => rw [nx_lit _ _ (by decide)] at h6; exact h6 rfl
theorem nocls_u {t : List UInt8} : NoEscS (117 :: t) := by intro L ys k; cases k
theorem nosgl_dash {t : List UInt8} (h : nx t ≠ 93) : NoSgl false (45 :: t) := by
 intro z ys k
 cases k with
 | dash h' => exact h h'
 | chr h0 h1 h2 h3 => rw [nx_lit _ _ (by decide)] at h3; exact h3 rfl
theorem nosgl_neg {f : Bool} {t : List UInt8} (h : nx t < 0) : NoSgl f t := by
 intro z ys k
 cases k with
 | esc h' => rw [nx_lit _ _ (by decide)] at h; exact absurd h (by decide)
 | dash h' => rw [nx_lit _ _ (by decide)] at h; exact absurd h (by decide)
 | dash1 => rw [nx_lit _ _ (by decide)] at h; exact absurd h (by decide)
 | chr h0 h1 h2 h3 => omega
theorem nosgl_esc {f : Bool} {t : List UInt8} (h : NoEscC t) : NoSgl f (92 :: t) := by
 intro z ys k
 cases k with
 | esc h' => exact h _ _ h'
 | chr h0 h1 h2 h3 => rw [nx_lit _ _ (by decide)] at h1; exact h1 rfl
theorem nosgl_cls {f : Bool} {t ys : List UInt8} {L : Spans} (h : EscS t L ys) : NoSgl f (92 :: t) := fun _ _ k => k.not h
theorem noitem_of {f : Bool} {t : List UInt8} (h : NoSgl f t) (h2 : ∀ u, t = 92 :: u → NoEscS u) : NoItem f t := by
 intro L ys k
 cases k with
 | cls k => exact h2 _ rfl _ _ k
 | one k => exact h _ _ k
 | two k => exact h _ _ k
theorem noitem_neg {f : Bool} {t : List UInt8} (h : nx t < 0) : NoItem f t := noitem_of (nosgl_neg h) fun u e => by
 rw [e, nx_lit _ _ (by decide)] at h; exact absurd h (by decide)
theorem noitem_dash {t : List UInt8} (h : nx t ≠ 93) : NoItem false (45 :: t) := noitem_of (nosgl_dash h) fun u e => by
 injection e with e _; exact absurd e (by decide)
theorem noitem_esc {f : Bool} {t : List UInt8} (h : NoEscC t) (h2 : NoEscS t) : NoItem f (92 :: t) := noitem_of (nosgl_esc h) fun u e => by
 injection e with _ e; rw [← e]; exact h2
theorem noitem_two {f : Bool} {t ys : List UInt8} {c : Int} (h : Single f t c (45 :: ys)) (h2 : ranges (45 :: ys)) (h3 : NoSgl false ys ∨ ∃ d zs, Single false ys d zs ∧ d < c) : NoItem f t := by
 intro L zs k
 cases k with
 | cls k => exact h.not k
 | one k k2 => obtain ⟨_, rfl⟩ := h.uniq k; exact k2 h2
 | two k k2 k3 k4 =>
  obtain ⟨rfl, e⟩ := h.uniq k
  injection e with _ e
  subst e
  rcases h3 with h3 | ⟨d, zs', h3, h4⟩
  ·exact h3 _ _ k3
  ·obtain ⟨rfl, _⟩ := h3.uniq k3; omega
theorem noitems_of {f : Bool} {t : List UInt8} (h0 : nx t ≠ 93) (h : NoItem f t) : NoItems f t := by
 intro L zs k
 cases k with
 | done => rw [nx_lit _ _ (by decide)] at h0; exact h0 rfl
 | more k0 k k2 => exact h _ _ k
theorem noitems_more {f : Bool} {t ys : List UInt8} {s : Spans} (h0 : nx t ≠ 93) (h : Item f t s ys) (h2 : NoItems false ys) : NoItems f t := by
 intro L zs k
 cases k with
 | done => rw [nx_lit _ _ (by decide)] at h0; exact h0 rfl
 | more k0 k k2 => obtain ⟨_, rfl⟩ := h.uniq k; exact h2 _ _ k2
theorem nobr_dig {t : List UInt8} (h : hasDig t = false) : NoBr t := by
 intro n m ys k
 cases k with
 | same k => rw [h] at k; cases k
 | more k => rw [h] at k; cases k
 | upto k => rw [h] at k; cases k
theorem nobr_one {t u : List UInt8} {n : Int} (e : numF 0 t = (n, u)) (h44 : nx u ≠ 44) (h : nx u ≠ 125 ∨ 1000 < n) : NoBr t := by
 intro n' m ys k
 cases k with
 | same k e' hn =>
  rw [e] at e'; injection e' with e1 e2
  rcases h with h | h
  ·rw [e2, nx_lit _ _ (by decide)] at h; exact h rfl
  ·omega
 | more k e' hn => rw [e] at e'; injection e' with e1 e2; rw [e2, nx_lit _ _ (by decide)] at h44; exact h44 rfl
 | upto k e' => rw [e] at e'; injection e' with e1 e2; rw [e2, nx_lit _ _ (by decide)] at h44; exact h44 rfl
theorem nobr_more {t u : List UInt8} {n : Int} (e : numF 0 t = (n, 44 :: u)) (hd : hasDig u = false) (h : nx u ≠ 125 ∨ 1000 < n) : NoBr t := by
 intro n' m ys k
 cases k with
 | same k e' hn => rw [e] at e'; injection e' with e1 e2; injection e2 with e2 _; exact absurd e2 (by decide)
 | more k e' hn =>
  rw [e] at e'; injection e' with e1 e2; injection e2 with _ e2
  rcases h with h | h
  ·rw [e2, nx_lit _ _ (by decide)] at h; exact h rfl
  ·omega
 | upto k e' k2 e2' hn hm => rw [e] at e'; injection e' with e1 e2; injection e2 with _ e2; rw [e2] at hd; rw [hd] at k2; cases k2
theorem nobr_upto {t u v : List UInt8} {n m : Int} (e : numF 0 t = (n, 44 :: u)) (hd : hasDig u = true) (e2 : numF 0 u = (m, v)) (h : nx v ≠ 125 ∨ m < n ∨ 1000 < m ∨ 1000 < n) : NoBr t := by
 intro n' m' ys k
 cases k with
 | same k e' hn => rw [e] at e'; injection e' with e1 e2; injection e2 with e2 _; exact absurd e2 (by decide)
 | more k e' hn => rw [e] at e'; injection e' with e1 e2; injection e2 with _ e2; rw [e2, hasDig_cons'] at hd; exact absurd hd (by decide)
 | upto k e' k2 e2' hn hm =>
  rw [e] at e'; injection e' with e1 e3; injection e3 with _ e3
  subst e3
  rw [e2] at e2'; injection e2' with e4 e5
  rcases h with h | h | h | h
  ·rw [e5, nx_lit _ _ (by decide)] at h; exact h rfl
  ·omega
  ·omega
  ·omega
theorem noatom_bad {t : List UInt8} (h : nx t < 0 ∨ badB (nx t) = true) : NoAtom t := by
 intro r ys k
 have key : ∀ {b : UInt8} {u : List UInt8}, b.toNat < 128 → badB (b.toNat : Nat) = false → t = b :: u → False := by
  intro b u h1 h2 e
  rw [e, (nx_ascii b u h1).1] at h
  rcases h with h | h
  ·omega
  ·rw [h2] at h; cases h
 cases k with
 | chr h0 h1 => rcases h with h | h; (· omega); (· rw [h1] at h; cases h)
 | _ => exact key (by decide) (by decide) rfl
theorem noatom_esc {t : List UInt8} (h : NoEscC t) (h2 : NoEscS t) : NoAtom (92 :: t) := by
 intro r ys k
 cases k with
 | escS k => exact h2 _ _ k
 | escC k => exact h _ _ k
 | chr h0 h1 h2 => rw [nx_lit _ _ (by decide)] at h2; exact h2.2.2.2.2.2 rfl
theorem noatom_cls {t : List UInt8} (h : nx t ≠ 94 → NoItems true t) (h2 : ∀ u, t = 94 :: u → NoItems true u) : NoAtom (91 :: t) := by
 intro r ys k
 cases k with
 | cls k0 k => exact h k0 _ _ k
 | classN k => exact h2 _ rfl _ _ k
 | chr h0 h1 h2 => rw [nx_lit _ _ (by decide)] at h2; exact h2.2.2.2.2.1 rfl
theorem noatom_cls1 {t : List UInt8} (h0 : nx t ≠ 94) (h : NoItems true t) : NoAtom (91 :: t) := noatom_cls (fun _ => h) fun u e => by rw [e, nx_lit _ _ (by decide)] at h0; exact absurd rfl h0
theorem noatom_cls2 {t : List UInt8} (h : NoItems true t) : NoAtom (91 :: 94 :: t) := noatom_cls (fun h0 => by rw [nx_lit _ _ (by decide)] at h0; exact absurd rfl h0) fun u e => by injection e with _ e; rw [← e]; exact h
theorem nogrp_of {t : List UInt8} (h : NoAlt t) : NoGrp t := fun _ _ k => h _ _ k
theorem nogrp_end {t ys : List UInt8} {l : List Rx} (h : AltL t l ys) (h2 : nx ys ≠ 41) : NoGrp t := fun _ _ k => by
 obtain ⟨_, e⟩ := h.uniq k
 rw [e, nx_lit _ _ (by decide)] at h2; exact h2 rfl
theorem noatom_grp1 {t : List UInt8} (h0 : nx t ≠ 63) (h : NoGrp t) : NoAtom (40 :: t) := by
 intro r ys k
 cases k with
 | group k0 k => exact h _ _ k
 | group2 k => rw [nx_lit _ _ (by decide)] at h0; exact h0 rfl
 | chr h0 h1 h2 => rw [nx_lit _ _ (by decide)] at h2; exact h2.2.2.2.1 rfl
theorem noatom_grp2 {t : List UInt8} (h : NoGrp t) : NoAtom (40 :: 63 :: 58 :: t) := by
 intro r ys k
 cases k with
 | group k0 k => rw [nx_lit _ _ (by decide)] at k0; exact k0 rfl
 | group2 k => exact h _ _ k
 | chr h0 h1 h2 => rw [nx_lit _ _ (by decide)] at h2; exact h2.2.2.2.1 rfl
theorem noatom_grpq {t : List UInt8} (h : nx t ≠ 58) : NoAtom (40 :: 63 :: t) := by
 intro r ys k
 cases k with
 | group k0 k => rw [nx_lit _ _ (by decide)] at k0; exact k0 rfl
 | group2 k => rw [nx_lit _ _ (by decide)] at h; exact h rfl
 | chr h0 h1 h2 => rw [nx_lit _ _ (by decide)] at h2; exact h2.2.2.2.1 rfl
theorem nopiece_atom {t : List UInt8} (h : NoAtom t) : NoPiece t := by
 intro r ys k
 cases k with
 | bare k => exact h _ _ k
 | rep k0 k => exact h _ _ k
theorem nopiece_bare {t ys : List UInt8} {x : Rx} (h0 : nx t = 94 ∨ nx t = 36) (h : Atom t x ys) (h2 : rptB (nx ys) = true) : NoPiece t := by
 intro r zs k
 cases k with
 | bare k k2 => obtain ⟨_, rfl⟩ := h.uniq k; rw [h2] at k2; cases k2
 | rep k0 k => omega
theorem nopiece_again {t ys zs : List UInt8} {x : Rx} {n m : Int} (h : Atom t x ys) (h2 : Quant ys n m zs) (h3 : rptB (nx zs) = true) : NoPiece t := by
 intro r us k
 cases k with
 | bare k k2 => obtain ⟨_, rfl⟩ := h.uniq k; rw [h2.rpt] at k2; cases k2
 | rep k0 k k2 k3 =>
  obtain ⟨_, rfl⟩ := h.uniq k
  obtain ⟨_, _, rfl⟩ := h2.uniq k2
  rw [h3] at k3; cases k3
theorem nopiece_br {t ys : List UInt8} {x : Rx} (h : Atom t x (123 :: ys)) (h2 : NoBr ys) : NoPiece t := by
 intro r us k
 cases k with
 | bare k k2 => obtain ⟨_, rfl⟩ := h.uniq k; rw [nx_lit _ _ (by decide)] at k2; exact absurd k2 (by decide)
 | rep k0 k k2 k3 =>
  obtain ⟨_, e⟩ := h.uniq k
  rw [← e] at k2
  cases k2 with
  | braces k2 => exact h2 _ _ _ k2
theorem noseq_piece {t : List UInt8} (h0 : nx t ≠ -1 ∧ nx t ≠ 124 ∧ nx t ≠ 41) (h : NoPiece t) : NoSeq t := by
 intro l ys k
 cases k with
 | done k => omega
 | more k0 k => exact h _ _ k
theorem noseq_more {t ys : List UInt8} {r : Rx} (h0 : nx t ≠ -1 ∧ nx t ≠ 124 ∧ nx t ≠ 41) (h : Piece t r ys) (h2 : NoSeq ys) : NoSeq t := by
 intro l zs k
 cases k with
 | done k => omega
 | more k0 k k2 => obtain ⟨_, rfl⟩ := h.uniq k; exact h2 _ _ k2
theorem noalt_seq {t : List UInt8} (h : NoSeq t) : NoAlt t := by
 intro l ys k
 cases k with
 | one k => exact h _ _ k
 | more k => exact h _ _ k
theorem noalt_more {t ys : List UInt8} {l : List Rx} (h : SeqL t l (124 :: ys)) (h2 : NoAlt ys) : NoAlt t := by
 intro m zs k
 cases k with
 | one k k2 => obtain ⟨_, rfl⟩ := h.uniq k; rw [nx_lit _ _ (by decide)] at k2; exact k2 rfl
 | more k k2 => obtain ⟨_, e⟩ := h.uniq k; injection e with _ e; rw [← e] at k2; exact h2 _ _ k2
theorem noparse_alt {t : List UInt8} (h : NoAlt t) (r : Rx) : ¬ Parsed t r := fun ⟨_, k, _⟩ => h _ _ k
theorem noparse_left {t ys : List UInt8} {l : List Rx} (h : AltL t l ys) (h2 : ys ≠ []) (r : Rx) : ¬ Parsed t r := fun ⟨_, k, _⟩ => h2 (h.uniq k).2
end Go.Proofs.YthhnmpkgleelfaaGreatDoor
