import Derived.Test.YthhnmpkgleelfaaGreatDoorK4
set_option linter.unusedVariables false
set_option linter.unusedSimpArgs false
namespace Go.Proofs.YthhnmpkgleelfaaGreatDoor
def mergeF : Spans → Int → Int → Int × Int × Spans
 | [], a, b => (a, b, [])
 | p :: l, a, b => if p.2 + 1 < a ∨ b + 1 < p.1 then ((mergeF l a b).1, (mergeF l a b).2.1, p :: (mergeF l a b).2.2) else mergeF l (min a p.1) (max b p.2)
theorem inSp_cons (p : Int × Int) (l : Spans) (c : Int) : inSp (p :: l) c ↔ (p.1 ≤ c ∧ c ≤ p.2) ∨ inSp l c := by
 simp only [inSp, List.mem_cons, exists_eq_or_imp]
theorem inSp_append (l m : Spans) (c : Int) : inSp (l ++ m) c ↔ inSp l c ∨ inSp m c := by
 simp only [inSp, List.mem_append, or_and_right, exists_or]
theorem merge_far : ∀ (l : Spans) (a b : Int), (∀ p ∈ l, b + 1 < p.1) → mergeF l a b = (a, b, l)
 | [], _, _, _ => rfl
 | p :: l, a, b, h => by
  have h1 := h p (by simp)
  unfold mergeF
  rw [if_pos (.inr h1), merge_far l a b (fun q hq => h q (List.mem_cons_of_mem _ hq))]
structure Merged (l : Spans) (a b a' b' : Int) (n : Spans) : Prop where
 le1 : a' ≤ a
 le2 : b ≤ b'
 gaps : GapsS n
 sub : ∀ p ∈ n, p ∈ l
 sep : ∀ p ∈ n, p.2 + 1 < a' ∨ b' + 1 < p.1
 mem : ∀ c, (inSp n c ∨ (a' ≤ c ∧ c ≤ b')) ↔ (inSp l c ∨ (a ≤ c ∧ c ≤ b))
 low : ∀ x, (∀ p ∈ l, x < p.1) → x < a → x < a'
 lo' : a' = a ∨ ∃ p ∈ l, a' = p.1
 hi' : b' = b ∨ ∃ p ∈ l, b' = p.2
theorem merge_spec : ∀ (l : Spans) (a b : Int), GapsS l → a ≤ b → Merged l a b (mergeF l a b).1 (mergeF l a b).2.1 (mergeF l a b).2.2
 | [], a, b, _, _ => ⟨Int.le_refl _, Int.le_refl _, GapsS.nil, by simp [mergeF], by simp [mergeF], fun c => Iff.rfl, fun _ _ h => h, .inl rfl, .inl rfl⟩
 | (p, q) :: l, a, b, hg, hab => by
  obtain ⟨h1, h2, h3⟩ := hg.tail
  have hl : ∀ r ∈ l, q + 1 < r.1 := fun r hr => h3 r.1 ⟨r, hr, Int.le_refl _, h2.mem r hr⟩
  by_cases hs : q + 1 < a ∨ b + 1 < p
  ·have hun : mergeF ((p, q) :: l) a b = ((mergeF l a b).1, (mergeF l a b).2.1, (p, q) :: (mergeF l a b).2.2) := by
    conv => lhs; unfold mergeF
    rw [if_pos hs]
   rw [hun]
   rcases hs with hs | hs
   ·have ih := merge_spec l a b h2 hab
    have hlow := ih.low (q + 1) hl hs
    refine ⟨ih.le1, ih.le2, GapsS.cons h1 ih.gaps (fun c ⟨r, hr, hc⟩ => by have := hl r (ih.sub r hr); omega), ?_, ?_, fun c => ?_, fun x hx hxa => ih.low x (fun r hr => hx r (List.mem_cons_of_mem _ hr)) hxa, ?_, ?_⟩
    ·intro r hr
     rcases List.mem_cons.1 hr with rfl | hr
     ·simp
     ·exact List.mem_cons_of_mem _ (ih.sub r hr)
    ·intro r hr
     rcases List.mem_cons.1 hr with rfl | hr
     ·exact .inl hlow
     ·exact ih.sep r hr
    ·rw [inSp_cons, inSp_cons]
     have := ih.mem c
     simp only
     constructor
     ·rintro ((h | h) | h)
      ·exact .inl (.inl h)
      ·rcases this.1 (.inl h) with h | h
       ·exact .inl (.inr h)
       ·exact .inr h
      ·rcases this.1 (.inr h) with h | h
       ·exact .inl (.inr h)
       ·exact .inr h
     ·rintro ((h | h) | h)
      ·exact .inl (.inl h)
      ·rcases this.2 (.inl h) with h | h
       ·exact .inl (.inr h)
       ·exact .inr h
      ·rcases this.2 (.inr h) with h | h
       ·exact .inl (.inr h)
       ·exact .inr h
    ·rcases ih.lo' with h | ⟨r, hr, h⟩
     ·exact .inl h
     ·exact .inr ⟨r, List.mem_cons_of_mem _ hr, h⟩
    ·rcases ih.hi' with h | ⟨r, hr, h⟩
     ·exact .inl h
     ·exact .inr ⟨r, List.mem_cons_of_mem _ hr, h⟩
   ·have hf := merge_far l a b (fun r hr => by have := hl r hr; omega)
    rw [hf]
    refine ⟨Int.le_refl _, Int.le_refl _, hg, fun r hr => hr, fun r hr => ?_, fun c => Iff.rfl, fun _ _ h => h, .inl rfl, .inl rfl⟩
    rcases List.mem_cons.1 hr with rfl | hr
    ·exact .inr hs
    ·have := hl r hr; exact .inr (by simp only; omega)
  ·have hun : mergeF ((p, q) :: l) a b = mergeF l (min a p) (max b q) := by
    conv => lhs; unfold mergeF
    rw [if_neg hs]
   rw [hun]
   have ih := merge_spec l (min a p) (max b q) h2 (by omega)
   refine ⟨by have := ih.le1; omega, by have := ih.le2; omega, ih.gaps, fun r hr => List.mem_cons_of_mem _ (ih.sub r hr), ih.sep, fun c => ?_, fun x hx hxa => ih.low x (fun r hr => hx r (List.mem_cons_of_mem _ hr)) (by have := hx (p, q) (by simp); simp only at this; omega), ?_, ?_⟩
   ·rw [ih.mem, inSp_cons]
    simp only
    constructor
    ·rintro (h | h)
     ·exact .inl (.inr h)
     ·by_cases hc : a ≤ c ∧ c ≤ b
      ·exact .inr hc
      ·exact .inl (.inl (by omega))
    ·rintro ((h | h) | h)
     ·exact .inr (by omega)
     ·exact .inl h
     ·exact .inr (by omega)
   ·rcases ih.lo' with h | ⟨r, hr, h⟩
    ·by_cases hap : a ≤ p
     ·exact .inl (by omega)
     ·exact .inr ⟨(p, q), by simp, by simp only; omega⟩
    ·exact .inr ⟨r, List.mem_cons_of_mem _ hr, h⟩
   ·rcases ih.hi' with h | ⟨r, hr, h⟩
    ·by_cases hap : q ≤ b
     ·exact .inl (by omega)
     ·exact .inr ⟨(p, q), by simp, by simp only; omega⟩
    ·exact .inr ⟨r, List.mem_cons_of_mem _ hr, h⟩
theorem placed_spec {n : Spans} {a b : Int} {j : Nat} (hg : GapsS n) (hab : a ≤ b) (hs : ∀ p ∈ n, p.2 + 1 < a ∨ b + 1 < p.1) (h1 : ∀ p ∈ n.take j, p.1 < a) (h2 : ∀ p, n[j]? = some p → a ≤ p.1) :
  GapsS (n.take j ++ (a, b) :: n.drop j) ∧ ∀ c, inSp (n.take j ++ (a, b) :: n.drop j) c ↔ inSp n c ∨ (a ≤ c ∧ c ≤ b) := by
 have hg' := hg
 rw [← List.take_append_drop j n] at hg'
 obtain ⟨g1, g2, g3⟩ := hg'.left
 have hd : ∀ p ∈ n.drop j, b + 1 < p.1 := by
  intro p hp
  cases hx : n[j]? with
  | none =>
   have : n.length ≤ j := List.getElem?_eq_none_iff.1 hx
   rw [List.drop_eq_nil_of_le this] at hp
   cases hp
  | some x =>
   obtain ⟨hlt, hxe⟩ := List.getElem?_eq_some_iff.1 hx
   have hx1 : b + 1 < x.1 := by
    have hm := hg.mem x (List.mem_of_getElem? hx)
    have := h2 x hx
    rcases hs x (List.mem_of_getElem? hx) with h | h <;> omega
   rw [List.drop_eq_getElem_cons hlt, hxe] at hp g2
   rcases List.mem_cons.1 hp with rfl | hp2
   ·exact hx1
   ·obtain ⟨x1, x2⟩ := x
    obtain ⟨k1, k2, k3⟩ := g2.tail
    have := k3 p.1 ⟨p, hp2, Int.le_refl _, k2.mem p hp2⟩
    simp only at hx1
    omega
 have ht : ∀ p ∈ n.take j, p.2 + 1 < a := by
  intro p hp
  have hm := hg.mem p (List.mem_of_mem_take hp)
  have := h1 p hp
  rcases hs p (List.mem_of_mem_take hp) with h | h <;> omega
 refine ⟨GapsS.append g1 (GapsS.cons hab g2 (fun c ⟨p, hp, hc⟩ => by have := hd p hp; omega)) (fun p hp q hq => ?_), fun c => ?_⟩
 ·rcases List.mem_cons.1 hq with rfl | hq
  ·exact ht p hp
  ·have h3 := ht p hp; have h4 := hd q hq; omega
 ·rw [inSp_append, inSp_cons]
  have : inSp n c ↔ inSp (n.take j) c ∨ inSp (n.drop j) c := by rw [← inSp_append, List.take_append_drop]
  rw [this]
  simp only
  constructor
  ·rintro (h | h | h)
   ·exact .inl (.inl h)
   ·exact .inr h
   ·exact .inl (.inr h)
  ·rintro ((h | h) | h)
   ·exact .inl h
   ·exact .inr (.inr h)
   ·exact .inr (.inl h)
def loC (a : Int) : Int := if 55296 ≤ a ∧ a ≤ 57343 then 57344 else a
def hiC (b : Int) : Int := if 55296 ≤ b ∧ b ≤ 57343 then 55295 else b
def cutS (p : Int × Int) : Spans :=
 if hiC p.2 < loC p.1 then [] else if loC p.1 < 55296 ∧ 57343 < hiC p.2 then [(loC p.1, 55295), (57344, hiC p.2)] else [(loC p.1, hiC p.2)]
theorem cut_spec {a b : Int} (h0 : 0 ≤ a) (hab : a ≤ b) (hb : b ≤ 1114111) : GapsS (cutS (a, b)) ∧ (∀ p ∈ cutS (a, b), isR p.1 = true ∧ isR p.2 = true ∧ a ≤ p.1 ∧ p.2 ≤ b) ∧ ∀ c, inSp (cutS (a, b)) c ↔ (a ≤ c ∧ c ≤ b ∧ isR c = true) := by
 have hr : ∀ c : Int, isR c = true ↔ 0 ≤ c ∧ c ≤ 1114111 ∧ ¬ (55296 ≤ c ∧ c ≤ 57343) := by intro c; unfold isR; simp; omega
 have hx : (¬ (55296 ≤ a ∧ a ≤ 57343) ∧ loC a = a) ∨ ((55296 ≤ a ∧ a ≤ 57343) ∧ loC a = 57344) := by unfold loC; split <;> omega
 have hy : (¬ (55296 ≤ b ∧ b ≤ 57343) ∧ hiC b = b) ∨ ((55296 ≤ b ∧ b ≤ 57343) ∧ hiC b = 55295) := by unfold hiC; split <;> omega
 unfold cutS
 simp only
 generalize loC a = x at *
 generalize hiC b = y at *
 by_cases h : y < x
 ·rw [if_pos h]
  refine ⟨GapsS.nil, by simp, fun c => ?_⟩
  rw [hr]
  simp only [inSp, List.not_mem_nil, false_and, exists_false, false_iff]
  omega
 ·rw [if_neg h]
  by_cases h2 : x < 55296 ∧ 57343 < y
  ·rw [if_pos h2]
   refine ⟨GapsS.cons (by omega) (GapsS.cons (by omega) GapsS.nil (by simp [inSp])) (fun c hc => ?_), ?_, fun c => ?_⟩
   ·obtain ⟨p, hp, hc⟩ := hc
    simp at hp; subst hp; simp only at hc; omega
   ·intro p hp
    simp at hp
    rcases hp with rfl | rfl
    ·simp only; rw [hr, hr]; omega
    ·simp only; rw [hr, hr]; omega
   ·rw [inSp_cons, inSp_cons, hr]
    simp only [inSp, List.not_mem_nil, false_and, exists_false, or_false]
    omega
  ·rw [if_neg h2]
   refine ⟨GapsS.cons (by omega) GapsS.nil (by simp [inSp]), ?_, fun c => ?_⟩
   ·intro p hp
    simp at hp
    subst hp
    simp only; rw [hr, hr]; omega
   ·rw [inSp_cons, hr]
    simp only [inSp, List.not_mem_nil, false_and, exists_false, or_false]
    omega
theorem cuts_spec : ∀ (M : Spans), GapsS M → (∀ p ∈ M, 0 ≤ p.1 ∧ p.2 ≤ 1114111) → GapsS (M.flatMap cutS) ∧ (∀ p ∈ M.flatMap cutS, isR p.1 = true ∧ isR p.2 = true ∧ ∃ q ∈ M, q.1 ≤ p.1 ∧ p.2 ≤ q.2) ∧ ∀ c, inSp (M.flatMap cutS) c ↔ (inSp M c ∧ isR c = true)
 | [], _, _ => ⟨GapsS.nil, by simp, fun c => by simp [inSp]⟩
 | (a, b) :: M, hg, hb => by
  obtain ⟨h1, h2, h3⟩ := hg.tail
  have hab := hb (a, b) (by simp)
  simp only at hab
  obtain ⟨c1, c2, c3⟩ := cut_spec hab.1 h1 hab.2
  obtain ⟨k1, k2, k3⟩ := cuts_spec M h2 (fun p hp => hb p (List.mem_cons_of_mem _ hp))
  rw [List.flatMap_cons]
  refine ⟨GapsS.append c1 k1 (fun p hp q hq => ?_), ?_, fun c => ?_⟩
  ·have := (c2 p hp).2.2.2
   obtain ⟨r, hr, hr1, _⟩ := (k2 q hq).2.2
   have := h3 r.1 ⟨r, hr, Int.le_refl _, h2.mem r hr⟩
   omega
  ·intro p hp
   rcases List.mem_append.1 hp with hp | hp
   ·have := c2 p hp; exact ⟨this.1, this.2.1, (a, b), by simp, this.2.2⟩
   ·obtain ⟨x, y, q, hq, z⟩ := k2 p hp; exact ⟨x, y, q, List.mem_cons_of_mem _ hq, z⟩
  ·rw [inSp_append, c3, k3, inSp_cons]
   simp only
   constructor
   ·rintro (⟨x, y, z⟩ | ⟨x, y⟩)
    ·exact ⟨.inl ⟨x, y⟩, z⟩
    ·exact ⟨.inr x, y⟩
   ·rintro ⟨x | x, y⟩
    ·exact .inl ⟨x.1, x.2, y⟩
    ·exact .inr ⟨x, y⟩
theorem setOf_cuts {M : Spans} (hg : GapsS M) (hb : ∀ p ∈ M, 0 ≤ p.1 ∧ p.2 ≤ 1114111) : SetOf (inSp M) (flatS (M.flatMap cutS)) := by
 obtain ⟨h1, h2, h3⟩ := cuts_spec M hg hb
 refine ⟨h1, ?_, fun c => ?_⟩
 ·have key : ∀ (L : Spans), (∀ p ∈ L, isR p.1 = true ∧ isR p.2 = true) → ∀ c ∈ flatS L, isR c = true := by
   intro L
   induction L with
   | nil => simp [flatS]
   | cons x L ih =>
    obtain ⟨a, b⟩ := x
    intro h c hc
    simp only [flatS, List.mem_cons] at hc
    have hx := h (a, b) (by simp)
    rcases hc with rfl | rfl | hc
    ·exact hx.1
    ·exact hx.2
    ·exact ih (fun p hp => h p (List.mem_cons_of_mem _ hp)) c hc
  exact key _ (fun p hp => ⟨(h2 p hp).1, (h2 p hp).2.1⟩)
 ·rw [inCs_flat, h3]; exact and_comm
def tot (l : List Rx) : Nat := (l.map fun r => r.size + 1).sum
theorem tot_cons (x : Rx) (l : List Rx) : tot (x :: l) = x.size + 1 + tot l := by simp [tot]
theorem tot_join (op : Rx → Rx → Rx) (hop : ∀ a b, (op a b).size = 1 + a.size + b.size) : ∀ (l : List Rx), l ≠ [] → (joinR op l).size + 1 = tot l
 | [], h => absurd rfl h
 | [x], _ => by simp [joinR, tot]
 | x :: y :: l, _ => by
  rw [joinR_cons op x (by simp), hop, tot_cons]
  have := tot_join op hop (y :: l) (by simp)
  omega
theorem size_cat (l : List Rx) (h : l ≠ []) : (joinR .cat l).size + 1 = tot l := tot_join .cat (fun _ _ => rfl) l h
theorem size_alt (l : List Rx) (h : l ≠ []) : (joinR .alt l).size + 1 = tot l := tot_join .alt (fun _ _ => rfl) l h
theorem AltL.ne {xs ys : List UInt8} {l : List Rx} (h : AltL xs l ys) : l ≠ [] := by cases h <;> simp
theorem cat_le (l : List Rx) : (joinR .cat l).size ≤ tot l + 1 ∧ (l ≠ [] → (joinR .cat l).size + 1 = tot l) := by
 cases l with
 | nil => simp [joinR, Rx.size]
 | cons x l => have := size_cat (x :: l) (by simp); exact ⟨by omega, fun _ => this⟩
theorem cat_le2 (l : List Rx) : (joinR .cat l).size + 1 ≤ tot l + 2 := by have := (cat_le l).1; omega
mutual
theorem AltL.tot : ∀ {xs ys : List UInt8} {l : List Rx}, AltL xs l ys → YthhnmpkgleelfaaGreatDoor.tot l + 2 * ys.length ≤ 2 * xs.length + 2
 | _, _, _, @AltL.one _ _ l h _ => by
  have h1 := h.tot
  have h2 := cat_le2 l
  rw [tot_cons, show YthhnmpkgleelfaaGreatDoor.tot [] = 0 from rfl]
  omega
 | _, _, _, @AltL.more _ _ _ l _ h h2 => by
  have h1 := h.tot; have h3 := h2.tot
  have h4 := cat_le2 l
  rw [tot_cons]
  rw [List.length_cons] at h1
  omega
theorem SeqL.tot : ∀ {xs ys : List UInt8} {l : List Rx}, SeqL xs l ys → YthhnmpkgleelfaaGreatDoor.tot l + 2 * ys.length ≤ 2 * xs.length
 | _, _, _, .done _ => by simp [YthhnmpkgleelfaaGreatDoor.tot]
 | _, _, _, .more _ h h2 => by
  have h1 := h.size; have h3 := h2.tot
  rw [tot_cons]
  omega
theorem Piece.size : ∀ {xs ys : List UInt8} {x : Rx}, Piece xs x ys → x.size + 1 + 2 * ys.length ≤ 2 * xs.length
 | _, _, _, .bare h _ => h.size
 | _, _, _, .rep _ h h2 _ => by
  have h1 := h.size; have h3 := h2.suf.2
  show 1 + Rx.size _ + 1 + _ ≤ _
  omega
theorem Atom.size : ∀ {xs ys : List UInt8} {x : Rx}, Atom xs x ys → x.size + 1 + 2 * ys.length ≤ 2 * xs.length
 | _, _, _, .any => by simp [Rx.size]; omega
 | _, _, _, .beg => by simp [Rx.size]; omega
 | _, _, _, .fin => by simp [Rx.size]; omega
 | _, _, _, .group _ h => by
  have h1 := h.tot
  have h2 := size_alt _ h.ne
  simp only [List.length_cons] at *
  omega
 | _, _, _, .group2 h => by
  have h1 := h.tot
  have h2 := size_alt _ h.ne
  simp only [List.length_cons] at *
  omega
 | _, _, _, .cls _ h _ => by have := h.suf.2; simp only [List.length_cons, Rx.size] at *; omega
 | _, _, _, .classN h _ => by have := h.suf.2; simp only [List.length_cons, Rx.size] at *; omega
 | _, _, _, .escS h _ => by have := h.suf.2; simp only [List.length_cons, Rx.size] at *; omega
 | _, _, _, .escC h => by have := h.suf.2; simp only [List.length_cons, Rx.size] at *; omega
 | xs, _, _, .chr h0 _ _ => by
  have h4 := nl_pos h0
  have h5 := nl_le xs
  simp only [List.length_drop, Rx.size]
  omega
end
theorem Parsed.size {xs : List UInt8} {r : Rx} (h : Parsed xs r) : r.size ≤ 2 * xs.length + 1 := by
 obtain ⟨l, hl, rfl⟩ := h
 have h1 := hl.tot
 have h2 := size_alt _ hl.ne
 simp only [List.length_nil] at h1
 omega
def Rx.ok : Rx → Prop
 | .chr c => isR c = true
 | .set cs => Gaps cs ∧ ∀ c ∈ cs, isR c = true
 | .cat a b => a.ok ∧ b.ok
 | .alt a b => a.ok ∧ b.ok
 | .rep x mn mx => x.ok ∧ 0 ≤ mn ∧ mn ≤ 1000 ∧ (mx = -1 ∨ (mn ≤ mx ∧ mx ≤ 1000))
 | _ => True
theorem EscC_isR {xs ys : List UInt8} {c : Int} (h : EscC xs c ys) : isR c = true := by
 cases h with
 | plain h => rename_i b; have := b.toNat_lt; simp [isR]; omega
 | u h h2 =>
  rename_i a b c d
  obtain ⟨h3, h4, h5, h6⟩ := h
  have k : ∀ b : UInt8, hexv b ≤ 15 := by intro b; unfold hexv; split <;> (try split) <;> (try split) <;> omega
  have := k a; have := k b; have := k c; have := k d
  unfold four at *
  simp [isR]; omega
 | uu h h2 h3 h4 =>
  rename_i a b c d a' b' c' d'
  simp [isR]; omega
 | _ => decide
theorem numF_nonneg : ∀ (xs : List UInt8) (n : Int), 0 ≤ n → 0 ≤ (numF n xs).1
 | [], n, h => h
 | b :: t, n, h => by
  unfold numF
  split
  ·rename_i hd
   refine numF_nonneg t _ ?_
   unfold isDig at hd
   simp at hd
   omega
  ·exact h
theorem Braces.ok {xs ys : List UInt8} {n m : Int} (h : Braces xs n m ys) : 0 ≤ n ∧ n ≤ 1000 ∧ (m = -1 ∨ (n ≤ m ∧ m ≤ 1000)) := by
 have h1 := numF_nonneg xs 0 (Int.le_refl _)
 cases h with
 | same h e hn => rw [e] at h1; exact ⟨h1, hn, .inr ⟨Int.le_refl _, hn⟩⟩
 | more h e hn => rw [e] at h1; exact ⟨h1, hn, .inl rfl⟩
 | upto h e h2 e2 hn hm => rw [e] at h1; exact ⟨h1, by omega, .inr ⟨hn, hm⟩⟩
theorem Quant.ok {xs ys : List UInt8} {n m : Int} (h : Quant xs n m ys) : 0 ≤ n ∧ n ≤ 1000 ∧ (m = -1 ∨ (n ≤ m ∧ m ≤ 1000)) := by
 cases h with
 | braces h => exact h.ok
 | _ => omega
theorem joinR_ok (op : Rx → Rx → Rx) (hop : ∀ a b, a.ok → b.ok → (op a b).ok) : ∀ (l : List Rx), (∀ r ∈ l, r.ok) → (joinR op l).ok
 | [], _ => trivial
 | [x], h => h x (by simp)
 | x :: y :: l, h => by
  rw [joinR_cons op x (by simp)]
  exact hop _ _ (h x (by simp)) (joinR_ok op hop (y :: l) (fun r hr => h r (List.mem_cons_of_mem _ hr)))
theorem cat_ok {l : List Rx} (h : ∀ r ∈ l, r.ok) : (joinR .cat l).ok := joinR_ok .cat (fun _ _ h k => ⟨h, k⟩) l h
theorem alt_ok {l : List Rx} (h : ∀ r ∈ l, r.ok) : (joinR .alt l).ok := joinR_ok .alt (fun _ _ h k => ⟨h, k⟩) l h
theorem nxR {xs : List UInt8} (h : 0 ≤ nx xs) : isR (nx xs) = true := by
 rcases nx_cases xs with ⟨_, h1, _⟩ | ⟨_, _, _, _, h1⟩ | ⟨_, _, h1, _⟩
 ·omega
 ·exact h1
 ·omega
mutual
theorem AltL.ok : ∀ {xs ys : List UInt8} {l : List Rx}, AltL xs l ys → ∀ r ∈ l, r.ok
 | _, _, _, .one h _ => by
  have h1 := cat_ok h.ok
  intro r hr
  rw [List.mem_singleton.1 hr]
  exact h1
 | _, _, _, .more h h2 => by
  have h1 := cat_ok h.ok
  have h3 := h2.ok
  intro r hr
  rcases List.mem_cons.1 hr with e | hr
  ·rw [e]; exact h1
  ·exact h3 r hr
theorem SeqL.ok : ∀ {xs ys : List UInt8} {l : List Rx}, SeqL xs l ys → ∀ r ∈ l, r.ok
 | _, _, _, .done _ => by simp
 | _, _, _, .more _ h h2 => by
  have h1 := h.ok
  have h3 := h2.ok
  intro r hr
  rcases List.mem_cons.1 hr with e | hr
  ·rw [e]; exact h1
  ·exact h3 r hr
theorem Piece.ok : ∀ {xs ys : List UInt8} {x : Rx}, Piece xs x ys → x.ok
 | _, _, _, .bare h _ => h.ok
 | _, _, _, .rep _ h h2 _ => ⟨h.ok, h2.ok⟩
theorem Atom.ok : ∀ {xs ys : List UInt8} {x : Rx}, Atom xs x ys → x.ok
 | _, _, _, .any => trivial
 | _, _, _, .beg => trivial
 | _, _, _, .fin => trivial
 | _, _, _, .group _ h => alt_ok h.ok
 | _, _, _, .group2 h => alt_ok h.ok
 | _, _, _, .cls _ _ hs => ⟨hs.gaps, hs.chars⟩
 | _, _, _, .classN _ hs => ⟨hs.gaps, hs.chars⟩
 | _, _, _, .escS _ hs => ⟨hs.gaps, hs.chars⟩
 | _, _, _, .escC h => EscC_isR h
 | _, _, _, .chr h0 _ _ => nxR h0
end
theorem Parsed.ok {xs : List UInt8} {r : Rx} (h : Parsed xs r) : r.ok := by
 obtain ⟨l, hl, rfl⟩ := h
 exact alt_ok hl.ok
def mxS : Int := 4611686018427387904
def adS (a b : Int) : Int := min (a + b) mxS
def muS (a b : Int) : Int := min (a * b) mxS
def needF : Rx → Int
 | .emp => 0
 | .cat a b => adS (needF a) (needF b)
 | .alt a b => adS (adS (needF a) (needF b)) 1
 | .rep x mn mx => if mx < 0 then adS (muS mn (needF x)) (adS (needF x) 1) else adS (muS mn (needF x)) (muS (mx - mn) (adS (needF x) 1))
 | _ => 1
def statesF (r : Rx) : Int := adS (needF r) 1
theorem adS_bd {a b : Int} (h : 0 ≤ a) (k : 0 ≤ b) : 0 ≤ adS a b ∧ adS a b ≤ mxS := by unfold adS mxS; omega
theorem muS_bd {a b : Int} (h : 0 ≤ a) (k : 0 ≤ b) : 0 ≤ muS a b ∧ muS a b ≤ mxS := by have := Int.mul_nonneg h k; unfold muS mxS; omega
theorem needF_bd : ∀ (r : Rx), r.ok → 0 ≤ needF r ∧ needF r ≤ mxS
 | .emp, _ => by unfold needF mxS; omega
 | .chr _, _ => by unfold needF mxS; omega
 | .any, _ => by unfold needF mxS; omega
 | .set _, _ => by unfold needF mxS; omega
 | .beg, _ => by unfold needF mxS; omega
 | .fin, _ => by unfold needF mxS; omega
 | .cat a b, h => adS_bd (needF_bd a h.1).1 (needF_bd b h.2).1
 | .alt a b, h => adS_bd (adS_bd (needF_bd a h.1).1 (needF_bd b h.2).1).1 (by omega)
 | .rep x mn mx, h => by
  have h1 := needF_bd x h.1
  have h2 := h.2
  unfold needF
  split
  ·exact adS_bd (muS_bd h2.1 h1.1).1 (adS_bd h1.1 (by omega)).1
  ·exact adS_bd (muS_bd h2.1 h1.1).1 (muS_bd (by omega) (adS_bd h1.1 (by omega)).1).1
def SubAt (ys : List Ex) (p : Nat) (r : Rx) : Prop := ∀ i x, (r.flat p)[i]? = some x → ys[p + i]? = some x
theorem SubAt.whole (r : Rx) : SubAt (r.flat 0) 0 r := fun i x h => by rw [Nat.zero_add]; exact h
theorem SubAt.cat {ys : List Ex} {p : Nat} {a b : Rx} (h : SubAt ys p (.cat a b)) : ys[p]? = some ⟨7, 0, noB, (p + 1 : Nat), (p + 1 + a.size : Nat), 0, 0⟩ ∧ SubAt ys (p + 1) a ∧ SubAt ys (p + 1 + a.size) b := by
 refine ⟨h 0 _ rfl, fun i x hi => ?_, fun i x hi => ?_⟩
 ·have := h (i + 1) x (by simp only [Rx.flat, List.getElem?_cons_succ]; rw [List.getElem?_append_left (List.getElem?_eq_some_iff.1 hi).1]; exact hi)
  rwa [show p + (i + 1) = p + 1 + i by omega] at this
 ·have := h (i + a.size + 1) x (by simp only [Rx.flat, List.getElem?_cons_succ]; rw [List.getElem?_append_right (by rw [a.flat_len]; omega), a.flat_len, Nat.add_sub_cancel]; exact hi)
  rwa [show p + (i + a.size + 1) = p + 1 + a.size + i by omega] at this
theorem SubAt.alt {ys : List Ex} {p : Nat} {a b : Rx} (h : SubAt ys p (.alt a b)) : ys[p]? = some ⟨8, 0, noB, (p + 1 : Nat), (p + 1 + a.size : Nat), 0, 0⟩ ∧ SubAt ys (p + 1) a ∧ SubAt ys (p + 1 + a.size) b := by
 refine ⟨h 0 _ rfl, fun i x hi => ?_, fun i x hi => ?_⟩
 ·have := h (i + 1) x (by simp only [Rx.flat, List.getElem?_cons_succ]; rw [List.getElem?_append_left (List.getElem?_eq_some_iff.1 hi).1]; exact hi)
  rwa [show p + (i + 1) = p + 1 + i by omega] at this
 ·have := h (i + a.size + 1) x (by simp only [Rx.flat, List.getElem?_cons_succ]; rw [List.getElem?_append_right (by rw [a.flat_len]; omega), a.flat_len, Nat.add_sub_cancel]; exact hi)
  rwa [show p + (i + a.size + 1) = p + 1 + a.size + i by omega] at this
theorem SubAt.rep {ys : List Ex} {p : Nat} {a : Rx} {mn mx : Int} (h : SubAt ys p (.rep a mn mx)) : ys[p]? = some ⟨9, 0, noB, (p + 1 : Nat), 0, mn, mx⟩ ∧ SubAt ys (p + 1) a := by
 refine ⟨h 0 _ rfl, fun i x hi => ?_⟩
 have := h (i + 1) x (by simp only [Rx.flat, List.getElem?_cons_succ]; exact hi)
 rwa [show p + (i + 1) = p + 1 + i by omega] at this
def runesF (bad : UInt8 → Int) : Nat → List UInt8 → List Int
 | 0, _ => []
 | _ + 1, [] => []
 | f + 1, x :: t => if (dec (x :: t)).2.2 = 0 then ((dec (x :: t)).1 : Int) :: runesF bad f ((x :: t).drop (dec (x :: t)).2.1) else bad x :: runesF bad f t
def runes (bad : UInt8 → Int) (xs : List UInt8) : List Int := runesF bad xs.length xs
theorem runesF_eq (bad : UInt8 → Int) : ∀ (f g : Nat) (xs : List UInt8), xs.length ≤ f → xs.length ≤ g → runesF bad f xs = runesF bad g xs
 | 0, g, xs, h, _ => by
  obtain rfl : xs = [] := List.eq_nil_of_length_eq_zero (by omega)
  cases g <;> rfl
 | f + 1, g, [], _, _ => by cases g <;> rfl
 | f + 1, 0, x :: t, _, h => by simp at h
 | f + 1, g + 1, x :: t, h1, h2 => by
  simp only [List.length_cons] at h1 h2
  unfold runesF
  split
  ·rename_i h
   have hp := dec_pos h
   rw [runesF_eq bad f g _ (by rw [List.length_drop, List.length_cons]; omega) (by rw [List.length_drop, List.length_cons]; omega)]
  ·rw [runesF_eq bad f g t (by omega) (by omega)]
theorem runes_nil (bad : UInt8 → Int) : runes bad [] = [] := rfl
theorem runes_good {bad : UInt8 → Int} {xs : List UInt8} (h0 : xs ≠ []) (h : (dec xs).2.2 = 0) : runes bad xs = ((dec xs).1 : Int) :: runes bad (xs.drop (dec xs).2.1) := by
 cases xs with
 | nil => exact absurd rfl h0
 | cons x t =>
  have hp := dec_pos h
  unfold runes
  rw [List.length_cons, runesF, if_pos h, runesF_eq bad t.length _ _ (by rw [List.length_drop, List.length_cons]; omega) (Nat.le_refl _)]
theorem runes_bad {bad : UInt8 → Int} {x : UInt8} {t : List UInt8} (h : (dec (x :: t)).2.2 ≠ 0) : runes bad (x :: t) = bad x :: runes bad t := by
 unfold runes
 rw [List.length_cons, runesF, if_neg h]
theorem runes_utf8 (bad : UInt8 → Int) : ∀ {cs : List Int}, (∀ c ∈ cs, isR c = true) → runes bad (cs.flatMap frm) = cs
 | [], _ => rfl
 | c :: cs, h => by
  have hc := h c (by simp)
  have h0 := isR_pos hc
  obtain ⟨n, rfl⟩ : ∃ n : Nat, c = n := ⟨c.toNat, by omega⟩
  have hd := dec_of_frm n hc (cs.flatMap frm)
  rw [List.flatMap_cons, runes_good (by simp [frm_ne hc]) (by rw [hd]), hd]
  simp only [List.drop_left]
  rw [runes_utf8 bad (fun c hm => h c (List.mem_cons_of_mem _ hm))]
def badR (_ : UInt8) : Int := -1
theorem runes_len (bad : UInt8 → Int) : ∀ (n : Nat) (xs : List UInt8), xs.length ≤ n → (runes bad xs).length ≤ xs.length
 | _, [], _ => by simp [runes_nil]
 | 0, x :: t, h => by simp at h
 | n + 1, x :: t, h => by
  simp only [List.length_cons] at h
  by_cases hd : (dec (x :: t)).2.2 = 0
  ·have hp := dec_pos hd
   rw [runes_good (by simp) hd, List.length_cons]
   have := runes_len bad n ((x :: t).drop (dec (x :: t)).2.1) (by rw [List.length_drop, List.length_cons]; omega)
   rw [List.length_drop, List.length_cons] at this
   rw [List.length_cons]
   omega
  ·rw [runes_bad hd, List.length_cons, List.length_cons]
   have := runes_len bad n t (by omega)
   omega
theorem runes_rng {cs : List Int} (h : ∀ c ∈ cs, isR c = true) : runes badR (rngB cs).data.toList = cs := by
 show runes badR (cs.flatMap frm).toArray.toList = cs
 rw [List.toList_toArray]
 exact runes_utf8 badR h
def inB : List Int → Int → Bool
 | a :: b :: l, c => (decide (a ≤ c) && decide (c ≤ b)) || inB l c
 | _, _ => false
def atomT : Rx → Int → Bool
 | .chr d, c => decide (0 ≤ c) && decide (d = c)
 | .any, c => decide (0 ≤ c) && (decide (c ≠ 10) && decide (c ≠ 13) && decide (c ≠ 8232) && decide (c ≠ 8233))
 | .set cs, c => decide (0 ≤ c) && inB cs c
 | _, _ => false
theorem Gaps.even : ∀ (n : Nat) (l : List Int), l.length ≤ n → Gaps l → l.length % 2 = 0
 | _, [], _, _ => rfl
 | _, [_], _, h => h.elim
 | _, [_, _], _, _ => by simp
 | 0, _ :: _ :: _ :: _, h, _ => by simp at h
 | n + 1, a :: b :: c :: l, hn, h => by
  have := Gaps.even n (c :: l) (by simp only [List.length_cons] at hn ⊢; omega) h.2.2
  simp only [List.length_cons] at this ⊢
  omega
theorem Gaps.count : ∀ (n : Nat) (l : List Int) (lo : Int), l.length ≤ n → Gaps l → (∀ c ∈ l, lo ≤ c ∧ c ≤ 1114111) → lo ≤ 1114112 → (l.length : Int) ≤ 1114114 - lo
 | _, [], _, _, _, _, _ => by simp; omega
 | _, [_], _, _, h, _, _ => h.elim
 | _, [a, b], _, _, _, h, _ => by have := h a (by simp); simp; omega
 | 0, _ :: _ :: _ :: _, _, h, _, _, _ => by simp at h
 | n + 1, a :: b :: c :: l, lo, hn, h, hb, hlo => by
  have h1 := h.1
  have h2 := h.2.1
  have ha := hb a (by simp)
  have hbb := hb b (by simp)
  have hsorted : ∀ (m : Nat) (l : List Int) (a : Int), l.length ≤ m → Gaps (a :: l) → ∀ x ∈ a :: l, a ≤ x := by
   intro m
   induction m with
   | zero => intro l a h1 h2; obtain rfl : l = [] := List.eq_nil_of_length_eq_zero (by omega); exact h2.elim
   | succ m ih =>
    intro l a h1 h2 x hx
    match l, h1, h2, hx with
    | [], _, h2, _ => exact h2.elim
    | [b], _, h2, hx =>
     have : a ≤ b := h2
     simp at hx; omega
    | b :: c :: l, h1, h2, hx =>
     have e1 := h2.1
     have e2 := h2.2.1
     simp only [List.mem_cons] at hx
     rcases hx with rfl | rfl | hx
     ·exact Int.le_refl _
     ·exact e1
     ·have := ih l c (by simp only [List.length_cons] at h1; omega) h2.2.2 x (by simpa using hx)
      omega
  have hs := hsorted l.length l c (Nat.le_refl _) h.2.2
  have := Gaps.count n (c :: l) (b + 2) (by simp only [List.length_cons] at hn ⊢; omega) h.2.2 (fun x hx => ⟨by have := hs x hx; omega, (hb x (by simp only [List.mem_cons] at hx ⊢; exact .inr (.inr hx))).2⟩) (by have := hb c (by simp); omega)
  simp only [List.length_cons] at this ⊢
  push_cast at this ⊢
  omega
theorem rng_size {cs : List Int} (h : Gaps cs) (hc : ∀ c ∈ cs, isR c = true) : (rngB cs).size ≤ 10000000 ∧ cs.length % 2 = 0 ∧ cs.length ≤ 1200000 := by
 have h1 := Gaps.count cs.length cs 0 (Nat.le_refl _) h (fun c hm => by have := hc c hm; simp [isR] at this; omega) (by omega)
 have key : ∀ l : List Int, (l.flatMap frm).length ≤ 4 * l.length := by
  intro l
  induction l with
  | nil => simp
  | cons x l ih =>
   have : (frm x).length ≤ 4 := by
    unfold frm
    split
    ·split
     ·simp
     ·split
      ·simp
      ·split <;> simp
    ·simp
   rw [List.flatMap_cons, List.length_append, List.length_cons]; omega
 have h2 := key cs
 refine ⟨?_, Gaps.even cs.length cs (Nat.le_refl _) h, by omega⟩
 show (cs.flatMap frm).toArray.size ≤ _
 rw [List.size_toArray]
 omega
def Pw (R : Nat → Nat → Prop) : Nat → Nat → Nat → Prop
 | 0, i, j => i = j
 | m + 1, i, j => ∃ k, Pw R m i k ∧ R k j
def Mt (s : List Int) : Rx → Nat → Nat → Prop
 | .emp, i, j => i = j
 | .chr d, i, j => j = i + 1 ∧ ∃ c, s[i]? = some c ∧ atomT (.chr d) c = true
 | .any, i, j => j = i + 1 ∧ ∃ c, s[i]? = some c ∧ atomT .any c = true
 | .set cs, i, j => j = i + 1 ∧ ∃ c, s[i]? = some c ∧ atomT (.set cs) c = true
 | .beg, i, j => i = 0 ∧ j = 0
 | .fin, i, j => i = s.length ∧ j = s.length
 | .cat a b, i, j => ∃ k, Mt s a i k ∧ Mt s b k j
 | .alt a b, i, j => Mt s a i j ∨ Mt s b i j
 | .rep x mn mx, i, j => ∃ m : Nat, mn ≤ m ∧ (mx < 0 ∨ (m : Int) ≤ mx) ∧ Pw (Mt s x) m i j
def Img (R : Nat → Nat → Prop) (x y : List Bool) : Prop := y.length = x.length ∧ ∀ j, y[j]? = some true ↔ ∃ i, x[i]? = some true ∧ R i j
theorem Img.id (x : List Bool) : Img (fun i j => i = j) x x := ⟨rfl, fun j => ⟨fun h => ⟨j, h, rfl⟩, fun ⟨i, h, e⟩ => by rw [← e]; exact h⟩⟩
theorem Img.comp {R S : Nat → Nat → Prop} {x y z : List Bool} (h : Img R x y) (k : Img S y z) : Img (fun i j => ∃ m, R i m ∧ S m j) x z := by
 refine ⟨k.1.trans h.1, fun j => ?_⟩
 rw [k.2]
 constructor
 ·rintro ⟨m, hm, hs⟩
  obtain ⟨i, hi, hr⟩ := (h.2 m).1 hm
  exact ⟨i, hi, m, hr, hs⟩
 ·rintro ⟨i, hi, m, hr, hs⟩
  exact ⟨m, (h.2 m).2 ⟨i, hi, hr⟩, hs⟩
theorem Img.wk {R S : Nat → Nat → Prop} {x y : List Bool} (h : Img R x y) (e : ∀ i j, R i j ↔ S i j) : Img S x y := ⟨h.1, fun j => by rw [h.2]; simp only [e]⟩
def orZ (x y : List Bool) : List Bool := List.zipWith (· || ·) x y
theorem orZ_get (x y : List Bool) (hl : x.length = y.length) (j : Nat) : (orZ x y)[j]? = some true ↔ x[j]? = some true ∨ y[j]? = some true := by
 unfold orZ
 rw [List.getElem?_zipWith]
 by_cases h : j < x.length
 ·obtain ⟨a, ha⟩ : ∃ a, x[j]? = some a := ⟨_, List.getElem?_eq_getElem h⟩
  obtain ⟨b, hb⟩ : ∃ b, y[j]? = some b := ⟨_, List.getElem?_eq_getElem (by omega)⟩
  rw [ha, hb]
  simp
 ·have h1 : x[j]? = none := by simp; omega
  have h2 : y[j]? = none := by simp; omega
  rw [h1, h2]
  simp
theorem Img.or {R S : Nat → Nat → Prop} {x y z : List Bool} (h : Img R x y) (k : Img S x z) : Img (fun i j => R i j ∨ S i j) x (orZ y z) := by
 refine ⟨by unfold orZ; rw [List.length_zipWith, h.1, k.1, Nat.min_self], fun j => ?_⟩
 rw [orZ_get y z (by rw [h.1, k.1]), h.2, k.2]
 constructor
 ·rintro (⟨i, hi, hr⟩ | ⟨i, hi, hr⟩)
  ·exact ⟨i, hi, .inl hr⟩
  ·exact ⟨i, hi, .inr hr⟩
 ·rintro ⟨i, hi, hr | hr⟩
  ·exact .inl ⟨i, hi, hr⟩
  ·exact .inr ⟨i, hi, hr⟩
theorem bools_ext {x y : List Bool} (hl : x.length = y.length) (h : ∀ j : Nat, x[j]? = some true ↔ y[j]? = some true) : x = y := by
 apply List.ext_getElem?
 intro j
 by_cases hj : j < x.length
 ·obtain ⟨a, ha⟩ : ∃ a, x[j]? = some a := ⟨_, List.getElem?_eq_getElem hj⟩
  obtain ⟨b, hb⟩ : ∃ b, y[j]? = some b := ⟨_, List.getElem?_eq_getElem (by omega)⟩
  have := h j
  rw [ha, hb] at this ⊢
  cases a <;> cases b <;> simp at this ⊢
 ·have h1 : x[j]? = none := by simp; omega
  have h2 : y[j]? = none := by simp; omega
  rw [h1, h2]
theorem Pw.stay {R : Nat → Nat → Prop} {x y : List Bool} {i : Nat} (h : Img (Pw R i) x y) (k : Img R y y) : ∀ d, Img (Pw R (i + d)) x y
 | 0 => h
 | d + 1 => (Pw.stay h k d).comp k
def Bt (R : Nat → Nat → Prop) (a b : Nat) (i j : Nat) : Prop := ∃ m : Nat, a ≤ m ∧ m ≤ b ∧ Pw R m i j
theorem Bt.start {R : Nat → Nat → Prop} {x y : List Bool} {a : Nat} (h : Img (Pw R a) x y) : Img (Bt R a a) x y := by
 refine h.wk fun i j => ⟨fun h => ⟨a, Nat.le_refl _, Nat.le_refl _, h⟩, ?_⟩
 rintro ⟨m, h1, h2, h3⟩
 have e : m = a := by omega
 rw [← e]
 exact h3
theorem Bt.next {R : Nat → Nat → Prop} {x y z : List Bool} {a b : Nat} (hab : a ≤ b) (h : Img (Bt R a b) x y) (k : Img (Pw R (b + 1)) x z) : Img (Bt R a (b + 1)) x (orZ y z) :=
 (h.or k).wk fun i j => by
  constructor
  ·rintro (⟨m, h1, h2, h3⟩ | h3)
   ·exact ⟨m, h1, by omega, h3⟩
   ·exact ⟨b + 1, by omega, Nat.le_refl _, h3⟩
  ·rintro ⟨m, h1, h2, h3⟩
   by_cases hm : m = b + 1
   ·subst hm; exact .inr h3
   ·exact .inl ⟨m, h1, by omega, h3⟩
theorem Bt.full {R : Nat → Nat → Prop} {x y : List Bool} {a b : Nat} (hab : a ≤ b) (h : Img (Bt R a b) x y) (k : Img (Bt R a (b + 1)) x y) : ∀ (m i j : Nat), a ≤ m → x[i]? = some true → Pw R m i j → y[j]? = some true := by
 intro m
 induction m with
 | zero =>
  intro i j ha hx hp
  exact (h.2 j).2 ⟨i, hx, 0, ha, by omega, hp⟩
 | succ m ih =>
  intro i j ha hx hp
  by_cases hm : m + 1 ≤ b + 1
  ·exact (k.2 j).2 ⟨i, hx, m + 1, ha, hm, hp⟩
  ·obtain ⟨l, hp, hr⟩ := hp
   have hl := ih i l (by omega) hx hp
   obtain ⟨i', hx', m', h1, h2, h3⟩ := (h.2 l).1 hl
   exact (k.2 j).2 ⟨i', hx', m' + 1, by omega, by omega, l, h3, hr⟩
theorem rep_full {s : List Int} {r : Rx} {x y : List Bool} {mn mx : Int} {a b : Nat} (hmn : mn = a) (hmx : mx < 0 ∨ (b : Int) ≤ mx) (hab : a ≤ b) (h : Img (Bt (Mt s r) a b) x y) (k : Img (Bt (Mt s r) a (b + 1)) x y) : Img (Mt s (.rep r mn mx)) x y := by
 refine ⟨h.1, fun j => ⟨fun hy => ?_, fun ⟨i, hx, m, h1, h2, h3⟩ => Bt.full hab h k m i j (by omega) hx h3⟩⟩
 obtain ⟨i, hx, m, h1, h2, h3⟩ := (h.2 j).1 hy
 exact ⟨i, hx, m, by omega, by omega, h3⟩
theorem rep_end {s : List Int} {r : Rx} {x y : List Bool} {mn mx : Int} {a b : Nat} (hmn : mn = a) (hmx : mx = b) (h : Img (Bt (Mt s r) a b) x y) : Img (Mt s (.rep r mn mx)) x y := by
 refine ⟨h.1, fun j => ?_⟩
 rw [h.2]
 constructor
 ·rintro ⟨i, hx, m, h1, h2, h3⟩; exact ⟨i, hx, m, by omega, by omega, h3⟩
 ·rintro ⟨i, hx, m, h1, h2, h3⟩; exact ⟨i, hx, m, by omega, by omega, h3⟩
theorem or_count : ∀ (x z : List Bool), x.length = z.length → orZ x z ≠ x → x.count true < (orZ x z).count true
 | [], [], _, h => absurd rfl h
 | a :: x, b :: z, hl, h => by
  have hl' : x.length = z.length := by simpa using hl
  have hc : orZ (a :: x) (b :: z) = (a || b) :: orZ x z := rfl
  have hle : x.count true ≤ (orZ x z).count true := by
   by_cases h0 : orZ x z = x
   ·rw [h0]; exact Nat.le_refl _
   ·exact Nat.le_of_lt (or_count x z hl' h0)
  rw [hc] at h ⊢
  by_cases hab : (a || b) = a
  ·rw [hab] at h ⊢
   have h0 : orZ x z ≠ x := fun e => h (by rw [e])
   have := or_count x z hl' h0
   rw [List.count_cons, List.count_cons]
   omega
  ·have ha : a = false := by cases a <;> simp_all
   have hb : b = true := by cases b <;> simp_all
   subst ha hb
   rw [List.count_cons, List.count_cons]
   simp
   omega
 | [], _ :: _, hl, _ => by simp at hl
 | _ :: _, [], hl, _ => by simp at hl
theorem count_le (x : List Bool) : x.count true ≤ x.length := List.count_le_length
end Go.Proofs.YthhnmpkgleelfaaGreatDoor
