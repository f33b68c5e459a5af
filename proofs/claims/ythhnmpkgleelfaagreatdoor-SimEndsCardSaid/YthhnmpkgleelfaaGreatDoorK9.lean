import Derived.Test.YthhnmpkgleelfaaGreatDoorK8
import Derived.Test.YthhnmpkgleelfaaGreatDoorK6
set_option linter.unusedVariables false
set_option linter.unusedSimpArgs false
namespace Go.Proofs.YthhnmpkgleelfaaGreatDoor
def othP : Int → Spans → Spans
 | nx, [] => if nx ≤ 1114111 then [(nx, 1114111)] else []
 | nx, (a, b) :: l => (if nx < a then [(nx, a - 1)] else []) ++ othP (max nx (b + 1)) l
def SortedS (l : Spans) : Prop := l.Pairwise fun p q => p.1 ≤ q.1
def BdS (l : Spans) : Prop := ∀ p ∈ l, 0 ≤ p.1 ∧ p.1 ≤ p.2 ∧ p.2 ≤ 1114111
theorem inSp_nil (c : Int) : ¬ inSp [] c := fun ⟨_, h, _⟩ => by simp at h
theorem othP_spec : ∀ (l : Spans) (nx : Int), 0 ≤ nx → SortedS l → BdS l →
  GapsS (othP nx l) ∧ (∀ p ∈ othP nx l, nx ≤ p.1 ∧ p.1 ≤ p.2 ∧ p.2 ≤ 1114111) ∧ ∀ c, inSp (othP nx l) c ↔ nx ≤ c ∧ c ≤ 1114111 ∧ ¬ inSp l c
 | [], nx, h0, _, _ => by
  unfold othP
  split
  ·rename_i h
   refine ⟨?_, fun p hp => ?_, fun c => ?_⟩
   ·exact GapsS.cons h GapsS.nil (fun c hc => absurd hc (inSp_nil c))
   ·simp at hp; subst hp; exact ⟨Int.le_refl _, h, Int.le_refl _⟩
   ·rw [inSp_cons]
    have := inSp_nil c
    simp only [this, or_false, not_false_eq_true, and_true]
  ·refine ⟨GapsS.nil, fun p hp => by simp at hp, fun c => ?_⟩
   have := inSp_nil c
   simp only [this, false_iff]
   omega
 | (a, b) :: l, nx, h0, hs, hb => by
  have hs2 : SortedS l := (List.pairwise_cons.1 hs).2
  have hs1 : ∀ q ∈ l, a ≤ q.1 := (List.pairwise_cons.1 hs).1
  have hab := hb (a, b) (by simp)
  simp only at hab
  obtain ⟨ih1, ih2, ih3⟩ := othP_spec l (max nx (b + 1)) (by omega) hs2 (fun p hp => hb p (List.mem_cons_of_mem _ hp))
  have hlow : ∀ c, inSp l c → a ≤ c := by
   rintro c ⟨q, hq, h1, _⟩
   have := hs1 q hq
   omega
  unfold othP
  by_cases hn : nx < a
  ·rw [if_pos hn, List.singleton_append]
   refine ⟨GapsS.cons (by omega) ih1 (fun c hc => ?_), fun p hp => ?_, fun c => ?_⟩
   ·have := ((ih3 c).1 hc).1
    omega
   ·rcases List.mem_cons.1 hp with rfl | hp
    ·simp only; omega
    ·have := ih2 p hp; omega
   ·rw [inSp_cons, inSp_cons, ih3]
    simp only
    constructor
    ·rintro (⟨h1, h2⟩ | ⟨h1, h2, h3⟩)
     ·refine ⟨h1, by omega, ?_⟩
      rintro (⟨h4, _⟩ | h4)
      ·omega
      ·have := hlow c h4; omega
     ·refine ⟨by omega, h2, ?_⟩
      rintro (⟨_, h4⟩ | h4)
      ·omega
      ·exact h3 h4
    ·rintro ⟨h1, h2, h3⟩
     by_cases hc : c < a
     ·exact .inl ⟨h1, by omega⟩
     ·refine .inr ⟨?_, h2, fun h4 => h3 (.inr h4)⟩
      have : ¬ (c ≤ b) := fun h4 => h3 (.inl ⟨by omega, h4⟩)
      omega
  ·rw [if_neg hn, List.nil_append]
   refine ⟨ih1, fun p hp => by have := ih2 p hp; omega, fun c => ?_⟩
   rw [inSp_cons, ih3]
   simp only
   constructor
   ·rintro ⟨h1, h2, h3⟩
    refine ⟨by omega, h2, ?_⟩
    rintro (⟨_, h4⟩ | h4)
    ·omega
    ·exact h3 h4
   ·rintro ⟨h1, h2, h3⟩
    refine ⟨?_, h2, fun h4 => h3 (.inr h4)⟩
    have : ¬ (c ≤ b) := fun h4 => h3 (.inl ⟨by omega, h4⟩)
    omega
theorem inSp_perm {l m : Spans} (h : l.Perm m) (c : Int) : inSp l c ↔ inSp m c := by
 unfold inSp
 constructor
 ·rintro ⟨p, hp, h2⟩; exact ⟨p, h.mem_iff.1 hp, h2⟩
 ·rintro ⟨p, hp, h2⟩; exact ⟨p, h.mem_iff.2 hp, h2⟩
theorem BdS.perm {l m : Spans} (h : l.Perm m) (hb : BdS m) : BdS l := fun p hp => hb p (h.mem_iff.1 hp)
abbrev sur : Int × Int := (55296, 57343)
theorem BdS.sur {l : Spans} (h : BdS l) : BdS (l ++ [YthhnmpkgleelfaaGreatDoor.sur]) := fun p hp => by
 rcases List.mem_append.1 hp with hp | hp
 ·exact h p hp
 ·rw [List.mem_singleton.1 hp]; decide
theorem BdS.oth {l : Spans} (hs : SortedS l) (h : BdS l) : BdS (othP 0 l) := (othP_spec l 0 (Int.le_refl _) hs h).2.1
theorem isR_iff (c : Int) : isR c = true ↔ 0 ≤ c ∧ c ≤ 1114111 ∧ ¬ (55296 ≤ c ∧ c ≤ 57343) := by
 simp [isR]; omega
theorem set_core {S : Spans} (hs : SortedS S) (hb : BdS S) (hm : sur ∈ S) : SetOf (fun c => ¬ inSp S c) (flatS (othP 0 S)) := by
 obtain ⟨h1, h2, h3⟩ := othP_spec S 0 (Int.le_refl _) hs hb
 have key : ∀ c, inSp (othP 0 S) c → isR c = true := by
  intro c hc
  obtain ⟨k1, k2, k3⟩ := (h3 c).1 hc
  rw [isR_iff]
  exact ⟨k1, k2, fun k => k3 ⟨sur, hm, k⟩⟩
 refine ⟨h1, ?_, fun c => ?_⟩
 ·have hf : ∀ (l : Spans), (∀ p ∈ l, isR p.1 = true ∧ isR p.2 = true) → ∀ c ∈ flatS l, isR c = true := by
   intro l
   induction l with
   | nil => intro _ c hc; simp [flatS] at hc
   | cons p l ih =>
    obtain ⟨a, b⟩ := p
    intro h c hc
    simp only [flatS, List.mem_cons] at hc
    have := h (a, b) (by simp)
    rcases hc with rfl | rfl | hc
    ·exact this.1
    ·exact this.2
    ·exact ih (fun p hp => h p (List.mem_cons_of_mem _ hp)) c hc
  refine hf _ fun p hp => ?_
  have := (h2 p hp).2.1
  exact ⟨key _ ⟨p, hp, Int.le_refl _, this⟩, key _ ⟨p, hp, this, Int.le_refl _⟩⟩
 ·rw [inCs_flat]
  constructor
  ·intro hc; exact ⟨key c hc, ((h3 c).1 hc).2.2⟩
  ·rintro ⟨hr, hn⟩
   rw [isR_iff] at hr
   exact (h3 c).2 ⟨hr.1, hr.2.1, hn⟩
theorem inSp_sur {c : Int} (hc : isR c = true) : ¬ inSp [sur] c := by
 rintro ⟨p, hp, h⟩
 rw [List.mem_singleton.1 hp] at h
 rw [isR_iff] at hc
 exact hc.2.2 h
theorem set_neg {L S : Spans} (hL : BdS L) (hs : SortedS S) (hp : S.Perm (L ++ [sur])) : SetOf (fun c => ¬ inSp L c) (flatS (othP 0 S)) := by
 refine (set_core hs (hL.sur.perm hp) (hp.mem_iff.2 (by simp))).wk fun c hc => ?_
 rw [inSp_perm hp, inSp_append]
 have := inSp_sur hc
 simp only [this, or_false]
theorem set_pos {L S1 S : Spans} (hL : BdS L) (hs1 : SortedS S1) (hp1 : S1.Perm L) (hs : SortedS S) (hp : S.Perm (othP 0 S1 ++ [sur])) : SetOf (inSp L) (flatS (othP 0 S)) := by
 have hb1 := hL.perm hp1
 refine (set_neg (BdS.oth hs1 hb1) hs hp).wk fun c hc => ?_
 rw [(othP_spec S1 0 (Int.le_refl _) hs1 hb1).2.2, inSp_perm hp1]
 rw [isR_iff] at hc
 constructor
 ·intro h
  exact Classical.byContradiction fun hn => h ⟨hc.1, hc.2.1, hn⟩
 ·rintro h ⟨_, _, hn⟩
  exact hn h
theorem othP_len : ∀ (l : Spans) (nx : Int), (othP nx l).length ≤ l.length + 1
 | [], nx => by unfold othP; split <;> simp
 | (a, b) :: l, nx => by
  have := othP_len l (max nx (b + 1))
  unfold othP
  split <;> simp <;> omega
theorem nx_app {xs : List UInt8} (h : 0 ≤ nx xs) (z : List UInt8) : nx (xs ++ z) = nx xs ∧ nl (xs ++ z) = nl xs := by
 rcases nx_cases xs with ⟨_, h1, _⟩ | ⟨h0, hd, h1, h2, _⟩ | ⟨_, _, h1, _⟩
 ·omega
 ·have hf := dec_frm hd
  have hne : xs ++ z ≠ [] := fun e => h0 (List.append_eq_nil_iff.1 e).1
  have e1 : xs = frm (dec xs).1 ++ xs.drop (dec xs).2.1 := by rw [hf.1, List.take_append_drop]
  have d1 := dec_of_frm (dec xs).1 hf.2 (xs.drop (dec xs).2.1)
  have d2 := dec_of_frm (dec xs).1 hf.2 (xs.drop (dec xs).2.1 ++ z)
  rw [← List.append_assoc, ← e1] at d2
  rw [← e1] at d1
  have d3 : dec (xs ++ z) = dec xs := d2.trans d1.symm
  unfold nx nl
  rw [if_neg hne, if_neg h0, if_neg hne, if_neg h0, d3]
  exact ⟨rfl, rfl⟩
 ·omega
abbrev zb (t : List UInt8) : List UInt8 := 41 :: t
theorem nx_zb (t : List UInt8) : nx (zb t) = 41 := nx_lit _ _ (by decide)
theorem nx_ext {xs : List UInt8} (h : nx xs ≠ -2) (t : List UInt8) : nx (xs ++ zb t) = nx xs ∨ (nx xs = -1 ∧ nx (xs ++ zb t) = 41) := by
 rcases nx_cases xs with ⟨rfl, h1, _⟩ | ⟨_, _, h1, _, _⟩ | ⟨_, _, h1, _⟩
 ·exact .inr ⟨h1, nx_zb t⟩
 ·exact .inl (nx_app (by omega) _).1
 ·exact absurd h1 h
theorem hasDig_app {xs : List UInt8} (h : hasDig xs = true) (z : List UInt8) : hasDig (xs ++ z) = true := by
 cases xs with
 | nil => cases h
 | cons a t => exact h
theorem numF_app (z : List UInt8) : ∀ (xs : List UInt8) (n m : Int) (b : UInt8) (ys : List UInt8), numF n xs = (m, b :: ys) → numF n (xs ++ z) = (m, b :: ys ++ z)
 | [], n, m, b, ys, h => by unfold numF at h; cases h
 | a :: t, n, m, b, ys, h => by
  unfold numF at h
  rw [List.cons_append]
  unfold numF
  split at h
  ·rename_i hd
   rw [if_pos hd]
   exact numF_app z t _ _ _ _ h
  ·rename_i hd
   rw [if_neg hd]
   injection h with h1 h2
   injection h2 with h2 h3
   subst h1 h2 h3
   rfl
theorem Braces.app {xs ys : List UInt8} {n m : Int} (h : Braces xs n m ys) (z : List UInt8) : Braces (xs ++ z) n m (ys ++ z) := by
 cases h with
 | same h e hn => exact .same (hasDig_app h z) (numF_app z _ _ _ _ _ e) hn
 | more h e hn => exact .more (hasDig_app h z) (numF_app z _ _ _ _ _ e) hn
 | upto h e h2 e2 hn hm => exact .upto (hasDig_app h z) (numF_app z _ _ _ _ _ e) (hasDig_app h2 z) (numF_app z _ _ _ _ _ e2) hn hm
theorem EscC.app {xs ys : List UInt8} {c : Int} (h : EscC xs c ys) (z : List UInt8) : EscC (xs ++ z) c (ys ++ z) := by
 cases h with
 | plain h => exact .plain h
 | t => exact .t
 | n => exact .n
 | v => exact .v
 | f => exact .f
 | r => exact .r
 | u h h2 => exact .u h h2
 | uu h h2 h3 h4 => exact .uu h h2 h3 h4
theorem EscS.app {xs ys : List UInt8} {s : Spans} (h : EscS xs s ys) (z : List UInt8) : EscS (xs ++ z) s (ys ++ z) := by
 cases h with
 | d => exact .d
 | w => exact .w
 | s => exact .s
 | D => exact .D
 | W => exact .W
 | S => exact .S
theorem drop_app {xs : List UInt8} (z : List UInt8) : (xs ++ z).drop (nl xs) = xs.drop (nl xs) ++ z := List.drop_append_of_le_length (nl_le xs)
theorem Single.app {f : Bool} {xs ys : List UInt8} {c : Int} (h : Single f xs c ys) (z : List UInt8) : Single f (xs ++ z) c (ys ++ z) := by
 cases h with
 | esc h => exact .esc (h.app z)
 | dash h => exact Single.dash (t := ys ++ z) (by rw [(nx_app (by omega) z).1]; exact h)
 | dash1 => exact .dash1
 | chr h0 h1 h2 h3 =>
  obtain ⟨e1, e2⟩ := nx_app h0 z
  have := Single.chr (f := f) (xs := xs ++ z) (by rw [e1]; exact h0) (by rw [e1]; exact h1) (by rw [e1]; exact h2) (by rw [e1]; exact h3)
  rw [e1, e2, drop_app] at this
  exact this
theorem noranges_app {ys : List UInt8} (h : ¬ ranges ys) (t : List UInt8) : ¬ ranges (ys ++ zb t) := by
 rintro ⟨h1, h2⟩
 cases ys with
 | nil => rw [List.nil_append, nx_zb] at h1; exact absurd h1 (by decide)
 | cons a u =>
  obtain ⟨v, e, _⟩ := nx_byte (c := 45) h1 (by decide)
  rw [List.cons_append] at e
  injection e with e _
  subst e
  refine h ⟨nx_lit _ _ (by decide), fun h3 => h2 ?_⟩
  rw [List.drop_succ_cons, List.drop_zero] at h3
  rw [List.cons_append, List.drop_succ_cons, List.drop_zero, (nx_app (by omega) _).1]
  exact h3
theorem Item.app {f : Bool} {xs ys : List UInt8} {s : Spans} (h : Item f xs s ys) (t : List UInt8) : Item f (xs ++ zb t) s (ys ++ zb t) := by
 cases h with
 | cls h => exact .cls (h.app _)
 | one h h2 => exact .one (h.app _) (noranges_app h2 t)
 | two h h2 h3 h4 =>
  refine .two (h.app _) ⟨nx_lit _ _ (by decide), ?_⟩ (h3.app _) h4
  have h5 := h2.2
  rw [List.drop_succ_cons, List.drop_zero] at h5
  show nx ((_ :: (_ ++ zb t)).drop 1) ≠ 93
  rw [List.drop_succ_cons, List.drop_zero, (nx_app h3.nx _).1]
  exact h5
theorem Item.nx {f : Bool} {xs ys : List UInt8} {s : Spans} (h : Item f xs s ys) : 0 ≤ YthhnmpkgleelfaaGreatDoor.nx xs := by
 cases h with
 | cls h => rw [nx_lit _ _ (by decide)]; exact Int.natCast_nonneg _
 | one h => exact h.nx
 | two h => exact h.nx
theorem Items.app {f : Bool} {xs ys : List UInt8} {s : Spans} (h : Items f xs s ys) (t : List UInt8) : Items f (xs ++ zb t) s (ys ++ zb t) := by
 induction h with
 | done => exact .done
 | more h0 h h2 ih => exact .more (by rw [(nx_app h.nx _).1]; exact h0) (h.app t) ih
theorem Quant.app {xs ys : List UInt8} {n m : Int} (h : Quant xs n m ys) (z : List UInt8) : Quant (xs ++ z) n m (ys ++ z) := by
 cases h with
 | star => exact .star
 | plus => exact .plus
 | quest => exact .quest
 | braces h => exact .braces (h.app z)
theorem SeqL.done_nx : ∀ {xs ys : List UInt8} {l : List Rx}, SeqL xs l ys → YthhnmpkgleelfaaGreatDoor.nx ys = -1 ∨ YthhnmpkgleelfaaGreatDoor.nx ys = 124 ∨ YthhnmpkgleelfaaGreatDoor.nx ys = 41
 | _, _, _, .done h => h
 | _, _, _, .more _ _ h2 => h2.done_nx
theorem rpt_app {ys : List UInt8} (h : rptB (nx ys) = false) (h2 : nx ys ≠ -2) (t : List UInt8) : rptB (nx (ys ++ zb t)) = false := by
 rcases nx_ext h2 t with e | ⟨_, e⟩
 ·rw [e]; exact h
 ·rw [e]; decide
mutual
theorem AltL.app (t : List UInt8) : ∀ {xs ys : List UInt8} {l : List Rx}, AltL xs l ys → AltL (xs ++ zb t) l (ys ++ zb t)
 | _, ys, _, .one h h2 => .one (h.app t) (by
   have h3 := h.done_nx
   rcases nx_ext (xs := ys) (by omega) t with e | ⟨_, e⟩
   ·rw [e]; exact h2
   ·rw [e]; decide)
 | _, _, _, .more h h2 => .more (h.app t) (h2.app t)
theorem SeqL.app (t : List UInt8) : ∀ {xs ys : List UInt8} {l : List Rx}, SeqL xs l ys → SeqL (xs ++ zb t) l (ys ++ zb t)
 | xs, _, _, .done h => .done (by
   rcases nx_ext (xs := xs) (by omega) t with e | ⟨_, e⟩
   ·rw [e]; exact h
   ·rw [e]; exact .inr (.inr rfl))
 | _, _, _, .more h0 h h2 => .more (by rw [(nx_app h.nx _).1]; exact h0) (h.app t h2.nx) (h2.app t)
theorem Piece.app (t : List UInt8) : ∀ {xs ys : List UInt8} {x : Rx}, Piece xs x ys → nx ys ≠ -2 → Piece (xs ++ zb t) x (ys ++ zb t)
 | _, _, _, .bare h h2, hn => .bare (h.app t) (rpt_app h2 hn t)
 | _, _, _, .rep h0 h h2 h3, hn => .rep (by rw [(nx_app h.nx _).1]; exact h0) (h.app t) (h2.app _) (rpt_app h3 hn t)
theorem Atom.app (t : List UInt8) : ∀ {xs ys : List UInt8} {x : Rx}, Atom xs x ys → Atom (xs ++ zb t) x (ys ++ zb t)
 | _, _, _, .any => .any
 | _, _, _, .beg => .beg
 | _, _, _, .fin => .fin
 | _, _, _, .group (t := u) (ys := y) h0 h => .group (t := u ++ zb t) (ys := y ++ zb t) (by
   rcases nx_ext h.nx t with e | ⟨_, e⟩
   ·rw [e]; exact h0
   ·rw [e]; decide) (h.app t)
 | _, _, _, .group2 h => .group2 (h.app t)
 | _, _, _, .cls (t := u) (ys := y) h0 h hs => .cls (t := u ++ zb t) (ys := y ++ zb t) (by rw [(nx_app h.nx _).1]; exact h0) (h.app t) hs
 | _, _, _, .classN h hs => .classN (h.app t) hs
 | _, _, _, .escS h hs => .escS (h.app _) hs
 | _, _, _, .escC h => .escC (h.app _)
 | xs, _, _, .chr h0 h1 h2 => by
  obtain ⟨e1, e2⟩ := nx_app h0 (zb t)
  have := Atom.chr (xs := xs ++ zb t) (by rw [e1]; exact h0) (by rw [e1]; exact h1) (by rw [e1]; exact h2)
  rw [e1, e2, drop_app] at this
  exact this
end
end Go.Proofs.YthhnmpkgleelfaaGreatDoor
