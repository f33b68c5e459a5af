import Derived.Test.YthhnmpkgleelfaaGreatDoorM4
set_option linter.unusedVariables false
set_option linter.unusedSimpArgs false
namespace Go.Proofs.YthhnmpkgleelfaaGreatDoor
theorem nx_app {xs : List UInt8} (h : 0 ≤ nx xs) (z : List UInt8) : nx (xs ++ z) = nx xs ∧ nl (xs ++ z) = nl xs := by
 rcases nx_cases xs with ⟨_, h1, _⟩ | ⟨h0, hd, h1, h2, _⟩ | ⟨_, _, h1, _⟩
 ·omega
 ·have hf := dec_frm hd
  have hne : xs ++ z ≠ [] := fun e => h0 (List.append_eq_nil_iff.1 e).1
  have e1 : xs = frm (dec xs).1 ++ xs.drop (dec xs).2.1 := by rw [hf.1, List.take_append_drop]
  have d1 := dec_of_frm (dec xs).1 hf.2 (xs.drop (dec xs).2.1)
  have d2 := dec_of_frm (dec xs).1 hf.2 (xs.drop (dec xs).2.1 ++ z)
  rw [← List.append_assoc, ← e1] at d2
  rw [← e1] at d1
  have d3 : dec (xs ++ z) = dec xs := d2.trans d1.symm
  unfold nx nl
  rw [if_neg hne, if_neg h0, if_neg hne, if_neg h0, d3]
  exact ⟨rfl, rfl⟩
 ·omega
abbrev zb (t : List UInt8) : List UInt8 := 41 :: t
theorem nx_zb (t : List UInt8) : nx (zb t) = 41 := nx_lit _ _ (by decide)
theorem nx_ext {xs : List UInt8} (h : nx xs ≠ -2) (t : List UInt8) : nx (xs ++ zb t) = nx xs ∨ (nx xs = -1 ∧ nx (xs ++ zb t) = 41) := by
 rcases nx_cases xs with ⟨rfl, h1, _⟩ | ⟨_, _, h1, _, _⟩ | ⟨_, _, h1, _⟩
 ·exact .inr ⟨h1, nx_zb t⟩
 ·exact .inl (nx_app (by omega) _).1
 ·exact absurd h1 h
theorem hasDig_app {xs : List UInt8} (h : hasDig xs = true) (z : List UInt8) : hasDig (xs ++ z) = true := by
 cases xs with
 | nil => cases h
 | cons a t => exact h
theorem numF_app (z : List UInt8) : ∀ (xs : List UInt8) (n m : Int) (b : UInt8) (ys : List UInt8), numF n xs = (m, b :: ys) → numF n (xs ++ z) = (m, b :: ys ++ z)
 | [], n, m, b, ys, h => by unfold numF at h; cases h
 | a :: t, n, m, b, ys, h => by
  unfold numF at h
  rw [List.cons_append]
  unfold numF
  split at h
  ·rename_i hd
   rw [if_pos hd]
   exact numF_app z t _ _ _ _ h
  ·rename_i hd
   rw [if_neg hd]
   injection h with h1 h2
   injection h2 with h2 h3
   subst h1 h2 h3
   rfl
theorem Braces.app {xs ys : List UInt8} {n m : Int} (h : Braces xs n m ys) (z : List UInt8) : Braces (xs ++ z) n m (ys ++ z) := by
 cases h with
 | same h e hn => exact .same (hasDig_app h z) (numF_app z _ _ _ _ _ e) hn
 | more h e hn => exact .more (hasDig_app h z) (numF_app z _ _ _ _ _ e) hn
 | upto h e h2 e2 hn hm => exact .upto (hasDig_app h z) (numF_app z _ _ _ _ _ e) (hasDig_app h2 z) (numF_app z _ _ _ _ _ e2) hn hm
theorem EscC.app {xs ys : List UInt8} {c : Int} (h : EscC xs c ys) (z : List UInt8) : EscC (xs ++ z) c (ys ++ z) := by
 cases h with
 | plain h => exact .plain h
 | t => exact .t
 | n => exact .n
 | v => exact .v
 | f => exact .f
 | r => exact .r
 | u h h2 => exact .u h h2
 | uu h h2 h3 h4 => exact .uu h h2 h3 h4
theorem EscS.app {xs ys : List UInt8} {s : Spans} (h : EscS xs s ys) (z : List UInt8) : EscS (xs ++ z) s (ys ++ z) := by
 cases h with
 | d => exact .d
 | w => exact .w
 | s => exact .s
 | D => exact .D
 | W => exact .W
 | S => exact .S
theorem drop_app {xs : List UInt8} (z : List UInt8) : (xs ++ z).drop (nl xs) = xs.drop (nl xs) ++ z := List.drop_append_of_le_length (nl_le xs)
theorem Single.app {f : Bool} {xs ys : List UInt8} {c : Int} (h : Single f xs c ys) (z : List UInt8) : Single f (xs ++ z) c (ys ++ z) := by
 cases h with
 | esc h => exact .esc (h.app z)
 | dash h => exact Single.dash (t := ys ++ z) (by rw [(nx_app (by omega) z).1]; exact h)
 | dash1 => exact .dash1
 | chr h0 h1 h2 h3 =>
  obtain ⟨e1, e2⟩ := nx_app h0 z
  have := Single.chr (f := f) (xs := xs ++ z) (by rw [e1]; exact h0) (by rw [e1]; exact h1) (by rw [e1]; exact h2) (by rw [e1]; exact h3)
  rw [e1, e2, drop_app] at this
  exact this
theorem noranges_app {ys : List UInt8} (h : ¬ ranges ys) (t : List UInt8) : ¬ ranges (ys ++ zb t) := by
 rintro ⟨h1, h2⟩
 cases ys with
 | nil => rw [List.nil_append, nx_zb] at h1; exact absurd h1 (by decide)
 | cons a u =>
  obtain ⟨v, e, _⟩ := nx_byte (c := 45) h1 (by decide)
  rw [List.cons_append] at e
  injection e with e _
  subst e
  refine h ⟨nx_lit _ _ (by decide), fun h3 => h2 ?_⟩
  rw [List.drop_succ_cons, List.drop_zero] at h3
  rw [List.cons_append, List.drop_succ_cons, List.drop_zero, (nx_app (by omega) _).1]
  exact h3
theorem Item.app {f : Bool} {xs ys : List UInt8} {s : Spans} (h : Item f xs s ys) (t : List UInt8) : Item f (xs ++ zb t) s (ys ++ zb t) := by
 cases h with
 | cls h => exact .cls (h.app _)
 | one h h2 => exact .one (h.app _) (noranges_app h2 t)
 | two h h2 h3 h4 =>
  refine .two (h.app _) ⟨nx_lit _ _ (by decide), ?_⟩ (h3.app _) h4
  have h5 := h2.2
  rw [List.drop_succ_cons, List.drop_zero] at h5
  show nx ((_ :: (_ ++ zb t)).drop 1) ≠ 93
  rw [List.drop_succ_cons, List.drop_zero, (nx_app h3.nx _).1]
  exact h5
theorem Item.nx {f : Bool} {xs ys : List UInt8} {s : Spans} (h : Item f xs s ys) : 0 ≤ YthhnmpkgleelfaaGreatDoor.nx xs := by
 cases h with
 | cls h => rw [nx_lit _ _ (by decide)]; exact Int.natCast_nonneg _
 | one h => exact h.nx
 | two h => exact h.nx
theorem Items.app {f : Bool} {xs ys : List UInt8} {s : Spans} (h : Items f xs s ys) (t : List UInt8) : Items f (xs ++ zb t) s (ys ++ zb t) := by
 induction h with
 | done => exact .done
 | more h0 h h2 ih => exact .more (by rw [(nx_app h.nx _).1]; exact h0) (h.app t) ih
theorem Quant.app {xs ys : List UInt8} {n m : Int} (h : Quant xs n m ys) (z : List UInt8) : Quant (xs ++ z) n m (ys ++ z) := by
 cases h with
 | star => exact .star
 | plus => exact .plus
 | quest => exact .quest
 | braces h => exact .braces (h.app z)
theorem SeqL.done_nx : ∀ {xs ys : List UInt8} {l : List Rx}, SeqL xs l ys → YthhnmpkgleelfaaGreatDoor.nx ys = -1 ∨ YthhnmpkgleelfaaGreatDoor.nx ys = 124 ∨ YthhnmpkgleelfaaGreatDoor.nx ys = 41
 | _, _, _, .done h => h
 | _, _, _, .more _ _ h2 => h2.done_nx
theorem rpt_app {ys : List UInt8} (h : rptB (nx ys) = false) (h2 : nx ys ≠ -2) (t : List UInt8) : rptB (nx (ys ++ zb t)) = false := by
 rcases nx_ext h2 t with e | ⟨_, e⟩
 ·rw [e]; exact h
 ·rw [e]; decide
mutual
theorem AltL.app (t : List UInt8) : ∀ {xs ys : List UInt8} {l : List Rx}, AltL xs l ys → AltL (xs ++ zb t) l (ys ++ zb t)
 | _, ys, _, .one h h2 => .one (h.app t) (by
   have h3 := h.done_nx
   rcases nx_ext (xs := ys) (by omega) t with e | ⟨_, e⟩
   ·rw [e]; exact h2
   ·rw [e]; decide)
 | _, _, _, .more h h2 => .more (h.app t) (h2.app t)
theorem SeqL.app (t : List UInt8) : ∀ {xs ys : List UInt8} {l : List Rx}, SeqL xs l ys → SeqL (xs ++ zb t) l (ys ++ zb t)
 | xs, _, _, .done h => .done (by
   rcases nx_ext (xs := xs) (by omega) t with e | ⟨_, e⟩
   ·rw [e]; exact h
   ·rw [e]; exact .inr (.inr rfl))
 | _, _, _, .more h0 h h2 => .more (by rw [(nx_app h.nx _).1]; exact h0) (h.app t h2.nx) (h2.app t)
theorem Piece.app (t : List UInt8) : ∀ {xs ys : List UInt8} {x : Rx}, Piece xs x ys → nx ys ≠ -2 → Piece (xs ++ zb t) x (ys ++ zb t)
 | _, _, _, .bare h h2, hn => .bare (h.app t) (rpt_app h2 hn t)
 | _, _, _, .rep h0 h h2 h3, hn => .rep (by rw [(nx_app h.nx _).1]; exact h0) (h.app t) (h2.app _) (rpt_app h3 hn t)
theorem Atom.app (t : List UInt8) : ∀ {xs ys : List UInt8} {x : Rx}, Atom xs x ys → Atom (xs ++ zb t) x (ys ++ zb t)
 | _, _, _, .any => .any
 | _, _, _, .beg => .beg
 | _, _, _, .fin => .fin
 | _, _, _, .group (t := u) (ys := y) h0 h => .group (t := u ++ zb t) (ys := y ++ zb t) (by
   rcases nx_ext h.nx t with e | ⟨_, e⟩
   ·rw [e]; exact h0
   ·rw [e]; decide) (h.app t)
 | _, _, _, .group2 h => .group2 (h.app t)
 | _, _, _, .cls (t := u) (ys := y) h0 h hs => .cls (t := u ++ zb t) (ys := y ++ zb t) (by rw [(nx_app h.nx _).1]; exact h0) (h.app t) hs
 | _, _, _, .classN h hs => .classN (h.app t) hs
 | _, _, _, .escS h hs => .escS (h.app _) hs
 | _, _, _, .escC h => .escC (h.app _)
 | xs, _, _, .chr h0 h1 h2 => by
  obtain ⟨e1, e2⟩ := nx_app h0 (zb t)
  have := Atom.chr (xs := xs ++ zb t) (by rw [e1]; exact h0) (by rw [e1]; exact h1) (by rw [e1]; exact h2)
  rw [e1, e2, drop_app] at this
  exact this
end
end Go.Proofs.YthhnmpkgleelfaaGreatDoor
