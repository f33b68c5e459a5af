import Derived.Test.YthhnmpkgleelfaaGreatDoorK5
set_option linter.unusedVariables false
set_option linter.unusedSimpArgs false
namespace Go.Proofs.YthhnmpkgleelfaaGreatDoor
theorem EscC.uniq {xs ys zs : List UInt8} {c d : Int} (h : EscC xs c ys) (k : EscC xs d zs) : c = d ∧ ys = zs := by
 cases h <;> cases k <;> first
  | exact ⟨rfl, rfl⟩
  | (exfalso; rename_i h; revert h; decide)
  | (exfalso; rename_i h _ _; revert h; decide)
  | (exfalso; rename_i h _ _ _ _; revert h; decide)
  | (exfalso; omega)
theorem EscS.uniq {xs ys zs : List UInt8} {l m : Spans} (h : EscS xs l ys) (k : EscS xs m zs) : l = m ∧ ys = zs := by
 cases h <;> cases k <;> exact ⟨rfl, rfl⟩
theorem EscC.not {xs ys zs : List UInt8} {c : Int} {l : Spans} (h : EscC xs c ys) (k : EscS xs l zs) : False := by
 cases k <;> cases h <;> (rename_i h; revert h; decide)
theorem Single.uniq {f : Bool} {xs ys zs : List UInt8} {c d : Int} (h : Single f xs c ys) (k : Single f xs d zs) : c = d ∧ ys = zs := by
 cases h with
 | esc h =>
  cases k with
  | esc k => exact h.uniq k
  | chr h0 h1 => rw [nx_lit _ _ (by decide)] at h1; exact absurd rfl h1
 | dash h =>
  cases k with
  | dash k => exact ⟨rfl, rfl⟩
  | chr h0 h1 h2 h3 => rw [nx_lit _ _ (by decide)] at h3; exact absurd rfl h3
 | dash1 =>
  cases k with
  | dash1 => exact ⟨rfl, rfl⟩
  | chr h0 h1 h2 h3 => rw [nx_lit _ _ (by decide)] at h3; exact absurd rfl h3
 | chr h0 h1 h2 h3 =>
  cases k with
  | esc k => rw [nx_lit _ _ (by decide)] at h1; exact absurd rfl h1
  | dash k => rw [nx_lit _ _ (by decide)] at h3; exact absurd rfl h3
  | dash1 => rw [nx_lit _ _ (by decide)] at h3; exact absurd rfl h3
  | chr => exact ⟨rfl, rfl⟩
theorem Single.not {f : Bool} {t ys zs : List UInt8} {c : Int} {l : Spans} (h : Single f (92 :: t) c ys) (k : EscS t l zs) : False := by
 cases h with
 | esc h => exact h.not k
 | chr h0 h1 => rw [nx_lit _ _ (by decide)] at h1; exact absurd rfl h1
theorem Item.uniq {f : Bool} {xs ys zs : List UInt8} {l m : Spans} (h : Item f xs l ys) (k : Item f xs m zs) : l = m ∧ ys = zs := by
 cases h with
 | cls h =>
  cases k with
  | cls k => exact h.uniq k
  | one k => exact (k.not h).elim
  | two k => exact (k.not h).elim
 | one h h2 =>
  cases k with
  | cls k => exact (h.not k).elim
  | one k => obtain ⟨rfl, rfl⟩ := h.uniq k; exact ⟨rfl, rfl⟩
  | two k k2 => obtain ⟨_, rfl⟩ := h.uniq k; exact absurd k2 h2
 | two h h2 h3 h4 =>
  cases k with
  | cls k => exact (h.not k).elim
  | one k k2 => obtain ⟨_, rfl⟩ := h.uniq k; exact absurd h2 k2
  | two k k2 k3 k4 =>
   obtain ⟨rfl, e⟩ := h.uniq k
   injection e with _ e
   subst e
   obtain ⟨rfl, rfl⟩ := h3.uniq k3
   exact ⟨rfl, rfl⟩
theorem Items.uniq {f : Bool} {xs ys : List UInt8} {l : Spans} (h : Items f xs l ys) : ∀ {zs : List UInt8} {m : Spans}, Items f xs m zs → l = m ∧ ys = zs := by
 induction h with
 | done =>
  intro zs m k
  cases k with
  | done => exact ⟨rfl, rfl⟩
  | more h0 => rw [nx_lit _ _ (by decide)] at h0; exact absurd rfl h0
 | more h0 h h2 ih =>
  intro zs m k
  cases k with
  | done => rw [nx_lit _ _ (by decide)] at h0; exact absurd rfl h0
  | more k0 k k2 =>
   obtain ⟨rfl, rfl⟩ := h.uniq k
   obtain ⟨rfl, rfl⟩ := ih k2
   exact ⟨rfl, rfl⟩
theorem hasDig_cons' (b : UInt8) (t : List UInt8) : hasDig (b :: t) = isDig b := rfl
theorem Braces.uniq {xs ys zs : List UInt8} {n m n' m' : Int} (h : Braces xs n m ys) (k : Braces xs n' m' zs) : n = n' ∧ m = m' ∧ ys = zs := by
 cases h with
 | same h e hn =>
  cases k with
  | same k e' hn' => rw [e] at e'; injection e' with e1 e2; injection e2 with _ e2; exact ⟨e1, e1, e2⟩
  | more k e' hn' => rw [e] at e'; injection e' with e1 e2; injection e2 with e2 _; exact absurd e2 (by decide)
  | upto k e' k2 e2' hn' hm' => rw [e] at e'; injection e' with e1 e2; injection e2 with e2 _; exact absurd e2 (by decide)
 | more h e hn =>
  cases k with
  | same k e' hn' => rw [e] at e'; injection e' with e1 e2; injection e2 with e2 _; exact absurd e2 (by decide)
  | more k e' hn' => rw [e] at e'; injection e' with e1 e2; injection e2 with _ e2; injection e2 with _ e2; exact ⟨e1, rfl, e2⟩
  | upto k e' k2 e2' hn' hm' => rw [e] at e'; injection e' with e1 e2; injection e2 with _ e2; rw [← e2] at k2; rw [hasDig_cons'] at k2; exact absurd k2 (by decide)
 | upto h e h2 e2 hn hm =>
  cases k with
  | same k e' hn' => rw [e] at e'; injection e' with e1 e3; injection e3 with e3 _; exact absurd e3 (by decide)
  | more k e' hn' => rw [e] at e'; injection e' with e1 e3; injection e3 with _ e3; rw [e3] at h2; rw [hasDig_cons'] at h2; exact absurd h2 (by decide)
  | upto k e' k2 e2' hn' hm' =>
   rw [e] at e'; injection e' with e1 e3; injection e3 with _ e3
   subst e3
   rw [e2] at e2'; injection e2' with e4 e5; injection e5 with _ e5
   exact ⟨e1, e4, e5⟩
theorem Quant.uniq {xs ys zs : List UInt8} {n m n' m' : Int} (h : Quant xs n m ys) (k : Quant xs n' m' zs) : n = n' ∧ m = m' ∧ ys = zs := by
 cases h with
 | braces h => cases k with | braces k => exact h.uniq k
 | _ => cases k; exact ⟨rfl, rfl, rfl⟩
theorem Quant.rpt {xs ys : List UInt8} {n m : Int} (h : Quant xs n m ys) : rptB (nx xs) = true := by
 cases h <;> (rw [nx_lit _ _ (by decide)]; decide)
mutual
theorem AltL.uniq : ∀ {xs ys : List UInt8} {l : List Rx}, AltL xs l ys → ∀ {zs : List UInt8} {m : List Rx}, AltL xs m zs → l = m ∧ ys = zs
 | _, _, _, .one h h2 => by
  have ih := @SeqL.uniq _ _ _ h
  intro k
  cases k with
  | one k k2 => obtain ⟨rfl, rfl⟩ := ih k; exact ⟨rfl, rfl⟩
  | more k k2 => obtain ⟨_, e⟩ := ih k; rw [e, nx_lit _ _ (by decide)] at h2; exact absurd rfl h2
 | _, _, _, .more h h2 => by
  have ih := @SeqL.uniq _ _ _ h
  have ih2 := @AltL.uniq _ _ _ h2
  intro k
  cases k with
  | one k k2 => obtain ⟨_, e⟩ := ih k; rw [← e, nx_lit _ _ (by decide)] at k2; exact absurd rfl k2
  | more k k2 =>
   obtain ⟨rfl, e⟩ := ih k
   injection e with _ e
   subst e
   obtain ⟨rfl, rfl⟩ := ih2 k2
   exact ⟨rfl, rfl⟩
theorem SeqL.uniq : ∀ {xs ys : List UInt8} {l : List Rx}, SeqL xs l ys → ∀ {zs : List UInt8} {m : List Rx}, SeqL xs m zs → l = m ∧ ys = zs
 | _, _, _, .done h => by
  intro k
  cases k with
  | done => exact ⟨rfl, rfl⟩
  | more h0 => omega
 | _, _, _, .more h0 h h2 => by
  have ih := @Piece.uniq _ _ _ h
  have ih2 := @SeqL.uniq _ _ _ h2
  intro k
  cases k with
  | done h => omega
  | more k0 k k2 =>
   obtain ⟨rfl, rfl⟩ := ih k
   obtain ⟨rfl, rfl⟩ := ih2 k2
   exact ⟨rfl, rfl⟩
theorem Piece.uniq : ∀ {xs ys : List UInt8} {x : Rx}, Piece xs x ys → ∀ {zs : List UInt8} {y : Rx}, Piece xs y zs → x = y ∧ ys = zs
 | _, _, _, .bare h h2 => by
  have ih := @Atom.uniq _ _ _ h
  intro k
  cases k with
  | bare k k2 => exact ih k
  | rep k0 k k2 k3 => obtain ⟨_, rfl⟩ := ih k; rw [k2.rpt] at h2; cases h2
 | _, _, _, .rep h0 h h2 h3 => by
  have ih := @Atom.uniq _ _ _ h
  intro k
  cases k with
  | bare k k2 => obtain ⟨_, rfl⟩ := ih k; rw [h2.rpt] at k2; cases k2
  | rep k0 k k2 k3 =>
   obtain ⟨rfl, rfl⟩ := ih k
   obtain ⟨rfl, rfl, rfl⟩ := h2.uniq k2
   exact ⟨rfl, rfl⟩
theorem Atom.uniq : ∀ {xs ys : List UInt8} {x : Rx}, Atom xs x ys → ∀ {zs : List UInt8} {y : Rx}, Atom xs y zs → x = y ∧ ys = zs
 | _, _, _, .any => by
  intro k
  cases k with
  | any => exact ⟨rfl, rfl⟩
  | chr h0 h1 h2 => rw [nx_lit _ _ (by decide)] at h2; exact absurd rfl h2.1
 | _, _, _, .beg => by
  intro k
  cases k with
  | beg => exact ⟨rfl, rfl⟩
  | chr h0 h1 h2 => rw [nx_lit _ _ (by decide)] at h2; exact absurd rfl h2.2.1
 | _, _, _, .fin => by
  intro k
  cases k with
  | fin => exact ⟨rfl, rfl⟩
  | chr h0 h1 h2 => rw [nx_lit _ _ (by decide)] at h2; exact absurd rfl h2.2.2.1
 | _, _, _, .group h0 h => by
  have ih := @AltL.uniq _ _ _ h
  intro k
  cases k with
  | group k0 k => obtain ⟨rfl, e⟩ := ih k; injection e with _ e; exact ⟨rfl, e⟩
  | group2 k => rw [nx_lit _ _ (by decide)] at h0; exact absurd rfl h0
  | chr h0 h1 h2 => rw [nx_lit _ _ (by decide)] at h2; exact absurd rfl h2.2.2.2.1
 | _, _, _, .group2 h => by
  have ih := @AltL.uniq _ _ _ h
  intro k
  cases k with
  | group k0 k => rw [nx_lit _ _ (by decide)] at k0; exact absurd rfl k0
  | group2 k => obtain ⟨rfl, e⟩ := ih k; injection e with _ e; exact ⟨rfl, e⟩
  | chr h0 h1 h2 => rw [nx_lit _ _ (by decide)] at h2; exact absurd rfl h2.2.2.2.1
 | _, _, _, .cls h0 h hs => by
  intro k
  cases k with
  | cls k0 k ks => obtain ⟨rfl, rfl⟩ := h.uniq k; rw [hs.uniq ks]; exact ⟨rfl, rfl⟩
  | classN k ks => rw [nx_lit _ _ (by decide)] at h0; exact absurd rfl h0
  | chr h0 h1 h2 => rw [nx_lit _ _ (by decide)] at h2; exact absurd rfl h2.2.2.2.2.1
 | _, _, _, .classN h hs => by
  intro k
  cases k with
  | cls k0 k ks => rw [nx_lit _ _ (by decide)] at k0; exact absurd rfl k0
  | classN k ks => obtain ⟨rfl, rfl⟩ := h.uniq k; rw [hs.uniq ks]; exact ⟨rfl, rfl⟩
  | chr h0 h1 h2 => rw [nx_lit _ _ (by decide)] at h2; exact absurd rfl h2.2.2.2.2.1
 | _, _, _, .escS h hs => by
  intro k
  cases k with
  | escS k ks => obtain ⟨rfl, rfl⟩ := h.uniq k; rw [hs.uniq ks]; exact ⟨rfl, rfl⟩
  | escC k => exact (k.not h).elim
  | chr h0 h1 h2 => rw [nx_lit _ _ (by decide)] at h2; exact absurd rfl h2.2.2.2.2.2
 | _, _, _, .escC h => by
  intro k
  cases k with
  | escS k ks => exact (h.not k).elim
  | escC k => obtain ⟨rfl, rfl⟩ := h.uniq k; exact ⟨rfl, rfl⟩
  | chr h0 h1 h2 => rw [nx_lit _ _ (by decide)] at h2; exact absurd rfl h2.2.2.2.2.2
 | xs, _, _, .chr h0 h1 h2 => by
  intro k
  cases k with
  | chr => exact ⟨rfl, rfl⟩
  | any => rw [nx_lit _ _ (by decide)] at h2; exact absurd rfl h2.1
  | beg => rw [nx_lit _ _ (by decide)] at h2; exact absurd rfl h2.2.1
  | fin => rw [nx_lit _ _ (by decide)] at h2; exact absurd rfl h2.2.2.1
  | group => rw [nx_lit _ _ (by decide)] at h2; exact absurd rfl h2.2.2.2.1
  | group2 => rw [nx_lit _ _ (by decide)] at h2; exact absurd rfl h2.2.2.2.1
  | cls => rw [nx_lit _ _ (by decide)] at h2; exact absurd rfl h2.2.2.2.2.1
  | classN => rw [nx_lit _ _ (by decide)] at h2; exact absurd rfl h2.2.2.2.2.1
  | escS => rw [nx_lit _ _ (by decide)] at h2; exact absurd rfl h2.2.2.2.2.2
  | escC => rw [nx_lit _ _ (by decide)] at h2; exact absurd rfl h2.2.2.2.2.2
end
theorem Parsed.uniq {xs : List UInt8} {r q : Rx} (h : Parsed xs r) (k : Parsed xs q) : r = q := by
 obtain ⟨l, hl, rfl⟩ := h
 obtain ⟨m, hm, rfl⟩ := k
 rw [(hl.uniq hm).1]
def NF (low : Bool) (t : List UInt8) : Prop := ∀ a b c d u, t = a :: b :: c :: d :: u → allHex a b c d → (low = true → ¬ (56320 ≤ four a b c d ∧ four a b c d < 57344)) ∧ (low = false → 56320 ≤ four a b c d ∧ four a b c d < 57344)
def NoEscC (t : List UInt8) : Prop := ∀ z ys, ¬ EscC t z ys
def NoEscS (t : List UInt8) : Prop := ∀ L ys, ¬ EscS t L ys
def NoSgl (f : Bool) (t : List UInt8) : Prop := ∀ z ys, ¬ Single f t z ys
def NoItem (f : Bool) (t : List UInt8) : Prop := ∀ L ys, ¬ Item f t L ys
def NoItems (f : Bool) (t : List UInt8) : Prop := ∀ L ys, ¬ Items f t L ys
def NoBr (t : List UInt8) : Prop := ∀ n m ys, ¬ Braces t n m ys
def NoAtom (t : List UInt8) : Prop := ∀ r ys, ¬ Atom t r ys
def NoPiece (t : List UInt8) : Prop := ∀ r ys, ¬ Piece t r ys
def NoSeq (t : List UInt8) : Prop := ∀ l ys, ¬ SeqL t l ys
def NoAlt (t : List UInt8) : Prop := ∀ l ys, ¬ AltL t l ys
def NoGrp (t : List UInt8) : Prop := ∀ l ys, ¬ AltL t l (41 :: ys)
theorem noesc_four {t : List UInt8} (h : NF false t) : NoEscC (117 :: t) := by
 intro z ys k
 cases k with
 | plain h' => revert h'; decide
 | u hh h2 => have := (h _ _ _ _ _ rfl hh).2 rfl; omega
 | uu hh h2 h3 h4 => have := (h _ _ _ _ _ rfl hh).2 rfl; omega
theorem noesc_pair {a b c d : UInt8} {u : List UInt8} (h2 : 55296 ≤ four a b c d ∧ four a b c d < 56320) (h : nx u ≠ 92 ∨ nx (u.drop 1) ≠ 117 ∨ NF true (u.drop 2)) : NoEscC (117 :: a :: b :: c :: d :: u) := by
 intro z ys k
 cases k with
 | plain h' => revert h'; decide
 | u hh h2 => omega
 | uu hh h2 h3 h4 =>
  rcases h with h | h | h
  ·rw [nx_lit _ _ (by decide)] at h; exact h rfl
  ·rw [List.drop_succ_cons, List.drop_zero, nx_lit _ _ (by decide)] at h; exact h rfl
  ·exact (h _ _ _ _ _ rfl h3).1 rfl h4
theorem special_lt' : ∀ b ∈ special, b.toNat < 128 := by decide
theorem noesc_none {t : List UInt8} (hs : ∀ b ∈ special, (b.toNat : Int) ≠ nx t) (h : nx t ≠ 116 ∧ nx t ≠ 110 ∧ nx t ≠ 118 ∧ nx t ≠ 102 ∧ nx t ≠ 114 ∧ nx t ≠ 117) : NoEscC t := by
 obtain ⟨h1, h2, h3, h4, h5, h6⟩ := h
 intro z ys k
 cases k with
 | plain h' => exact hs _ h' (nx_ascii _ _ (special_lt' _ h')).1.symm
 | t => rw [nx_lit _ _ (by decide)] at h1; exact h1 rfl
 | n => rw [nx_lit _ _ (by decide)] at h2; exact h2 rfl
 | v => rw [nx_lit _ _ (by decide)] at h3; exact h3 rfl
 | f => rw [nx_lit _ _ (by decide)] at h4; exact h4 rfl
 | r => rw [nx_lit _ _ (by decide)] at h5; exact h5 rfl
 | u => rw [nx_lit _ _ (by decide)] at h6; exact h6 rfl
 | uu => rw [nx_lit _ _ (by decide)] at h6; exact h6 rfl
theorem nocls_none {t : List UInt8} (h : nx t ≠ 100 ∧ nx t ≠ 119 ∧ nx t ≠ 115 ∧ nx t ≠ 68 ∧ nx t ≠ 87 ∧ nx t ≠ 83) : NoEscS t := by
 obtain ⟨h1, h2, h3, h4, h5, h6⟩ := h
 intro z ys k
 cases k with
 | d => rw [nx_lit _ _ (by decide)] at h1; exact h1 rfl
 | w => rw [nx_lit _ _ (by decide)] at h2; exact h2 rfl
 | s => rw [nx_lit _ _ (by decide)] at h3; exact h3 rfl
 | D => rw [nx_lit _ _ (by decide)] at h4; exact h4 rfl
 | W => rw [nx_lit _ _ (by decide)] at h5; exact h5 rfl
 | S => rw [nx_lit _ _ (by decide)] at h6; exact h6 rfl
theorem nocls_u {t : List UInt8} : NoEscS (117 :: t) := by intro L ys k; cases k
theorem nosgl_dash {t : List UInt8} (h : nx t ≠ 93) : NoSgl false (45 :: t) := by
 intro z ys k
 cases k with
 | dash h' => exact h h'
 | chr h0 h1 h2 h3 => rw [nx_lit _ _ (by decide)] at h3; exact h3 rfl
theorem nosgl_neg {f : Bool} {t : List UInt8} (h : nx t < 0) : NoSgl f t := by
 intro z ys k
 cases k with
 | esc h' => rw [nx_lit _ _ (by decide)] at h; exact absurd h (by decide)
 | dash h' => rw [nx_lit _ _ (by decide)] at h; exact absurd h (by decide)
 | dash1 => rw [nx_lit _ _ (by decide)] at h; exact absurd h (by decide)
 | chr h0 h1 h2 h3 => omega
theorem nosgl_esc {f : Bool} {t : List UInt8} (h : NoEscC t) : NoSgl f (92 :: t) := by
 intro z ys k
 cases k with
 | esc h' => exact h _ _ h'
 | chr h0 h1 h2 h3 => rw [nx_lit _ _ (by decide)] at h1; exact h1 rfl
theorem nosgl_cls {f : Bool} {t ys : List UInt8} {L : Spans} (h : EscS t L ys) : NoSgl f (92 :: t) := fun _ _ k => k.not h
theorem noitem_of {f : Bool} {t : List UInt8} (h : NoSgl f t) (h2 : ∀ u, t = 92 :: u → NoEscS u) : NoItem f t := by
 intro L ys k
 cases k with
 | cls k => exact h2 _ rfl _ _ k
 | one k => exact h _ _ k
 | two k => exact h _ _ k
theorem noitem_neg {f : Bool} {t : List UInt8} (h : nx t < 0) : NoItem f t := noitem_of (nosgl_neg h) fun u e => by
 rw [e, nx_lit _ _ (by decide)] at h; exact absurd h (by decide)
theorem noitem_dash {t : List UInt8} (h : nx t ≠ 93) : NoItem false (45 :: t) := noitem_of (nosgl_dash h) fun u e => by
 injection e with e _; exact absurd e (by decide)
theorem noitem_esc {f : Bool} {t : List UInt8} (h : NoEscC t) (h2 : NoEscS t) : NoItem f (92 :: t) := noitem_of (nosgl_esc h) fun u e => by
 injection e with _ e; rw [← e]; exact h2
theorem noitem_two {f : Bool} {t ys : List UInt8} {c : Int} (h : Single f t c (45 :: ys)) (h2 : ranges (45 :: ys)) (h3 : NoSgl false ys ∨ ∃ d zs, Single false ys d zs ∧ d < c) : NoItem f t := by
 intro L zs k
 cases k with
 | cls k => exact h.not k
 | one k k2 => obtain ⟨_, rfl⟩ := h.uniq k; exact k2 h2
 | two k k2 k3 k4 =>
  obtain ⟨rfl, e⟩ := h.uniq k
  injection e with _ e
  subst e
  rcases h3 with h3 | ⟨d, zs', h3, h4⟩
  ·exact h3 _ _ k3
  ·obtain ⟨rfl, _⟩ := h3.uniq k3; omega
theorem noitems_of {f : Bool} {t : List UInt8} (h0 : nx t ≠ 93) (h : NoItem f t) : NoItems f t := by
 intro L zs k
 cases k with
 | done => rw [nx_lit _ _ (by decide)] at h0; exact h0 rfl
 | more k0 k k2 => exact h _ _ k
theorem noitems_more {f : Bool} {t ys : List UInt8} {s : Spans} (h0 : nx t ≠ 93) (h : Item f t s ys) (h2 : NoItems false ys) : NoItems f t := by
 intro L zs k
 cases k with
 | done => rw [nx_lit _ _ (by decide)] at h0; exact h0 rfl
 | more k0 k k2 => obtain ⟨_, rfl⟩ := h.uniq k; exact h2 _ _ k2
theorem nobr_dig {t : List UInt8} (h : hasDig t = false) : NoBr t := by
 intro n m ys k
 cases k with
 | same k => rw [h] at k; cases k
 | more k => rw [h] at k; cases k
 | upto k => rw [h] at k; cases k
theorem nobr_one {t u : List UInt8} {n : Int} (e : numF 0 t = (n, u)) (h44 : nx u ≠ 44) (h : nx u ≠ 125 ∨ 1000 < n) : NoBr t := by
 intro n' m ys k
 cases k with
 | same k e' hn =>
  rw [e] at e'; injection e' with e1 e2
  rcases h with h | h
  ·rw [e2, nx_lit _ _ (by decide)] at h; exact h rfl
  ·omega
 | more k e' hn => rw [e] at e'; injection e' with e1 e2; rw [e2, nx_lit _ _ (by decide)] at h44; exact h44 rfl
 | upto k e' => rw [e] at e'; injection e' with e1 e2; rw [e2, nx_lit _ _ (by decide)] at h44; exact h44 rfl
theorem nobr_more {t u : List UInt8} {n : Int} (e : numF 0 t = (n, 44 :: u)) (hd : hasDig u = false) (h : nx u ≠ 125 ∨ 1000 < n) : NoBr t := by
 intro n' m ys k
 cases k with
 | same k e' hn => rw [e] at e'; injection e' with e1 e2; injection e2 with e2 _; exact absurd e2 (by decide)
 | more k e' hn =>
  rw [e] at e'; injection e' with e1 e2; injection e2 with _ e2
  rcases h with h | h
  ·rw [e2, nx_lit _ _ (by decide)] at h; exact h rfl
  ·omega
 | upto k e' k2 e2' hn hm => rw [e] at e'; injection e' with e1 e2; injection e2 with _ e2; rw [e2] at hd; rw [hd] at k2; cases k2
theorem nobr_upto {t u v : List UInt8} {n m : Int} (e : numF 0 t = (n, 44 :: u)) (hd : hasDig u = true) (e2 : numF 0 u = (m, v)) (h : nx v ≠ 125 ∨ m < n ∨ 1000 < m ∨ 1000 < n) : NoBr t := by
 intro n' m' ys k
 cases k with
 | same k e' hn => rw [e] at e'; injection e' with e1 e2; injection e2 with e2 _; exact absurd e2 (by decide)
 | more k e' hn => rw [e] at e'; injection e' with e1 e2; injection e2 with _ e2; rw [e2, hasDig_cons'] at hd; exact absurd hd (by decide)
 | upto k e' k2 e2' hn hm =>
  rw [e] at e'; injection e' with e1 e3; injection e3 with _ e3
  subst e3
  rw [e2] at e2'; injection e2' with e4 e5
  rcases h with h | h | h | h
  ·rw [e5, nx_lit _ _ (by decide)] at h; exact h rfl
  ·omega
  ·omega
  ·omega
theorem noatom_bad {t : List UInt8} (h : nx t < 0 ∨ badB (nx t) = true) : NoAtom t := by
 intro r ys k
 have key : ∀ {b : UInt8} {u : List UInt8}, b.toNat < 128 → badB (b.toNat : Nat) = false → t = b :: u → False := by
  intro b u h1 h2 e
  rw [e, (nx_ascii b u h1).1] at h
  rcases h with h | h
  ·omega
  ·rw [h2] at h; cases h
 cases k with
 | chr h0 h1 => rcases h with h | h; (· omega); (· rw [h1] at h; cases h)
 | _ => exact key (by decide) (by decide) rfl
theorem noatom_esc {t : List UInt8} (h : NoEscC t) (h2 : NoEscS t) : NoAtom (92 :: t) := by
 intro r ys k
 cases k with
 | escS k => exact h2 _ _ k
 | escC k => exact h _ _ k
 | chr h0 h1 h2 => rw [nx_lit _ _ (by decide)] at h2; exact h2.2.2.2.2.2 rfl
theorem noatom_cls {t : List UInt8} (h : nx t ≠ 94 → NoItems true t) (h2 : ∀ u, t = 94 :: u → NoItems true u) : NoAtom (91 :: t) := by
 intro r ys k
 cases k with
 | cls k0 k => exact h k0 _ _ k
 | classN k => exact h2 _ rfl _ _ k
 | chr h0 h1 h2 => rw [nx_lit _ _ (by decide)] at h2; exact h2.2.2.2.2.1 rfl
theorem noatom_cls1 {t : List UInt8} (h0 : nx t ≠ 94) (h : NoItems true t) : NoAtom (91 :: t) := noatom_cls (fun _ => h) fun u e => by rw [e, nx_lit _ _ (by decide)] at h0; exact absurd rfl h0
theorem noatom_cls2 {t : List UInt8} (h : NoItems true t) : NoAtom (91 :: 94 :: t) := noatom_cls (fun h0 => by rw [nx_lit _ _ (by decide)] at h0; exact absurd rfl h0) fun u e => by injection e with _ e; rw [← e]; exact h
theorem nogrp_of {t : List UInt8} (h : NoAlt t) : NoGrp t := fun _ _ k => h _ _ k
theorem nogrp_end {t ys : List UInt8} {l : List Rx} (h : AltL t l ys) (h2 : nx ys ≠ 41) : NoGrp t := fun _ _ k => by
 obtain ⟨_, e⟩ := h.uniq k
 rw [e, nx_lit _ _ (by decide)] at h2; exact h2 rfl
theorem noatom_grp1 {t : List UInt8} (h0 : nx t ≠ 63) (h : NoGrp t) : NoAtom (40 :: t) := by
 intro r ys k
 cases k with
 | group k0 k => exact h _ _ k
 | group2 k => rw [nx_lit _ _ (by decide)] at h0; exact h0 rfl
 | chr h0 h1 h2 => rw [nx_lit _ _ (by decide)] at h2; exact h2.2.2.2.1 rfl
theorem noatom_grp2 {t : List UInt8} (h : NoGrp t) : NoAtom (40 :: 63 :: 58 :: t) := by
 intro r ys k
 cases k with
 | group k0 k => rw [nx_lit _ _ (by decide)] at k0; exact k0 rfl
 | group2 k => exact h _ _ k
 | chr h0 h1 h2 => rw [nx_lit _ _ (by decide)] at h2; exact h2.2.2.2.1 rfl
theorem noatom_grpq {t : List UInt8} (h : nx t ≠ 58) : NoAtom (40 :: 63 :: t) := by
 intro r ys k
 cases k with
 | group k0 k => rw [nx_lit _ _ (by decide)] at k0; exact k0 rfl
 | group2 k => rw [nx_lit _ _ (by decide)] at h; exact h rfl
 | chr h0 h1 h2 => rw [nx_lit _ _ (by decide)] at h2; exact h2.2.2.2.1 rfl
theorem nopiece_atom {t : List UInt8} (h : NoAtom t) : NoPiece t := by
 intro r ys k
 cases k with
 | bare k => exact h _ _ k
 | rep k0 k => exact h _ _ k
theorem nopiece_bare {t ys : List UInt8} {x : Rx} (h0 : nx t = 94 ∨ nx t = 36) (h : Atom t x ys) (h2 : rptB (nx ys) = true) : NoPiece t := by
 intro r zs k
 cases k with
 | bare k k2 => obtain ⟨_, rfl⟩ := h.uniq k; rw [h2] at k2; cases k2
 | rep k0 k => omega
theorem nopiece_again {t ys zs : List UInt8} {x : Rx} {n m : Int} (h : Atom t x ys) (h2 : Quant ys n m zs) (h3 : rptB (nx zs) = true) : NoPiece t := by
 intro r us k
 cases k with
 | bare k k2 => obtain ⟨_, rfl⟩ := h.uniq k; rw [h2.rpt] at k2; cases k2
 | rep k0 k k2 k3 =>
  obtain ⟨_, rfl⟩ := h.uniq k
  obtain ⟨_, _, rfl⟩ := h2.uniq k2
  rw [h3] at k3; cases k3
theorem nopiece_br {t ys : List UInt8} {x : Rx} (h : Atom t x (123 :: ys)) (h2 : NoBr ys) : NoPiece t := by
 intro r us k
 cases k with
 | bare k k2 => obtain ⟨_, rfl⟩ := h.uniq k; rw [nx_lit _ _ (by decide)] at k2; exact absurd k2 (by decide)
 | rep k0 k k2 k3 =>
  obtain ⟨_, e⟩ := h.uniq k
  rw [← e] at k2
  cases k2 with
  | braces k2 => exact h2 _ _ _ k2
theorem noseq_piece {t : List UInt8} (h0 : nx t ≠ -1 ∧ nx t ≠ 124 ∧ nx t ≠ 41) (h : NoPiece t) : NoSeq t := by
 intro l ys k
 cases k with
 | done k => omega
 | more k0 k => exact h _ _ k
theorem noseq_more {t ys : List UInt8} {r : Rx} (h0 : nx t ≠ -1 ∧ nx t ≠ 124 ∧ nx t ≠ 41) (h : Piece t r ys) (h2 : NoSeq ys) : NoSeq t := by
 intro l zs k
 cases k with
 | done k => omega
 | more k0 k k2 => obtain ⟨_, rfl⟩ := h.uniq k; exact h2 _ _ k2
theorem noalt_seq {t : List UInt8} (h : NoSeq t) : NoAlt t := by
 intro l ys k
 cases k with
 | one k => exact h _ _ k
 | more k => exact h _ _ k
theorem noalt_more {t ys : List UInt8} {l : List Rx} (h : SeqL t l (124 :: ys)) (h2 : NoAlt ys) : NoAlt t := by
 intro m zs k
 cases k with
 | one k k2 => obtain ⟨_, rfl⟩ := h.uniq k; rw [nx_lit _ _ (by decide)] at k2; exact k2 rfl
 | more k k2 => obtain ⟨_, e⟩ := h.uniq k; injection e with _ e; rw [← e] at k2; exact h2 _ _ k2
theorem noparse_alt {t : List UInt8} (h : NoAlt t) (r : Rx) : ¬ Parsed t r := fun ⟨_, k, _⟩ => h _ _ k
theorem noparse_left {t ys : List UInt8} {l : List Rx} (h : AltL t l ys) (h2 : ys ≠ []) (r : Rx) : ¬ Parsed t r := fun ⟨_, k, _⟩ => h2 (h.uniq k).2
end Go.Proofs.YthhnmpkgleelfaaGreatDoor
