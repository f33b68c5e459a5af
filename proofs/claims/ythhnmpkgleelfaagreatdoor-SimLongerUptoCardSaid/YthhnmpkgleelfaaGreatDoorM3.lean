import Derived.Test.YthhnmpkgleelfaaGreatDoorM1
set_option linter.unusedVariables false
set_option linter.unusedSimpArgs false
namespace Go.Proofs.YthhnmpkgleelfaaGreatDoor
inductive Rx where
 | emp
 | chr (c : Int)
 | any
 | set (cs : List Int)
 | beg
 | fin
 | cat (a b : Rx)
 | alt (a b : Rx)
 | rep (x : Rx) (mn mx : Int)
structure Ex where
 kind : Int
 c : Int
 ranges : ByteArray
 a : Int
 b : Int
 mn : Int
 mx : Int
abbrev noB : ByteArray := ⟨#[]⟩
def rngB (cs : List Int) : ByteArray := ⟨(cs.flatMap frm).toArray⟩
def Rx.size : Rx → Nat
 | .cat a b => 1 + a.size + b.size
 | .alt a b => 1 + a.size + b.size
 | .rep x _ _ => 1 + x.size
 | _ => 1
def Rx.flat : Nat → Rx → List Ex
 | _, .emp => [⟨1, 0, noB, 0, 0, 0, 0⟩]
 | _, .chr c => [⟨2, c, noB, 0, 0, 0, 0⟩]
 | _, .any => [⟨3, 0, noB, 0, 0, 0, 0⟩]
 | _, .set cs => [⟨4, 0, rngB cs, 0, 0, 0, 0⟩]
 | _, .beg => [⟨5, 0, noB, 0, 0, 0, 0⟩]
 | _, .fin => [⟨6, 0, noB, 0, 0, 0, 0⟩]
 | p, .cat a b => ⟨7, 0, noB, (p + 1 : Nat), (p + 1 + a.size : Nat), 0, 0⟩ :: (a.flat (p + 1) ++ b.flat (p + 1 + a.size))
 | p, .alt a b => ⟨8, 0, noB, (p + 1 : Nat), (p + 1 + a.size : Nat), 0, 0⟩ :: (a.flat (p + 1) ++ b.flat (p + 1 + a.size))
 | p, .rep x mn mx => ⟨9, 0, noB, (p + 1 : Nat), 0, mn, mx⟩ :: x.flat (p + 1)
theorem Rx.size_pos (r : Rx) : 1 ≤ r.size := by cases r <;> simp [Rx.size] <;> omega
theorem Rx.flat_len (r : Rx) : ∀ p, (r.flat p).length = r.size := by
 induction r with
 | cat a b ia ib => intro p; simp [Rx.flat, Rx.size, ia, ib]; omega
 | alt a b ia ib => intro p; simp [Rx.flat, Rx.size, ia, ib]; omega
 | rep x mn mx ix => intro p; simp [Rx.flat, Rx.size, ix]; omega
 | _ => intro p; rfl
def Ex.shift (d : Int) (n : Ex) : Ex :=
 if n.kind = 7 ∨ n.kind = 8 then { n with a := n.a + d, b := n.b + d } else if n.kind = 9 then { n with a := n.a + d } else n
theorem Rx.flat_shift (r : Rx) : ∀ (p d : Nat), r.flat (p + d) = (r.flat p).map (Ex.shift d) := by
 induction r with
 | cat a b ia ib =>
  intro p d
  simp only [Rx.flat, List.map_cons, List.map_append]
  rw [show p + d + 1 = (p + 1) + d by omega, ia, show p + 1 + d + a.size = (p + 1 + a.size) + d by omega, ib]
  simp [Ex.shift]
 | alt a b ia ib =>
  intro p d
  simp only [Rx.flat, List.map_cons, List.map_append]
  rw [show p + d + 1 = (p + 1) + d by omega, ia, show p + 1 + d + a.size = (p + 1 + a.size) + d by omega, ib]
  simp [Ex.shift]
 | rep x mn mx ix =>
  intro p d
  simp only [Rx.flat, List.map_cons]
  rw [show p + d + 1 = (p + 1) + d by omega, ix]
  simp [Ex.shift]
 | _ => intro p d; simp [Rx.flat, Ex.shift]
def joinR (op : Rx → Rx → Rx) : List Rx → Rx
 | [] => .emp
 | [x] => x
 | x :: l => op x (joinR op l)
theorem joinR_cons (op : Rx → Rx → Rx) (x : Rx) {l : List Rx} (h : l ≠ []) : joinR op (x :: l) = op x (joinR op l) := by
 cases l with
 | nil => exact absurd rfl h
 | cons y l => rfl
def nx (xs : List UInt8) : Int := if xs = [] then -1 else if (dec xs).2.2 = 0 then ((dec xs).1 : Nat) else -2
def nl (xs : List UInt8) : Nat := if xs = [] then 0 else if (dec xs).2.2 = 0 then (dec xs).2.1 else 0
theorem nx_nil : nx [] = -1 := rfl
theorem nx_ascii (a : UInt8) (t : List UInt8) (h : a.toNat < 128) : nx (a :: t) = a.toNat ∧ nl (a :: t) = 1 := by
 simp [nx, nl, dec_a1 a t h]
theorem dec_big {xs : List UInt8} (h : (dec xs).2.2 = 0) (h2 : (dec xs).1 < 128) : ∃ a t, xs = a :: t ∧ a.toNat < 128 ∧ dec xs = (a.toNat, 1, 0) := by
 rcases dec_cases h with ⟨a, t, rfl, h1, e⟩ | ⟨a, b, t, rfl, h1, hs, e⟩ | ⟨a, b, c, t, rfl, h1, hs, ht, e⟩ | ⟨a, b, c, d, t, rfl, h1, hs, ht, hd, e⟩
 ·exact ⟨a, t, rfl, h1, e⟩
 ·exfalso; rw [e] at h2; unfold sec at hs; simp only at h2; omega
 ·exfalso; rw [e] at h2; unfold sec at hs; unfold tl at ht; simp only at h2; omega
 ·exfalso; rw [e] at h2; unfold sec at hs; unfold tl at ht hd; simp only at h2; omega
theorem nx_byte {xs : List UInt8} {c : Nat} (h : nx xs = c) (hc : c < 128) : ∃ t, xs = UInt8.ofNat c :: t ∧ nl xs = 1 := by
 unfold nx at h
 split at h
 ·omega
 ·split at h
  ·rename_i h0 h1
   obtain ⟨a, t, rfl, ha, e⟩ := dec_big h1 (by omega)
   rw [e] at h
   have hca : c = a.toNat := by simp only at h; omega
   refine ⟨t, ?_, ?_⟩
   ·rw [hca, UInt8.ofNat_toNat]
   ·unfold nl; rw [if_neg (by simp), e]; rfl
  ·omega
theorem nx_cases (xs : List UInt8) : (xs = [] ∧ nx xs = -1 ∧ nl xs = 0) ∨ (xs ≠ [] ∧ (dec xs).2.2 = 0 ∧ nx xs = (dec xs).1 ∧ nl xs = (dec xs).2.1 ∧ isR (nx xs) = true) ∨ (xs ≠ [] ∧ (dec xs).2.2 ≠ 0 ∧ nx xs = -2 ∧ nl xs = 0) := by
 by_cases h0 : xs = []
 ·subst h0; exact .inl ⟨rfl, rfl, rfl⟩
 ·by_cases h1 : (dec xs).2.2 = 0
  ·have hr := (dec_frm h1).2
   refine .inr (.inl ⟨h0, h1, ?_, ?_, ?_⟩)
   ·unfold nx; rw [if_neg h0, if_pos h1]
   ·unfold nl; rw [if_neg h0, if_pos h1]
   ·unfold nx; rw [if_neg h0, if_pos h1]; exact hr
  ·refine .inr (.inr ⟨h0, h1, ?_, ?_⟩)
   ·unfold nx; rw [if_neg h0, if_neg h1]
   ·unfold nl; rw [if_neg h0, if_neg h1]
theorem nl_le (xs : List UInt8) : nl xs ≤ xs.length := by
 rcases nx_cases xs with ⟨rfl, _, h⟩ | ⟨_, _, _, h, _⟩ | ⟨_, _, _, h⟩
 ·rw [h]; exact Nat.zero_le _
 ·rw [h]; exact dec_le xs
 ·rw [h]; exact Nat.zero_le _
theorem nl_pos {xs : List UInt8} (h : 0 ≤ nx xs) : 1 ≤ nl xs := by
 rcases nx_cases xs with ⟨rfl, h1, _⟩ | ⟨_, h0, _, h1, _⟩ | ⟨_, _, h1, _⟩
 ·omega
 ·rw [h1]; exact dec_pos h0
 ·omega
theorem nx_le (xs : List UInt8) : -2 ≤ nx xs ∧ nx xs ≤ 1114111 := by
 rcases nx_cases xs with ⟨rfl, h1, _⟩ | ⟨_, h0, _, h1, hr⟩ | ⟨_, _, h1, _⟩
 ·omega
 ·have h2 := isR_pos hr; simp [isR] at hr; omega
 ·omega
def isDig (b : UInt8) : Bool := decide (48 ≤ b.toNat) && decide (b.toNat ≤ 57)
def numF : Int → List UInt8 → Int × List UInt8
 | n, [] => (n, [])
 | n, b :: t => if isDig b then numF (min (n * 10 + ((b.toNat : Int) - 48)) 1001) t else (n, b :: t)
def hasDig : List UInt8 → Bool
 | [] => false
 | b :: _ => isDig b
inductive Braces : List UInt8 → Int → Int → List UInt8 → Prop
 | same {xs ys : List UInt8} {n : Int} (h : hasDig xs = true) (e : numF 0 xs = (n, 125 :: ys)) (hn : n ≤ 1000) : Braces xs n n ys
 | more {xs ys : List UInt8} {n : Int} (h : hasDig xs = true) (e : numF 0 xs = (n, 44 :: 125 :: ys)) (hn : n ≤ 1000) : Braces xs n (-1) ys
 | upto {xs rs ys : List UInt8} {n m : Int} (h : hasDig xs = true) (e : numF 0 xs = (n, 44 :: rs)) (h2 : hasDig rs = true) (e2 : numF 0 rs = (m, 125 :: ys)) (hn : n ≤ m) (hm : m ≤ 1000) : Braces xs n m ys
def hexv (b : UInt8) : Int :=
 if 48 ≤ b.toNat ∧ b.toNat ≤ 57 then (b.toNat : Int) - 48 else if 97 ≤ b.toNat ∧ b.toNat ≤ 102 then (b.toNat : Int) - 87 else if 65 ≤ b.toNat ∧ b.toNat ≤ 70 then (b.toNat : Int) - 55 else -1
def four (a b c d : UInt8) : Int := ((hexv a * 16 + hexv b) * 16 + hexv c) * 16 + hexv d
def allHex (a b c d : UInt8) : Prop := 0 ≤ hexv a ∧ 0 ≤ hexv b ∧ 0 ≤ hexv c ∧ 0 ≤ hexv d
def special : List UInt8 := [94, 36, 92, 46, 42, 43, 63, 40, 41, 91, 93, 123, 125, 124, 47, 45]
inductive EscC : List UInt8 → Int → List UInt8 → Prop
 | plain {b : UInt8} {t : List UInt8} (h : b ∈ special) : EscC (b :: t) b.toNat t
 | t {t : List UInt8} : EscC (116 :: t) 9 t
 | n {t : List UInt8} : EscC (110 :: t) 10 t
 | v {t : List UInt8} : EscC (118 :: t) 11 t
 | f {t : List UInt8} : EscC (102 :: t) 12 t
 | r {t : List UInt8} : EscC (114 :: t) 13 t
 | u {a b c d : UInt8} {t : List UInt8} (h : allHex a b c d) (h2 : four a b c d < 55296 ∨ 57344 ≤ four a b c d) : EscC (117 :: a :: b :: c :: d :: t) (four a b c d) t
 | uu {a b c d a' b' c' d' : UInt8} {t : List UInt8} (h : allHex a b c d) (h2 : 55296 ≤ four a b c d ∧ four a b c d < 56320) (h' : allHex a' b' c' d') (h3 : 56320 ≤ four a' b' c' d' ∧ four a' b' c' d' < 57344) :
   EscC (117 :: a :: b :: c :: d :: 92 :: 117 :: a' :: b' :: c' :: d' :: t) (65536 + (four a b c d - 55296) * 1024 + four a' b' c' d' - 56320) t
abbrev Spans := List (Int × Int)
def spDig : Spans := [(48, 57)]
def spWord : Spans := [(48, 57), (65, 90), (95, 95), (97, 122)]
def spBlank : Spans := [(9, 13), (32, 32), (160, 160), (5760, 5760), (8192, 8202), (8232, 8233), (8239, 8239), (8287, 8287), (12288, 12288), (65279, 65279)]
def othersF : Int → Spans → Spans
 | from_, [] => if from_ ≤ 1114111 then [(from_, 1114111)] else []
 | from_, (a, b) :: l => (if from_ < a then [(from_, a - 1)] else []) ++ othersF (b + 1) l
def spOther (l : Spans) : Spans := othersF 0 l
inductive EscS : List UInt8 → Spans → List UInt8 → Prop
 | d {t : List UInt8} : EscS (100 :: t) spDig t
 | w {t : List UInt8} : EscS (119 :: t) spWord t
 | s {t : List UInt8} : EscS (115 :: t) spBlank t
 | D {t : List UInt8} : EscS (68 :: t) (spOther spDig) t
 | W {t : List UInt8} : EscS (87 :: t) (spOther spWord) t
 | S {t : List UInt8} : EscS (83 :: t) (spOther spBlank) t
inductive Single : Bool → List UInt8 → Int → List UInt8 → Prop
 | esc {f : Bool} {t ys : List UInt8} {c : Int} (h : EscC t c ys) : Single f (92 :: t) c ys
 | dash {t : List UInt8} (h : nx t = 93) : Single false (45 :: t) 45 t
 | dash1 {t : List UInt8} : Single true (45 :: t) 45 t
 | chr {f : Bool} {xs : List UInt8} (h0 : 0 ≤ nx xs) (h1 : nx xs ≠ 92) (h2 : nx xs ≠ 93) (h3 : nx xs ≠ 45) : Single f xs (nx xs) (xs.drop (nl xs))
def ranges (xs : List UInt8) : Prop := nx xs = 45 ∧ nx (xs.drop 1) ≠ 93
inductive Item : Bool → List UInt8 → Spans → List UInt8 → Prop
 | cls {f : Bool} {t ys : List UInt8} {s : Spans} (h : EscS t s ys) : Item f (92 :: t) s ys
 | one {f : Bool} {xs ys : List UInt8} {c : Int} (h : Single f xs c ys) (h2 : ¬ ranges ys) : Item f xs [(c, c)] ys
 | two {f : Bool} {xs ys zs : List UInt8} {c d : Int} (h : Single f xs c (45 :: ys)) (h2 : ranges (45 :: ys)) (h3 : Single false ys d zs) (h4 : c ≤ d) : Item f xs [(c, d)] zs
inductive Items : Bool → List UInt8 → Spans → List UInt8 → Prop
 | done {f : Bool} {t : List UInt8} : Items f (93 :: t) [] t
 | more {f : Bool} {xs ys zs : List UInt8} {s l : Spans} (h0 : nx xs ≠ 93) (h : Item f xs s ys) (h2 : Items false ys l zs) : Items f xs (s ++ l) zs
def inSp (l : Spans) (c : Int) : Prop := ∃ p ∈ l, p.1 ≤ c ∧ c ≤ p.2
def Gaps : List Int → Prop
 | [] => True
 | [_] => False
 | [a, b] => a ≤ b
 | a :: b :: c :: l => a ≤ b ∧ b + 1 < c ∧ Gaps (c :: l)
def inCs : List Int → Int → Prop
 | a :: b :: l, c => (a ≤ c ∧ c ≤ b) ∨ inCs l c
 | _, _ => False
structure SetOf (P : Int → Prop) (cs : List Int) : Prop where
 gaps : Gaps cs
 chars : ∀ c ∈ cs, isR c = true
 mem : ∀ c, inCs cs c ↔ isR c = true ∧ P c
def rptB (c : Int) : Bool := decide (c = 42) || decide (c = 43) || decide (c = 63) || decide (c = 123)
def badB (c : Int) : Bool := rptB c || decide (c = 125) || decide (c = 93) || decide (c = 41) || decide (c = 124)
inductive Quant : List UInt8 → Int → Int → List UInt8 → Prop
 | star {t : List UInt8} : Quant (42 :: t) 0 (-1) t
 | plus {t : List UInt8} : Quant (43 :: t) 1 (-1) t
 | quest {t : List UInt8} : Quant (63 :: t) 0 1 t
 | braces {t ys : List UInt8} {n m : Int} (h : Braces t n m ys) : Quant (123 :: t) n m ys
mutual
inductive AltL : List UInt8 → List Rx → List UInt8 → Prop
 | one {xs ys : List UInt8} {l : List Rx} (h : SeqL xs l ys) (h2 : nx ys ≠ 124) : AltL xs [joinR .cat l] ys
 | more {xs ys zs : List UInt8} {l m : List Rx} (h : SeqL xs l (124 :: ys)) (h2 : AltL ys m zs) : AltL xs (joinR .cat l :: m) zs
inductive SeqL : List UInt8 → List Rx → List UInt8 → Prop
 | done {xs : List UInt8} (h : nx xs = -1 ∨ nx xs = 124 ∨ nx xs = 41) : SeqL xs [] xs
 | more {xs ys zs : List UInt8} {x : Rx} {l : List Rx} (h0 : nx xs ≠ -1 ∧ nx xs ≠ 124 ∧ nx xs ≠ 41) (h : Piece xs x ys) (h2 : SeqL ys l zs) : SeqL xs (x :: l) zs
inductive Piece : List UInt8 → Rx → List UInt8 → Prop
 | bare {xs ys : List UInt8} {x : Rx} (h : Atom xs x ys) (h2 : rptB (nx ys) = false) : Piece xs x ys
 | rep {xs ys zs : List UInt8} {x : Rx} {n m : Int} (h0 : nx xs ≠ 94 ∧ nx xs ≠ 36) (h : Atom xs x ys) (h2 : Quant ys n m zs) (h3 : rptB (nx zs) = false) : Piece xs (.rep x n m) zs
inductive Atom : List UInt8 → Rx → List UInt8 → Prop
 | any {t : List UInt8} : Atom (46 :: t) .any t
 | beg {t : List UInt8} : Atom (94 :: t) .beg t
 | fin {t : List UInt8} : Atom (36 :: t) .fin t
 | group {t ys : List UInt8} {l : List Rx} (h0 : nx t ≠ 63) (h : AltL t l (41 :: ys)) : Atom (40 :: t) (joinR .alt l) ys
 | group2 {t ys : List UInt8} {l : List Rx} (h : AltL t l (41 :: ys)) : Atom (40 :: 63 :: 58 :: t) (joinR .alt l) ys
 | cls {t ys : List UInt8} {L : Spans} {cs : List Int} (h0 : nx t ≠ 94) (h : Items true t L ys) (hs : SetOf (inSp L) cs) : Atom (91 :: t) (.set cs) ys
 | classN {t ys : List UInt8} {L : Spans} {cs : List Int} (h : Items true t L ys) (hs : SetOf (fun c => ¬ inSp L c) cs) : Atom (91 :: 94 :: t) (.set cs) ys
 | escS {t ys : List UInt8} {L : Spans} {cs : List Int} (h : EscS t L ys) (hs : SetOf (inSp L) cs) : Atom (92 :: t) (.set cs) ys
 | escC {t ys : List UInt8} {c : Int} (h : EscC t c ys) : Atom (92 :: t) (.chr c) ys
 | chr {xs : List UInt8} (h0 : 0 ≤ nx xs) (h1 : badB (nx xs) = false) (h2 : nx xs ≠ 46 ∧ nx xs ≠ 94 ∧ nx xs ≠ 36 ∧ nx xs ≠ 40 ∧ nx xs ≠ 91 ∧ nx xs ≠ 92) : Atom xs (.chr (nx xs)) (xs.drop (nl xs))
end
def Parsed (xs : List UInt8) (r : Rx) : Prop := ∃ l, AltL xs l [] ∧ r = joinR .alt l
theorem numF_suf : ∀ (xs : List UInt8) (n : Int), (numF n xs).2 <:+ xs
 | [], _ => List.suffix_refl _
 | b :: t, n => by
  unfold numF
  split
  ·exact (numF_suf t _).trans (List.suffix_cons b t)
  ·exact List.suffix_refl _
theorem Braces.suf {xs ys : List UInt8} {n m : Int} (h : Braces xs n m ys) : ys <:+ xs ∧ ys.length < xs.length := by
 have key : ∀ {xs zs : List UInt8} {n : Int} {b : UInt8}, numF 0 xs = (n, b :: zs) → zs <:+ xs ∧ zs.length < xs.length := by
  intro xs zs n b e
  have h1 := numF_suf xs 0
  rw [e] at h1
  have h2 := h1.length_le
  simp only [List.length_cons] at h2
  exact ⟨(List.suffix_cons _ _).trans h1, by omega⟩
 cases h with
 | same h e hn => exact key e
 | more h e hn => have h1 := key e; exact ⟨(List.suffix_cons _ _).trans h1.1, by have := h1.2; simp only [List.length_cons] at this; omega⟩
 | upto h e h2 e2 hn hm => have h1 := key e; have h3 := key e2; exact ⟨h3.1.trans h1.1, by have := h1.2; have := h3.2; omega⟩
theorem EscC.suf {xs ys : List UInt8} {c : Int} (h : EscC xs c ys) : ys <:+ xs ∧ ys.length < xs.length := by
 cases h with
 | u h h2 => exact ⟨⟨[117, _, _, _, _], rfl⟩, by simp; omega⟩
 | uu h h2 h3 h4 => exact ⟨⟨[117, _, _, _, _, 92, 117, _, _, _, _], rfl⟩, by simp; omega⟩
 | _ => exact ⟨List.suffix_cons _ _, by simp⟩
theorem EscS.suf {xs ys : List UInt8} {s : Spans} (h : EscS xs s ys) : ys <:+ xs ∧ ys.length < xs.length := by
 cases h <;> exact ⟨List.suffix_cons _ _, by simp⟩
theorem Single.suf {f : Bool} {xs ys : List UInt8} {c : Int} (h : Single f xs c ys) : ys <:+ xs ∧ ys.length < xs.length := by
 cases h with
 | esc h => have := h.suf; exact ⟨this.1.trans (List.suffix_cons _ _), by have := this.2; simp; omega⟩
 | dash h => exact ⟨List.suffix_cons _ _, by simp⟩
 | dash1 => exact ⟨List.suffix_cons _ _, by simp⟩
 | chr h0 h1 h2 h3 => have h4 := nl_pos h0; have h5 := nl_le xs; exact ⟨List.drop_suffix _ _, by rw [List.length_drop]; omega⟩
theorem Item.suf {f : Bool} {xs ys : List UInt8} {s : Spans} (h : Item f xs s ys) : ys <:+ xs ∧ ys.length < xs.length := by
 cases h with
 | cls h => have := h.suf; exact ⟨this.1.trans (List.suffix_cons _ _), by have := this.2; simp; omega⟩
 | one h h2 => exact h.suf
 | two h h2 h3 h4 =>
  have h1 := h.suf; have h5 := h3.suf
  exact ⟨h5.1.trans ((List.suffix_cons _ _).trans h1.1), by have := h1.2; have := h5.2; simp only [List.length_cons] at *; omega⟩
theorem Items.suf {f : Bool} {xs ys : List UInt8} {s : Spans} (h : Items f xs s ys) : ys <:+ xs ∧ ys.length < xs.length := by
 induction h with
 | done => exact ⟨List.suffix_cons _ _, by simp⟩
 | more h0 h h2 ih => have h1 := h.suf; exact ⟨ih.1.trans h1.1, by have := h1.2; have := ih.2; omega⟩
theorem Quant.suf {xs ys : List UInt8} {n m : Int} (h : Quant xs n m ys) : ys <:+ xs ∧ ys.length < xs.length := by
 cases h with
 | braces h => have := h.suf; exact ⟨this.1.trans (List.suffix_cons _ _), by have := this.2; simp; omega⟩
 | _ => exact ⟨List.suffix_cons _ _, by simp⟩
mutual
theorem AltL.suf : ∀ {xs ys : List UInt8} {l : List Rx}, AltL xs l ys → ys <:+ xs ∧ ys.length ≤ xs.length
 | _, _, _, .one h _ => h.suf
 | _, _, _, .more h h2 => by
  have h1 := h.suf; have h3 := h2.suf
  exact ⟨h3.1.trans ((List.suffix_cons _ _).trans h1.1), by have := h1.2; have := h3.2; simp only [List.length_cons] at *; omega⟩
theorem SeqL.suf : ∀ {xs ys : List UInt8} {l : List Rx}, SeqL xs l ys → ys <:+ xs ∧ ys.length ≤ xs.length
 | _, _, _, .done _ => ⟨List.suffix_refl _, Nat.le_refl _⟩
 | _, _, _, .more _ h h2 => by
  have h1 := h.suf; have h3 := h2.suf
  exact ⟨h3.1.trans h1.1, by have := h1.2; have := h3.2; omega⟩
theorem Piece.suf : ∀ {xs ys : List UInt8} {x : Rx}, Piece xs x ys → ys <:+ xs ∧ ys.length < xs.length
 | _, _, _, .bare h _ => h.suf
 | _, _, _, .rep _ h h2 _ => by
  have h1 := h.suf; have h3 := h2.suf
  exact ⟨h3.1.trans h1.1, by have := h1.2; have := h3.2; omega⟩
theorem Atom.suf : ∀ {xs ys : List UInt8} {x : Rx}, Atom xs x ys → ys <:+ xs ∧ ys.length < xs.length
 | _, _, _, .any => ⟨List.suffix_cons _ _, by simp⟩
 | _, _, _, .beg => ⟨List.suffix_cons _ _, by simp⟩
 | _, _, _, .fin => ⟨List.suffix_cons _ _, by simp⟩
 | _, _, _, .group _ h => by
  have h1 := h.suf
  exact ⟨(List.suffix_cons _ _).trans (h1.1.trans (List.suffix_cons _ _)), by have := h1.2; simp only [List.length_cons] at *; omega⟩
 | _, _, _, .group2 h => by
  have h1 := h.suf
  exact ⟨(List.suffix_cons _ _).trans (h1.1.trans ⟨[40, 63, 58], rfl⟩), by have := h1.2; simp only [List.length_cons] at *; omega⟩
 | _, _, _, .cls _ h _ => by
  have h1 := h.suf
  exact ⟨h1.1.trans (List.suffix_cons _ _), by have := h1.2; simp only [List.length_cons] at *; omega⟩
 | _, _, _, .classN h _ => by
  have h1 := h.suf
  exact ⟨h1.1.trans ⟨[91, 94], rfl⟩, by have := h1.2; simp only [List.length_cons] at *; omega⟩
 | _, _, _, .escS h _ => by
  have h1 := h.suf
  exact ⟨h1.1.trans (List.suffix_cons _ _), by have := h1.2; simp only [List.length_cons] at *; omega⟩
 | _, _, _, .escC h => by
  have h1 := h.suf
  exact ⟨h1.1.trans (List.suffix_cons _ _), by have := h1.2; simp only [List.length_cons] at *; omega⟩
 | xs, _, _, .chr h0 _ _ => by
  have h4 := nl_pos h0
  have h5 := nl_le xs
  exact ⟨List.drop_suffix _ _, by rw [List.length_drop]; omega⟩
end
theorem nx_lit (b : UInt8) (t : List UInt8) (h : b.toNat < 128) : nx (b :: t) = b.toNat := (nx_ascii b t h).1
theorem Single.nx {f : Bool} {xs ys : List UInt8} {c : Int} (h : Single f xs c ys) : 0 ≤ YthhnmpkgleelfaaGreatDoor.nx xs := by
 cases h with
 | chr h0 => exact h0
 | _ => rw [nx_lit _ _ (by decide)]; exact Int.natCast_nonneg _
theorem Items.nx {f : Bool} {xs ys : List UInt8} {s : Spans} (h : Items f xs s ys) : 0 ≤ YthhnmpkgleelfaaGreatDoor.nx xs := by
 cases h with
 | done => rw [nx_lit _ _ (by decide)]; exact Int.natCast_nonneg _
 | more h0 h h2 =>
  cases h with
  | cls h => rw [nx_lit _ _ (by decide)]; exact Int.natCast_nonneg _
  | one h => exact h.nx
  | two h => exact h.nx
theorem Atom.nx {xs ys : List UInt8} {x : Rx} (h : Atom xs x ys) : 0 ≤ YthhnmpkgleelfaaGreatDoor.nx xs := by
 cases h with
 | chr h0 => exact h0
 | _ => rw [nx_lit _ _ (by decide)]; exact Int.natCast_nonneg _
theorem Piece.nx {xs ys : List UInt8} {x : Rx} (h : Piece xs x ys) : 0 ≤ YthhnmpkgleelfaaGreatDoor.nx xs := by
 cases h with
 | bare h => exact h.nx
 | rep _ h => exact h.nx
theorem SeqL.nx {xs ys : List UInt8} {l : List Rx} (h : SeqL xs l ys) : YthhnmpkgleelfaaGreatDoor.nx xs ≠ -2 := by
 cases h with
 | done h => omega
 | more _ h => have := h.nx; omega
theorem AltL.nx {xs ys : List UInt8} {l : List Rx} (h : AltL xs l ys) : YthhnmpkgleelfaaGreatDoor.nx xs ≠ -2 := by
 cases h with
 | one h => exact h.nx
 | more h => exact h.nx
theorem Gaps.tail {a b : Int} {l : List Int} (h : Gaps (a :: b :: l)) : a ≤ b ∧ Gaps l ∧ ∀ c, inCs l c → b + 1 < c := by
 suffices H : ∀ (n : Nat) (a b : Int) (l : List Int), l.length ≤ n → Gaps (a :: b :: l) → a ≤ b ∧ Gaps l ∧ ∀ c, inCs l c → b + 1 < c from H l.length a b l (Nat.le_refl _) h
 intro n
 induction n with
 | zero =>
  intro a b l hl h
  obtain rfl : l = [] := List.eq_nil_of_length_eq_zero (by omega)
  exact ⟨h, trivial, fun c hc => by simp [inCs] at hc⟩
 | succ n ih =>
  intro a b l hl h
  match l, h with
  | [], h => exact ⟨h, trivial, fun c hc => by simp [inCs] at hc⟩
  | [c], h => simp only [Gaps] at h; exact absurd h.2.2 (by simp)
  | c :: d :: m, h =>
   simp only [Gaps] at h
   obtain ⟨h1, h2, h3⟩ := h
   obtain ⟨k1, k2, k3⟩ := ih c d m (by simp only [List.length_cons] at hl; omega) h3
   refine ⟨h1, h3, fun x hx => ?_⟩
   simp only [inCs] at hx
   rcases hx with hx | hx
   ·omega
   ·have := k3 x hx; omega
theorem Gaps.cons {a b : Int} {l : List Int} (h1 : a ≤ b) (h2 : Gaps l) (h3 : ∀ c, inCs l c → b + 1 < c) : Gaps (a :: b :: l) := by
 match l, h2, h3 with
 | [], _, _ => exact h1
 | [c], h2, _ => simp [Gaps] at h2
 | c :: d :: m, h2, h3 =>
  have hd := (h2.tail).1
  exact ⟨h1, h3 c (by simp only [inCs]; exact .inl ⟨Int.le_refl _, hd⟩), h2⟩
theorem gaps_uniq : ∀ (n : Nat) (l m : List Int), l.length ≤ n → Gaps l → Gaps m → (∀ c, inCs l c ↔ inCs m c) → l = m
 | n, [], m, _, _, hm, h => by
  match m, hm with
  | [], _ => rfl
  | [x], hm => simp [Gaps] at hm
  | a :: b :: m, hm => exact absurd ((h a).2 (by simp only [inCs]; exact .inl ⟨Int.le_refl _, hm.tail.1⟩)) (by simp [inCs])
 | n, [x], m, _, hl, _, _ => by simp [Gaps] at hl
 | 0, a :: b :: l, m, hn, _, _, _ => by simp at hn
 | n + 1, a :: b :: l, m, hn, hl, hm, h => by
  obtain ⟨h1, h2, h3⟩ := hl.tail
  match m, hm with
  | [], _ => exact absurd ((h a).1 (by simp only [inCs]; exact .inl ⟨Int.le_refl _, h1⟩)) (by simp [inCs])
  | [x], hm => simp [Gaps] at hm
  | a' :: b' :: m, hm =>
   obtain ⟨k1, k2, k3⟩ := hm.tail
   simp only [inCs] at h
   have e1 : a = a' := by
    have p := (h a).1 (.inl ⟨Int.le_refl _, h1⟩)
    have q := (h a').2 (.inl ⟨Int.le_refl _, k1⟩)
    have p' : a' ≤ a := by rcases p with p | p; (· omega); (· have := k3 _ p; omega)
    have q' : a ≤ a' := by rcases q with q | q; (· omega); (· have := h3 _ q; omega)
    omega
   subst e1
   have e2 : b = b' := by
    by_cases hlt : b < b'
    ·have q := (h (b + 1)).2 (.inl ⟨by omega, by omega⟩)
     rcases q with q | q
     ·omega
     ·have := h3 _ q; omega
    ·by_cases hgt : b' < b
     ·have q := (h (b' + 1)).1 (.inl ⟨by omega, by omega⟩)
      rcases q with q | q
      ·omega
      ·have := k3 _ q; omega
     ·omega
   subst e2
   rw [gaps_uniq n l m (by simp only [List.length_cons] at hn; omega) h2 k2 (fun c => ?_)]
   constructor
   ·intro hc
    have := h3 c hc
    rcases (h c).1 (.inr hc) with q | q
    ·omega
    ·exact q
   ·intro hc
    have := k3 c hc
    rcases (h c).2 (.inr hc) with q | q
    ·omega
    ·exact q
theorem SetOf.uniq {P : Int → Prop} {l m : List Int} (h : SetOf P l) (k : SetOf P m) : l = m :=
 gaps_uniq l.length l m (Nat.le_refl _) h.gaps k.gaps (fun c => (h.mem c).trans (k.mem c).symm)
theorem SetOf.wk {P Q : Int → Prop} {l : List Int} (h : SetOf P l) (hq : ∀ c, isR c = true → (P c ↔ Q c)) : SetOf Q l :=
 ⟨h.gaps, h.chars, fun c => (h.mem c).trans ⟨fun hc => ⟨hc.1, (hq c hc.1).1 hc.2⟩, fun hc => ⟨hc.1, (hq c hc.1).2 hc.2⟩⟩⟩
def flatS : Spans → List Int
 | [] => []
 | (a, b) :: l => a :: b :: flatS l
theorem inCs_flat : ∀ (l : Spans) (c : Int), inCs (flatS l) c ↔ inSp l c
 | [], c => by simp [flatS, inCs, inSp]
 | (a, b) :: l, c => by
  simp only [flatS, inCs, inCs_flat l c, inSp, List.mem_cons, exists_eq_or_imp]
def GapsS (l : Spans) : Prop := Gaps (flatS l)
theorem GapsS.cons {a b : Int} {l : Spans} (h1 : a ≤ b) (h2 : GapsS l) (h3 : ∀ c, inSp l c → b + 1 < c) : GapsS ((a, b) :: l) :=
 Gaps.cons h1 h2 (fun c hc => h3 c ((inCs_flat l c).1 hc))
theorem GapsS.tail {a b : Int} {l : Spans} (h : GapsS ((a, b) :: l)) : a ≤ b ∧ GapsS l ∧ ∀ c, inSp l c → b + 1 < c := by
 obtain ⟨h1, h2, h3⟩ := Gaps.tail (l := flatS l) h
 exact ⟨h1, h2, fun c hc => h3 c ((inCs_flat l c).2 hc)⟩
theorem GapsS.nil : GapsS [] := trivial
theorem GapsS.append : ∀ {l m : Spans}, GapsS l → GapsS m → (∀ p ∈ l, ∀ q ∈ m, p.2 + 1 < q.1) → GapsS (l ++ m)
 | [], _, _, hm, _ => hm
 | (a, b) :: l, m, hl, hm, h => by
  obtain ⟨h1, h2, h3⟩ := hl.tail
  refine GapsS.cons h1 (GapsS.append h2 hm (fun p hp q hq => h p (List.mem_cons_of_mem _ hp) q hq)) (fun c hc => ?_)
  obtain ⟨p, hp, hc1, hc2⟩ := hc
  rcases List.mem_append.1 hp with hp | hp
  ·exact h3 c ⟨p, hp, hc1, hc2⟩
  ·have := h (a, b) (by simp) p hp; simp only at this; omega
theorem GapsS.left : ∀ {l m : Spans}, GapsS (l ++ m) → GapsS l ∧ GapsS m ∧ (∀ p ∈ l, ∀ q ∈ m, q.1 ≤ q.2 → p.2 + 1 < q.1)
 | [], _, h => ⟨GapsS.nil, h, by simp⟩
 | (a, b) :: l, m, h => by
  obtain ⟨h1, h2, h3⟩ := GapsS.tail (l := l ++ m) h
  obtain ⟨k1, k2, k3⟩ := GapsS.left h2
  refine ⟨GapsS.cons h1 k1 (fun c ⟨p, hp, hc⟩ => h3 c ⟨p, List.mem_append_left _ hp, hc⟩), k2, fun p hp q hq hle => ?_⟩
  rcases List.mem_cons.1 hp with rfl | hp
  ·exact h3 q.1 ⟨q, List.mem_append_right _ hq, Int.le_refl _, hle⟩
  ·exact k3 p hp q hq hle
theorem GapsS.mem {l : Spans} (h : GapsS l) : ∀ p ∈ l, p.1 ≤ p.2 := by
 induction l with
 | nil => simp
 | cons x l ih =>
  obtain ⟨a, b⟩ := x
  obtain ⟨h1, h2, _⟩ := h.tail
  intro p hp
  rcases List.mem_cons.1 hp with rfl | hp
  ·exact h1
  ·exact ih h2 p hp
theorem others_spec : ∀ (l : Spans) (f : Int), GapsS l → (∀ p ∈ l, f ≤ p.1 ∧ p.2 ≤ 1114111) → GapsS (othersF f l) ∧ (∀ p ∈ othersF f l, f ≤ p.1 ∧ p.2 ≤ 1114111) ∧ ∀ c, inSp (othersF f l) c ↔ f ≤ c ∧ c ≤ 1114111 ∧ ¬ inSp l c
 | [], f, _, _ => by
  unfold othersF
  split
  ·rename_i h
   refine ⟨GapsS.cons h GapsS.nil (by simp [inSp]), by simp, fun c => ?_⟩
   simp [inSp]
  ·rename_i h
   exact ⟨GapsS.nil, by simp, fun c => by simp [inSp]; omega⟩
 | (a, b) :: l, f, hg, hb => by
  obtain ⟨h1, h2, h3⟩ := hg.tail
  have hab := hb (a, b) (by simp)
  simp only at hab
  have hl : ∀ p ∈ l, b + 1 ≤ p.1 ∧ p.2 ≤ 1114111 := fun p hp => by
   have := h3 p.1 ⟨p, hp, Int.le_refl _, h2.mem p hp⟩
   have := hb p (List.mem_cons_of_mem _ hp)
   omega
  obtain ⟨k1, k2, k3⟩ := others_spec l (b + 1) h2 hl
  unfold othersF
  have hm : ∀ c, ¬ inSp ((a, b) :: l) c ↔ (¬ (a ≤ c ∧ c ≤ b) ∧ ¬ inSp l c) := fun c => by
   simp only [inSp, List.mem_cons, exists_eq_or_imp, not_or]
  split
  ·rename_i h
   refine ⟨GapsS.append (l := [(f, a - 1)]) (GapsS.cons (by omega) GapsS.nil (by simp [inSp])) k1 (fun p hp q hq => ?_), ?_, fun c => ?_⟩
   ·simp at hp; subst hp; have := (k2 q hq).1; simp only; omega
   ·intro p hp
    rcases List.mem_append.1 hp with hp | hp
    ·simp at hp; subst hp; simp only; omega
    ·have := k2 p hp; omega
   ·rw [hm]
    have : inSp ([(f, a - 1)] ++ othersF (b + 1) l) c ↔ (f ≤ c ∧ c ≤ a - 1) ∨ inSp (othersF (b + 1) l) c := by simp [inSp]
    rw [this, k3]
    constructor
    ·rintro (hc | ⟨hc1, hc2, hc3⟩)
     ·refine ⟨hc.1, by omega, by omega, fun hin => by have := h3 c hin; omega⟩
     ·exact ⟨by omega, hc2, by omega, hc3⟩
    ·rintro ⟨hc1, hc2, hc3, hc4⟩
     by_cases hca : c ≤ a - 1
     ·exact .inl ⟨hc1, hca⟩
     ·exact .inr ⟨by omega, hc2, hc4⟩
  ·rename_i h
   rw [List.nil_append]
   refine ⟨k1, fun p hp => by have := k2 p hp; omega, fun c => ?_⟩
   rw [hm, k3]
   constructor
   ·rintro ⟨hc1, hc2, hc3⟩
    exact ⟨by omega, hc2, by omega, hc3⟩
   ·rintro ⟨hc1, hc2, hc3, hc4⟩
    exact ⟨by omega, hc2, hc4⟩
def mergeF : Spans → Int → Int → Int × Int × Spans
 | [], a, b => (a, b, [])
 | p :: l, a, b => if p.2 + 1 < a ∨ b + 1 < p.1 then ((mergeF l a b).1, (mergeF l a b).2.1, p :: (mergeF l a b).2.2) else mergeF l (min a p.1) (max b p.2)
theorem inSp_cons (p : Int × Int) (l : Spans) (c : Int) : inSp (p :: l) c ↔ (p.1 ≤ c ∧ c ≤ p.2) ∨ inSp l c := by
 simp only [inSp, List.mem_cons, exists_eq_or_imp]
theorem inSp_append (l m : Spans) (c : Int) : inSp (l ++ m) c ↔ inSp l c ∨ inSp m c := by
 simp only [inSp, List.mem_append, or_and_right, exists_or]
theorem merge_far : ∀ (l : Spans) (a b : Int), (∀ p ∈ l, b + 1 < p.1) → mergeF l a b = (a, b, l)
 | [], _, _, _ => rfl
 | p :: l, a, b, h => by
  have h1 := h p (by simp)
  unfold mergeF
  rw [if_pos (.inr h1), merge_far l a b (fun q hq => h q (List.mem_cons_of_mem _ hq))]
structure Merged (l : Spans) (a b a' b' : Int) (n : Spans) : Prop where
 le1 : a' ≤ a
 le2 : b ≤ b'
 gaps : GapsS n
 sub : ∀ p ∈ n, p ∈ l
 sep : ∀ p ∈ n, p.2 + 1 < a' ∨ b' + 1 < p.1
 mem : ∀ c, (inSp n c ∨ (a' ≤ c ∧ c ≤ b')) ↔ (inSp l c ∨ (a ≤ c ∧ c ≤ b))
 low : ∀ x, (∀ p ∈ l, x < p.1) → x < a → x < a'
 lo' : a' = a ∨ ∃ p ∈ l, a' = p.1
 hi' : b' = b ∨ ∃ p ∈ l, b' = p.2
theorem merge_spec : ∀ (l : Spans) (a b : Int), GapsS l → a ≤ b → Merged l a b (mergeF l a b).1 (mergeF l a b).2.1 (mergeF l a b).2.2
 | [], a, b, _, _ => ⟨Int.le_refl _, Int.le_refl _, GapsS.nil, by simp [mergeF], by simp [mergeF], fun c => Iff.rfl, fun _ _ h => h, .inl rfl, .inl rfl⟩
 | (p, q) :: l, a, b, hg, hab => by
  obtain ⟨h1, h2, h3⟩ := hg.tail
  have hl : ∀ r ∈ l, q + 1 < r.1 := fun r hr => h3 r.1 ⟨r, hr, Int.le_refl _, h2.mem r hr⟩
  by_cases hs : q + 1 < a ∨ b + 1 < p
  ·have hun : mergeF ((p, q) :: l) a b = ((mergeF l a b).1, (mergeF l a b).2.1, (p, q) :: (mergeF l a b).2.2) := by
    conv => lhs; unfold mergeF
    rw [if_pos hs]
   rw [hun]
   rcases hs with hs | hs
   ·have ih := merge_spec l a b h2 hab
    have hlow := ih.low (q + 1) hl hs
    refine ⟨ih.le1, ih.le2, GapsS.cons h1 ih.gaps (fun c ⟨r, hr, hc⟩ => by have := hl r (ih.sub r hr); omega), ?_, ?_, fun c => ?_, fun x hx hxa => ih.low x (fun r hr => hx r (List.mem_cons_of_mem _ hr)) hxa, ?_, ?_⟩
    ·intro r hr
     rcases List.mem_cons.1 hr with rfl | hr
     ·simp
     ·exact List.mem_cons_of_mem _ (ih.sub r hr)
    ·intro r hr
     rcases List.mem_cons.1 hr with rfl | hr
     ·exact .inl hlow
     ·exact ih.sep r hr
    ·rw [inSp_cons, inSp_cons]
     have := ih.mem c
     simp only
     constructor
     ·rintro ((h | h) | h)
      ·exact .inl (.inl h)
      ·rcases this.1 (.inl h) with h | h
       ·exact .inl (.inr h)
       ·exact .inr h
      ·rcases this.1 (.inr h) with h | h
       ·exact .inl (.inr h)
       ·exact .inr h
     ·rintro ((h | h) | h)
      ·exact .inl (.inl h)
      ·rcases this.2 (.inl h) with h | h
       ·exact .inl (.inr h)
       ·exact .inr h
      ·rcases this.2 (.inr h) with h | h
       ·exact .inl (.inr h)
       ·exact .inr h
    ·rcases ih.lo' with h | ⟨r, hr, h⟩
     ·exact .inl h
     ·exact .inr ⟨r, List.mem_cons_of_mem _ hr, h⟩
    ·rcases ih.hi' with h | ⟨r, hr, h⟩
     ·exact .inl h
     ·exact .inr ⟨r, List.mem_cons_of_mem _ hr, h⟩
   ·have hf := merge_far l a b (fun r hr => by have := hl r hr; omega)
    rw [hf]
    refine ⟨Int.le_refl _, Int.le_refl _, hg, fun r hr => hr, fun r hr => ?_, fun c => Iff.rfl, fun _ _ h => h, .inl rfl, .inl rfl⟩
    rcases List.mem_cons.1 hr with rfl | hr
    ·exact .inr hs
    ·have := hl r hr; exact .inr (by simp only; omega)
  ·have hun : mergeF ((p, q) :: l) a b = mergeF l (min a p) (max b q) := by
    conv => lhs; unfold mergeF
    rw [if_neg hs]
   rw [hun]
   have ih := merge_spec l (min a p) (max b q) h2 (by omega)
   refine ⟨by have := ih.le1; omega, by have := ih.le2; omega, ih.gaps, fun r hr => List.mem_cons_of_mem _ (ih.sub r hr), ih.sep, fun c => ?_, fun x hx hxa => ih.low x (fun r hr => hx r (List.mem_cons_of_mem _ hr)) (by have := hx (p, q) (by simp); simp only at this; omega), ?_, ?_⟩
   ·rw [ih.mem, inSp_cons]
    simp only
    constructor
    ·rintro (h | h)
     ·exact .inl (.inr h)
     ·by_cases hc : a ≤ c ∧ c ≤ b
      ·exact .inr hc
      ·exact .inl (.inl (by omega))
    ·rintro ((h | h) | h)
     ·exact .inr (by omega)
     ·exact .inl h
     ·exact .inr (by omega)
   ·rcases ih.lo' with h | ⟨r, hr, h⟩
    ·by_cases hap : a ≤ p
     ·exact .inl (by omega)
     ·exact .inr ⟨(p, q), by simp, by simp only; omega⟩
    ·exact .inr ⟨r, List.mem_cons_of_mem _ hr, h⟩
   ·rcases ih.hi' with h | ⟨r, hr, h⟩
    ·by_cases hap : q ≤ b
     ·exact .inl (by omega)
     ·exact .inr ⟨(p, q), by simp, by simp only; omega⟩
    ·exact .inr ⟨r, List.mem_cons_of_mem _ hr, h⟩
theorem placed_spec {n : Spans} {a b : Int} {j : Nat} (hg : GapsS n) (hab : a ≤ b) (hs : ∀ p ∈ n, p.2 + 1 < a ∨ b + 1 < p.1) (h1 : ∀ p ∈ n.take j, p.1 < a) (h2 : ∀ p, n[j]? = some p → a ≤ p.1) :
  GapsS (n.take j ++ (a, b) :: n.drop j) ∧ ∀ c, inSp (n.take j ++ (a, b) :: n.drop j) c ↔ inSp n c ∨ (a ≤ c ∧ c ≤ b) := by
 have hg' := hg
 rw [← List.take_append_drop j n] at hg'
 obtain ⟨g1, g2, g3⟩ := hg'.left
 have hd : ∀ p ∈ n.drop j, b + 1 < p.1 := by
  intro p hp
  cases hx : n[j]? with
  | none =>
   have : n.length ≤ j := List.getElem?_eq_none_iff.1 hx
   rw [List.drop_eq_nil_of_le this] at hp
   cases hp
  | some x =>
   obtain ⟨hlt, hxe⟩ := List.getElem?_eq_some_iff.1 hx
   have hx1 : b + 1 < x.1 := by
    have hm := hg.mem x (List.mem_of_getElem? hx)
    have := h2 x hx
    rcases hs x (List.mem_of_getElem? hx) with h | h <;> omega
   rw [List.drop_eq_getElem_cons hlt, hxe] at hp g2
   rcases List.mem_cons.1 hp with rfl | hp2
   ·exact hx1
   ·obtain ⟨x1, x2⟩ := x
    obtain ⟨k1, k2, k3⟩ := g2.tail
    have := k3 p.1 ⟨p, hp2, Int.le_refl _, k2.mem p hp2⟩
    simp only at hx1
    omega
 have ht : ∀ p ∈ n.take j, p.2 + 1 < a := by
  intro p hp
  have hm := hg.mem p (List.mem_of_mem_take hp)
  have := h1 p hp
  rcases hs p (List.mem_of_mem_take hp) with h | h <;> omega
 refine ⟨GapsS.append g1 (GapsS.cons hab g2 (fun c ⟨p, hp, hc⟩ => by have := hd p hp; omega)) (fun p hp q hq => ?_), fun c => ?_⟩
 ·rcases List.mem_cons.1 hq with rfl | hq
  ·exact ht p hp
  ·have h3 := ht p hp; have h4 := hd q hq; omega
 ·rw [inSp_append, inSp_cons]
  have : inSp n c ↔ inSp (n.take j) c ∨ inSp (n.drop j) c := by rw [← inSp_append, List.take_append_drop]
  rw [this]
  simp only
  constructor
  ·rintro (h | h | h)
   ·exact .inl (.inl h)
   ·exact .inr h
   ·exact .inl (.inr h)
  ·rintro ((h | h) | h)
   ·exact .inl h
   ·exact .inr (.inr h)
   ·exact .inr (.inl h)
def loC (a : Int) : Int := if 55296 ≤ a ∧ a ≤ 57343 then 57344 else a
def hiC (b : Int) : Int := if 55296 ≤ b ∧ b ≤ 57343 then 55295 else b
def cutS (p : Int × Int) : Spans :=
 if hiC p.2 < loC p.1 then [] else if loC p.1 < 55296 ∧ 57343 < hiC p.2 then [(loC p.1, 55295), (57344, hiC p.2)] else [(loC p.1, hiC p.2)]
theorem cut_spec {a b : Int} (h0 : 0 ≤ a) (hab : a ≤ b) (hb : b ≤ 1114111) : GapsS (cutS (a, b)) ∧ (∀ p ∈ cutS (a, b), isR p.1 = true ∧ isR p.2 = true ∧ a ≤ p.1 ∧ p.2 ≤ b) ∧ ∀ c, inSp (cutS (a, b)) c ↔ (a ≤ c ∧ c ≤ b ∧ isR c = true) := by
 have hr : ∀ c : Int, isR c = true ↔ 0 ≤ c ∧ c ≤ 1114111 ∧ ¬ (55296 ≤ c ∧ c ≤ 57343) := by intro c; unfold isR; simp; omega
 have hx : (¬ (55296 ≤ a ∧ a ≤ 57343) ∧ loC a = a) ∨ ((55296 ≤ a ∧ a ≤ 57343) ∧ loC a = 57344) := by unfold loC; split <;> omega
 have hy : (¬ (55296 ≤ b ∧ b ≤ 57343) ∧ hiC b = b) ∨ ((55296 ≤ b ∧ b ≤ 57343) ∧ hiC b = 55295) := by unfold hiC; split <;> omega
 unfold cutS
 simp only
 generalize loC a = x at *
 generalize hiC b = y at *
 by_cases h : y < x
 ·rw [if_pos h]
  refine ⟨GapsS.nil, by simp, fun c => ?_⟩
  rw [hr]
  simp only [inSp, List.not_mem_nil, false_and, exists_false, false_iff]
  omega
 ·rw [if_neg h]
  by_cases h2 : x < 55296 ∧ 57343 < y
  ·rw [if_pos h2]
   refine ⟨GapsS.cons (by omega) (GapsS.cons (by omega) GapsS.nil (by simp [inSp])) (fun c hc => ?_), ?_, fun c => ?_⟩
   ·obtain ⟨p, hp, hc⟩ := hc
    simp at hp; subst hp; simp only at hc; omega
   ·intro p hp
    simp at hp
    rcases hp with rfl | rfl
    ·simp only; rw [hr, hr]; omega
    ·simp only; rw [hr, hr]; omega
   ·rw [inSp_cons, inSp_cons, hr]
    simp only [inSp, List.not_mem_nil, false_and, exists_false, or_false]
    omega
  ·rw [if_neg h2]
   refine ⟨GapsS.cons (by omega) GapsS.nil (by simp [inSp]), ?_, fun c => ?_⟩
   ·intro p hp
    simp at hp
    subst hp
    simp only; rw [hr, hr]; omega
   ·rw [inSp_cons, hr]
    simp only [inSp, List.not_mem_nil, false_and, exists_false, or_false]
    omega
theorem cuts_spec : ∀ (M : Spans), GapsS M → (∀ p ∈ M, 0 ≤ p.1 ∧ p.2 ≤ 1114111) → GapsS (M.flatMap cutS) ∧ (∀ p ∈ M.flatMap cutS, isR p.1 = true ∧ isR p.2 = true ∧ ∃ q ∈ M, q.1 ≤ p.1 ∧ p.2 ≤ q.2) ∧ ∀ c, inSp (M.flatMap cutS) c ↔ (inSp M c ∧ isR c = true)
 | [], _, _ => ⟨GapsS.nil, by simp, fun c => by simp [inSp]⟩
 | (a, b) :: M, hg, hb => by
  obtain ⟨h1, h2, h3⟩ := hg.tail
  have hab := hb (a, b) (by simp)
  simp only at hab
  obtain ⟨c1, c2, c3⟩ := cut_spec hab.1 h1 hab.2
  obtain ⟨k1, k2, k3⟩ := cuts_spec M h2 (fun p hp => hb p (List.mem_cons_of_mem _ hp))
  rw [List.flatMap_cons]
  refine ⟨GapsS.append c1 k1 (fun p hp q hq => ?_), ?_, fun c => ?_⟩
  ·have := (c2 p hp).2.2.2
   obtain ⟨r, hr, hr1, _⟩ := (k2 q hq).2.2
   have := h3 r.1 ⟨r, hr, Int.le_refl _, h2.mem r hr⟩
   omega
  ·intro p hp
   rcases List.mem_append.1 hp with hp | hp
   ·have := c2 p hp; exact ⟨this.1, this.2.1, (a, b), by simp, this.2.2⟩
   ·obtain ⟨x, y, q, hq, z⟩ := k2 p hp; exact ⟨x, y, q, List.mem_cons_of_mem _ hq, z⟩
  ·rw [inSp_append, c3, k3, inSp_cons]
   simp only
   constructor
   ·rintro (⟨x, y, z⟩ | ⟨x, y⟩)
    ·exact ⟨.inl ⟨x, y⟩, z⟩
    ·exact ⟨.inr x, y⟩
   ·rintro ⟨x | x, y⟩
    ·exact .inl ⟨x.1, x.2, y⟩
    ·exact .inr ⟨x, y⟩
theorem setOf_cuts {M : Spans} (hg : GapsS M) (hb : ∀ p ∈ M, 0 ≤ p.1 ∧ p.2 ≤ 1114111) : SetOf (inSp M) (flatS (M.flatMap cutS)) := by
 obtain ⟨h1, h2, h3⟩ := cuts_spec M hg hb
 refine ⟨h1, ?_, fun c => ?_⟩
 ·have key : ∀ (L : Spans), (∀ p ∈ L, isR p.1 = true ∧ isR p.2 = true) → ∀ c ∈ flatS L, isR c = true := by
   intro L
   induction L with
   | nil => simp [flatS]
   | cons x L ih =>
    obtain ⟨a, b⟩ := x
    intro h c hc
    simp only [flatS, List.mem_cons] at hc
    have hx := h (a, b) (by simp)
    rcases hc with rfl | rfl | hc
    ·exact hx.1
    ·exact hx.2
    ·exact ih (fun p hp => h p (List.mem_cons_of_mem _ hp)) c hc
  exact key _ (fun p hp => ⟨(h2 p hp).1, (h2 p hp).2.1⟩)
 ·rw [inCs_flat, h3]; exact and_comm
def tot (l : List Rx) : Nat := (l.map fun r => r.size + 1).sum
theorem tot_cons (x : Rx) (l : List Rx) : tot (x :: l) = x.size + 1 + tot l := by simp [tot]
theorem tot_join (op : Rx → Rx → Rx) (hop : ∀ a b, (op a b).size = 1 + a.size + b.size) : ∀ (l : List Rx), l ≠ [] → (joinR op l).size + 1 = tot l
 | [], h => absurd rfl h
 | [x], _ => by simp [joinR, tot]
 | x :: y :: l, _ => by
  rw [joinR_cons op x (by simp), hop, tot_cons]
  have := tot_join op hop (y :: l) (by simp)
  omega
theorem size_cat (l : List Rx) (h : l ≠ []) : (joinR .cat l).size + 1 = tot l := tot_join .cat (fun _ _ => rfl) l h
theorem size_alt (l : List Rx) (h : l ≠ []) : (joinR .alt l).size + 1 = tot l := tot_join .alt (fun _ _ => rfl) l h
theorem AltL.ne {xs ys : List UInt8} {l : List Rx} (h : AltL xs l ys) : l ≠ [] := by cases h <;> simp
theorem cat_le (l : List Rx) : (joinR .cat l).size ≤ tot l + 1 ∧ (l ≠ [] → (joinR .cat l).size + 1 = tot l) := by
 cases l with
 | nil => simp [joinR, Rx.size]
 | cons x l => have := size_cat (x :: l) (by simp); exact ⟨by omega, fun _ => this⟩
theorem cat_le2 (l : List Rx) : (joinR .cat l).size + 1 ≤ tot l + 2 := by have := (cat_le l).1; omega
mutual
theorem AltL.tot : ∀ {xs ys : List UInt8} {l : List Rx}, AltL xs l ys → YthhnmpkgleelfaaGreatDoor.tot l + 2 * ys.length ≤ 2 * xs.length + 2
 | _, _, _, @AltL.one _ _ l h _ => by
  have h1 := h.tot
  have h2 := cat_le2 l
  rw [tot_cons, show YthhnmpkgleelfaaGreatDoor.tot [] = 0 from rfl]
  omega
 | _, _, _, @AltL.more _ _ _ l _ h h2 => by
  have h1 := h.tot; have h3 := h2.tot
  have h4 := cat_le2 l
  rw [tot_cons]
  rw [List.length_cons] at h1
  omega
theorem SeqL.tot : ∀ {xs ys : List UInt8} {l : List Rx}, SeqL xs l ys → YthhnmpkgleelfaaGreatDoor.tot l + 2 * ys.length ≤ 2 * xs.length
 | _, _, _, .done _ => by simp [YthhnmpkgleelfaaGreatDoor.tot]
 | _, _, _, .more _ h h2 => by
  have h1 := h.size; have h3 := h2.tot
  rw [tot_cons]
  omega
theorem Piece.size : ∀ {xs ys : List UInt8} {x : Rx}, Piece xs x ys → x.size + 1 + 2 * ys.length ≤ 2 * xs.length
 | _, _, _, .bare h _ => h.size
 | _, _, _, .rep _ h h2 _ => by
  have h1 := h.size; have h3 := h2.suf.2
  show 1 + Rx.size _ + 1 + _ ≤ _
  omega
theorem Atom.size : ∀ {xs ys : List UInt8} {x : Rx}, Atom xs x ys → x.size + 1 + 2 * ys.length ≤ 2 * xs.length
 | _, _, _, .any => by simp [Rx.size]; omega
 | _, _, _, .beg => by simp [Rx.size]; omega
 | _, _, _, .fin => by simp [Rx.size]; omega
 | _, _, _, .group _ h => by
  have h1 := h.tot
  have h2 := size_alt _ h.ne
  simp only [List.length_cons] at *
  omega
 | _, _, _, .group2 h => by
  have h1 := h.tot
  have h2 := size_alt _ h.ne
  simp only [List.length_cons] at *
  omega
 | _, _, _, .cls _ h _ => by have := h.suf.2; simp only [List.length_cons, Rx.size] at *; omega
 | _, _, _, .classN h _ => by have := h.suf.2; simp only [List.length_cons, Rx.size] at *; omega
 | _, _, _, .escS h _ => by have := h.suf.2; simp only [List.length_cons, Rx.size] at *; omega
 | _, _, _, .escC h => by have := h.suf.2; simp only [List.length_cons, Rx.size] at *; omega
 | xs, _, _, .chr h0 _ _ => by
  have h4 := nl_pos h0
  have h5 := nl_le xs
  simp only [List.length_drop, Rx.size]
  omega
end
theorem Parsed.size {xs : List UInt8} {r : Rx} (h : Parsed xs r) : r.size ≤ 2 * xs.length + 1 := by
 obtain ⟨l, hl, rfl⟩ := h
 have h1 := hl.tot
 have h2 := size_alt _ hl.ne
 simp only [List.length_nil] at h1
 omega
end Go.Proofs.YthhnmpkgleelfaaGreatDoor
