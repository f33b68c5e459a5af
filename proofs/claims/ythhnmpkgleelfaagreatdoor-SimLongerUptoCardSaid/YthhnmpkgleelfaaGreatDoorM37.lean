import Derived.Test.YthhnmpkgleelfaaGreatDoorM36
import Derived.Deep.LoopGhost
set_option linter.unusedVariables false
set_option linter.unusedSimpArgs false
namespace Go.Proofs.YthhnmpkgleelfaaGreatDoor
open Go.RowKit Go.Shelf
theorem elSpan : ElemK 209 236 (.agg #[.int .i32 0, .int .i32 0]) 2 8 := ⟨Tryz.underlying209, by kernel_rfl, rfl, by decide⟩
def SpR (w : World) (base : Nat) (v : Value) (L : Spans) : Prop := w.ownsRow base 236 2 v L.length ((flatS L).map runeV)
theorem SpR.below {w w' : World} {base : Nat} {v : Value} {L : Spans} (h : SpR w base v L) (hb : Below w.heap.size w w') : SpR w' base v L := ownsRow_below h hb (Nat.le_refl _)
theorem SpR.nil (w : World) (base : Nat) : SpR w base (.slice none 0 0) [] := ⟨rfl, .inl ⟨rfl, rfl⟩⟩
def LtP (S : Spans) (but : Bool) (s : ByteArray) (B g : Nat) (w : World) (t : List UInt8) (e : Ending) (w' : World) : Prop :=
 ∃ (A : Option Addr) (q : Nat), e = .returned (.tuple #[.slice A S.length q, .bool but, .bool true]) ∧ SpR w' w.heap.size (.slice A S.length q) S ∧ PdP s B g w t w'
theorem row_setAt {s : ByteArray} {B g : Nat} {w : World} {t : List UInt8} {b : UInt8} (h : Pos s B g w (b :: t)) : ∃ k : Nat, k < 1000000 ∧ w.cell? ⟨g, 0, none⟩ = some (.string s) ∧ w.cell? ⟨g, 1, none⟩ = some (.int .i64 k) ∧ w.frozen? ⟨g, 1, none⟩ = false ∧ ∀ z : Int, z = k + 1 → PdP s B g w t (w.setCell ⟨g, 1, none⟩ (.int .i64 z)) := by
 obtain ⟨k, hk, h⟩ := h
 obtain ⟨c0, c1, f1⟩ := h.cells
 obtain ⟨r1, hlt⟩ := rst_cons hk
 have hsz := h.size.1
 exact ⟨k, by omega, c0, c1, f1, fun z hz => PdP.of ((RdP.start h).setNat (m := k + 1) (by omega) (by omega)) r1⟩
theorem own_rd2 {s : ByteArray} {B g base k n : Nat} {e : TypeId} {w w' : World} {t : List UInt8} {v : Value} {us : List Value} (h : w.ownsRow base e k v n us) (hg : Fr g w w') (hp : Pos s B g w t) (he : 109 ≠ e) : w'.ownsRow base e k v n us := by
 obtain ⟨cs, hc⟩ := hp.heap
 exact World.ownsRow.kept h hg (.inr (own_ne h hc he))
theorem sp_lit {w : World} {base : Nat} {L : Spans} {cs : Array Value} (hb : base ≤ w.heap.size) (hc : cs.toList = (flatS L).map runeV) (hs : cs.size = L.length * 2) (hl : L.length ≤ 1000) : SpR (w.alloc (.cells cs 236)) base (.slice (some ⟨w.heap.size, 0, none⟩) L.length L.length) L := by
 refine ⟨by rw [List.length_map, flatS_len]; omega, .inr ⟨w.heap.size, _, cs, rfl, hb, heap_alloc_new w _, Nat.le_refl _, by unfold maxLen; omega, hs, ?_⟩⟩
 rw [List.take_of_length_le (by rw [Array.length_toList, hs]; exact Nat.le_refl _)]
 exact hc
set_option maxHeartbeats 8000000 in
set_option maxRecDepth 100000 in
theorem letter_100 {s : ByteArray} {B g : Nat} {w : World} {t : List UInt8} (h : Pos s B g w (100 :: t)) : Calls Tryz.prog 127 #[.pointer (some ⟨g, 0, none⟩)] w fun e w' => LtP spDig false s B g w t e w' := by
 have Hpk := Lib.hid (qpeek h (by rw [nx_lit _ _ (by decide)]; decide))
 have hp : pkc (100 :: t) = 100 := by rw [pkc_of (by rw [nx_lit _ _ (by decide)]; decide), nx_lit _ _ (by decide)]; rfl
 have Hp := Lib.hid hp
 have HR := Lib.hid (PdP.start h)
 clear h hp
 go_enter Tryz.func127, Tryz.ntmps127
 go_wp2_with fail
 (with_reducible refine Hpk.out.mono ?_)
 rintro e w1 ⟨rfl, hb⟩
 rw [Hp.out]
 have HR1 := Lib.hid ((HR.out.quiet hb).quiet (alloc_below w1 (.cells #[.int .i32 48, .int .i32 57] 236)))
 have HL := Lib.hid (sp_lit (w := w1) (L := spDig) (cs := #[.int .i32 48, .int .i32 57]) hb.size rfl rfl (by decide))
 obtain ⟨k, hk, c0, c1, f1, hset⟩ := row_setAt HR1.out.pos
 have Hset := Lib.hid hset
 clear hb Hpk Hp HR hset
 go_wp2_with fail
 go_ret3
 have h5 := HR1.out.trans (Hset.out _ rfl)
 exact ⟨_, _, rfl, own_rd2 HL.out (Fr.set g 1 _ _) HR1.out.pos (by decide), h5⟩
set_option maxHeartbeats 8000000 in
set_option maxRecDepth 100000 in
theorem letter_68 {s : ByteArray} {B g : Nat} {w : World} {t : List UInt8} (h : Pos s B g w (68 :: t)) : Calls Tryz.prog 127 #[.pointer (some ⟨g, 0, none⟩)] w fun e w' => LtP spDig true s B g w t e w' := by
 have Hpk := Lib.hid (qpeek h (by rw [nx_lit _ _ (by decide)]; decide))
 have hp : pkc (68 :: t) = 68 := by rw [pkc_of (by rw [nx_lit _ _ (by decide)]; decide), nx_lit _ _ (by decide)]; rfl
 have Hp := Lib.hid hp
 have HR := Lib.hid (PdP.start h)
 clear h hp
 go_enter Tryz.func127, Tryz.ntmps127
 go_wp2_with fail
 (with_reducible refine Hpk.out.mono ?_)
 rintro e w1 ⟨rfl, hb⟩
 rw [Hp.out]
 have HR1 := Lib.hid ((HR.out.quiet hb).quiet (alloc_below w1 (.cells #[.int .i32 48, .int .i32 57] 236)))
 have HL := Lib.hid (sp_lit (w := w1) (L := spDig) (cs := #[.int .i32 48, .int .i32 57]) hb.size rfl rfl (by decide))
 obtain ⟨k, hk, c0, c1, f1, hset⟩ := row_setAt HR1.out.pos
 have Hset := Lib.hid hset
 clear hb Hpk Hp HR hset
 go_wp2_with fail
 go_ret3
 have h5 := HR1.out.trans (Hset.out _ rfl)
 exact ⟨_, _, rfl, own_rd2 HL.out (Fr.set g 1 _ _) HR1.out.pos (by decide), h5⟩
set_option maxHeartbeats 8000000 in
set_option maxRecDepth 100000 in
theorem letter_119 {s : ByteArray} {B g : Nat} {w : World} {t : List UInt8} (h : Pos s B g w (119 :: t)) : Calls Tryz.prog 127 #[.pointer (some ⟨g, 0, none⟩)] w fun e w' => LtP spWord false s B g w t e w' := by
 have Hpk := Lib.hid (qpeek h (by rw [nx_lit _ _ (by decide)]; decide))
 have hp : pkc (119 :: t) = 119 := by rw [pkc_of (by rw [nx_lit _ _ (by decide)]; decide), nx_lit _ _ (by decide)]; rfl
 have Hp := Lib.hid hp
 have HR := Lib.hid (PdP.start h)
 clear h hp
 go_enter Tryz.func127, Tryz.ntmps127
 go_wp2_with fail
 (with_reducible refine Hpk.out.mono ?_)
 rintro e w1 ⟨rfl, hb⟩
 rw [Hp.out]
 have HR1 := Lib.hid ((HR.out.quiet hb).quiet (alloc_below w1 (.cells #[.int .i32 48, .int .i32 57, .int .i32 65, .int .i32 90, .int .i32 95, .int .i32 95, .int .i32 97, .int .i32 122] 236)))
 have HL := Lib.hid (sp_lit (w := w1) (L := spWord) (cs := #[.int .i32 48, .int .i32 57, .int .i32 65, .int .i32 90, .int .i32 95, .int .i32 95, .int .i32 97, .int .i32 122]) hb.size rfl rfl (by decide))
 obtain ⟨k, hk, c0, c1, f1, hset⟩ := row_setAt HR1.out.pos
 have Hset := Lib.hid hset
 clear hb Hpk Hp HR hset
 go_wp2_with fail
 go_ret3
 have h5 := HR1.out.trans (Hset.out _ rfl)
 exact ⟨_, _, rfl, own_rd2 HL.out (Fr.set g 1 _ _) HR1.out.pos (by decide), h5⟩
set_option maxHeartbeats 8000000 in
set_option maxRecDepth 100000 in
theorem letter_87 {s : ByteArray} {B g : Nat} {w : World} {t : List UInt8} (h : Pos s B g w (87 :: t)) : Calls Tryz.prog 127 #[.pointer (some ⟨g, 0, none⟩)] w fun e w' => LtP spWord true s B g w t e w' := by
 have Hpk := Lib.hid (qpeek h (by rw [nx_lit _ _ (by decide)]; decide))
 have hp : pkc (87 :: t) = 87 := by rw [pkc_of (by rw [nx_lit _ _ (by decide)]; decide), nx_lit _ _ (by decide)]; rfl
 have Hp := Lib.hid hp
 have HR := Lib.hid (PdP.start h)
 clear h hp
 go_enter Tryz.func127, Tryz.ntmps127
 go_wp2_with fail
 (with_reducible refine Hpk.out.mono ?_)
 rintro e w1 ⟨rfl, hb⟩
 rw [Hp.out]
 have HR1 := Lib.hid ((HR.out.quiet hb).quiet (alloc_below w1 (.cells #[.int .i32 48, .int .i32 57, .int .i32 65, .int .i32 90, .int .i32 95, .int .i32 95, .int .i32 97, .int .i32 122] 236)))
 have HL := Lib.hid (sp_lit (w := w1) (L := spWord) (cs := #[.int .i32 48, .int .i32 57, .int .i32 65, .int .i32 90, .int .i32 95, .int .i32 95, .int .i32 97, .int .i32 122]) hb.size rfl rfl (by decide))
 obtain ⟨k, hk, c0, c1, f1, hset⟩ := row_setAt HR1.out.pos
 have Hset := Lib.hid hset
 clear hb Hpk Hp HR hset
 go_wp2_with fail
 go_ret3
 have h5 := HR1.out.trans (Hset.out _ rfl)
 exact ⟨_, _, rfl, own_rd2 HL.out (Fr.set g 1 _ _) HR1.out.pos (by decide), h5⟩
set_option maxHeartbeats 8000000 in
set_option maxRecDepth 100000 in
theorem letter_115 {s : ByteArray} {B g : Nat} {w : World} {t : List UInt8} (h : Pos s B g w (115 :: t)) : Calls Tryz.prog 127 #[.pointer (some ⟨g, 0, none⟩)] w fun e w' => LtP spBlank false s B g w t e w' := by
 have Hpk := Lib.hid (qpeek h (by rw [nx_lit _ _ (by decide)]; decide))
 have hp : pkc (115 :: t) = 115 := by rw [pkc_of (by rw [nx_lit _ _ (by decide)]; decide), nx_lit _ _ (by decide)]; rfl
 have Hp := Lib.hid hp
 have HR := Lib.hid (PdP.start h)
 clear h hp
 go_enter Tryz.func127, Tryz.ntmps127
 go_wp2_with fail
 (with_reducible refine Hpk.out.mono ?_)
 rintro e w1 ⟨rfl, hb⟩
 rw [Hp.out]
 have HR1 := Lib.hid ((HR.out.quiet hb).quiet (alloc_below w1 (.cells #[.int .i32 9, .int .i32 13, .int .i32 32, .int .i32 32, .int .i32 160, .int .i32 160, .int .i32 5760, .int .i32 5760, .int .i32 8192, .int .i32 8202, .int .i32 8232, .int .i32 8233, .int .i32 8239, .int .i32 8239, .int .i32 8287, .int .i32 8287, .int .i32 12288, .int .i32 12288, .int .i32 65279, .int .i32 65279] 236)))
 have HL := Lib.hid (sp_lit (w := w1) (L := spBlank) (cs := #[.int .i32 9, .int .i32 13, .int .i32 32, .int .i32 32, .int .i32 160, .int .i32 160, .int .i32 5760, .int .i32 5760, .int .i32 8192, .int .i32 8202, .int .i32 8232, .int .i32 8233, .int .i32 8239, .int .i32 8239, .int .i32 8287, .int .i32 8287, .int .i32 12288, .int .i32 12288, .int .i32 65279, .int .i32 65279]) hb.size rfl rfl (by decide))
 obtain ⟨k, hk, c0, c1, f1, hset⟩ := row_setAt HR1.out.pos
 have Hset := Lib.hid hset
 clear hb Hpk Hp HR hset
 go_wp2_with fail
 go_ret3
 have h5 := HR1.out.trans (Hset.out _ rfl)
 exact ⟨_, _, rfl, own_rd2 HL.out (Fr.set g 1 _ _) HR1.out.pos (by decide), h5⟩
set_option maxHeartbeats 8000000 in
set_option maxRecDepth 100000 in
theorem letter_83 {s : ByteArray} {B g : Nat} {w : World} {t : List UInt8} (h : Pos s B g w (83 :: t)) : Calls Tryz.prog 127 #[.pointer (some ⟨g, 0, none⟩)] w fun e w' => LtP spBlank true s B g w t e w' := by
 have Hpk := Lib.hid (qpeek h (by rw [nx_lit _ _ (by decide)]; decide))
 have hp : pkc (83 :: t) = 83 := by rw [pkc_of (by rw [nx_lit _ _ (by decide)]; decide), nx_lit _ _ (by decide)]; rfl
 have Hp := Lib.hid hp
 have HR := Lib.hid (PdP.start h)
 clear h hp
 go_enter Tryz.func127, Tryz.ntmps127
 go_wp2_with fail
 (with_reducible refine Hpk.out.mono ?_)
 rintro e w1 ⟨rfl, hb⟩
 rw [Hp.out]
 have HR1 := Lib.hid ((HR.out.quiet hb).quiet (alloc_below w1 (.cells #[.int .i32 9, .int .i32 13, .int .i32 32, .int .i32 32, .int .i32 160, .int .i32 160, .int .i32 5760, .int .i32 5760, .int .i32 8192, .int .i32 8202, .int .i32 8232, .int .i32 8233, .int .i32 8239, .int .i32 8239, .int .i32 8287, .int .i32 8287, .int .i32 12288, .int .i32 12288, .int .i32 65279, .int .i32 65279] 236)))
 have HL := Lib.hid (sp_lit (w := w1) (L := spBlank) (cs := #[.int .i32 9, .int .i32 13, .int .i32 32, .int .i32 32, .int .i32 160, .int .i32 160, .int .i32 5760, .int .i32 5760, .int .i32 8192, .int .i32 8202, .int .i32 8232, .int .i32 8233, .int .i32 8239, .int .i32 8239, .int .i32 8287, .int .i32 8287, .int .i32 12288, .int .i32 12288, .int .i32 65279, .int .i32 65279]) hb.size rfl rfl (by decide))
 obtain ⟨k, hk, c0, c1, f1, hset⟩ := row_setAt HR1.out.pos
 have Hset := Lib.hid hset
 clear hb Hpk Hp HR hset
 go_wp2_with fail
 go_ret3
 have h5 := HR1.out.trans (Hset.out _ rfl)
 exact ⟨_, _, rfl, own_rd2 HL.out (Fr.set g 1 _ _) HR1.out.pos (by decide), h5⟩
def Turned (L S : Spans) (but : Bool) : Prop := ∀ c, 0 ≤ c → c ≤ 1114111 → (inSp L c ↔ butP S but c)
theorem tur_f (S : Spans) : Turned S S false := fun c _ _ => by unfold butP; simp
theorem tur_t {S : Spans} (hg : GapsS S) (hb : ∀ p ∈ S, 0 ≤ p.1 ∧ p.2 ≤ 1114111) : Turned (spOther S) S true := fun c h0 h1 => by
 have := (others_spec S 0 hg hb).2.2 c
 unfold butP
 rw [show spOther S = othersF 0 S from rfl, this]
 simp [h0, h1]
theorem gaps_dig : GapsS spDig := by unfold GapsS; simp [flatS, spDig, Gaps]
theorem gaps_word : GapsS spWord := by unfold GapsS; simp [flatS, spWord, Gaps]
theorem gaps_blank : GapsS spBlank := by unfold GapsS; simp [flatS, spBlank, Gaps]
theorem base_dig : BdS spDig ∧ SortedS spDig := by unfold BdS SortedS spDig; decide
theorem base_word : BdS spWord ∧ SortedS spWord := by unfold BdS SortedS spWord; decide
theorem base_blank : BdS spBlank ∧ SortedS spBlank := by unfold BdS SortedS spBlank; decide
theorem letter_yes {s : ByteArray} {B g : Nat} {t ys : List UInt8} {L : Spans} (k : EscS t L ys) : ∃ S but, Turned L S but ∧ BdS S ∧ SortedS S ∧ S.length ≤ 10 ∧ (0 < S.length ∧ ∀ p ∈ S, 0 < p.1) ∧ ∀ w1, Pos s B g w1 t → Calls Tryz.prog 127 #[.pointer (some ⟨g, 0, none⟩)] w1 fun e w' => LtP S but s B g w1 ys e w' := by
 cases k with
 | d => exact ⟨_, _, tur_f _, base_dig.1, base_dig.2, by decide, by decide, fun _ h => letter_100 h⟩
 | w => exact ⟨_, _, tur_f _, base_word.1, base_word.2, by decide, by decide, fun _ h => letter_119 h⟩
 | s => exact ⟨_, _, tur_f _, base_blank.1, base_blank.2, by decide, by decide, fun _ h => letter_115 h⟩
 | D => exact ⟨_, _, tur_t gaps_dig (by decide), base_dig.1, base_dig.2, by decide, by decide, fun _ h => letter_68 h⟩
 | W => exact ⟨_, _, tur_t gaps_word (by decide), base_word.1, base_word.2, by decide, by decide, fun _ h => letter_87 h⟩
 | S => exact ⟨_, _, tur_t gaps_blank (by decide), base_blank.1, base_blank.2, by decide, by decide, fun _ h => letter_83 h⟩
def NolP (s : ByteArray) (B g : Nat) (w : World) (t : List UInt8) (e : Ending) (w' : World) : Prop := e = .returned (.tuple #[.slice none 0 0, .bool false, .bool false]) ∧ PdP s B g w t w'
set_option maxHeartbeats 4000000 in
theorem letter_no {s : ByteArray} {B g : Nat} {w : World} {t : List UInt8} (h : Pos s B g w t) (h0 : 0 ≤ nx t) (hn : nx t ≠ 100 ∧ nx t ≠ 68 ∧ nx t ≠ 119 ∧ nx t ≠ 87 ∧ nx t ≠ 115 ∧ nx t ≠ 83) : Calls Tryz.prog 127 #[.pointer (some ⟨g, 0, none⟩)] w fun e w' => NolP s B g w t e w' := by
 have Hpk := Lib.hid (qpeek h (by omega))
 have Hp := Lib.hid (pkc_of h0)
 have HR := Lib.hid (PdP.start h)
 obtain ⟨n1, n2, n3, n4, n5, n6⟩ := hn
 have m1 : (nx t == 100) = false := by simpa using n1
 have m2 : (nx t == 68) = false := by simpa using n2
 have m3 : (nx t == 119) = false := by simpa using n3
 have m4 : (nx t == 87) = false := by simpa using n4
 have m5 : (nx t == 115) = false := by simpa using n5
 have m6 : (nx t == 83) = false := by simpa using n6
 clear h n1 n2 n3 n4 n5 n6
 go_enter Tryz.func127, Tryz.ntmps127
 go_wp2_with fail
 (with_reducible refine Hpk.out.mono ?_)
 rintro e w1 ⟨rfl, hb⟩
 rw [Hp.out]
 have HR1 := Lib.hid (HR.out.quiet hb)
 clear hb
 go_wp2_with fail
 go_ret3
 exact ⟨rfl, HR1.out⟩
theorem row_back {s : ByteArray} {B g : Nat} {w : World} {t : List UInt8} (h : Pos s B g w t) : ∃ k : Nat, k < 1000001 ∧ w.cell? ⟨g, 1, none⟩ = some (.int .i64 k) ∧ ∀ (u : List UInt8) (w1 : World), PdP s B g w u w1 → (∃ v, w1.cell? ⟨g, 1, none⟩ = some v) ∧ w1.frozen? ⟨g, 1, none⟩ = false ∧ PdP s B g w t (w1.setCell ⟨g, 1, none⟩ (.int .i64 k)) := by
 obtain ⟨k, hk, h⟩ := h
 have hs := h.size
 refine ⟨k, by omega, h.cells.2.1, fun u w1 hp => ?_⟩
 obtain ⟨⟨m, hm, h1⟩, h2⟩ := hp
 exact ⟨⟨_, h1.cells.2.1⟩, h1.cells.2.2, ⟨k, hk, h1.setAt hs.2⟩, h2.then (Fr.set g 1 w1 _)⟩
theorem escc_nx {t ys : List UInt8} {c : Int} (h : EscC t c ys) : 0 ≤ nx t ∧ nx t ≠ 100 ∧ nx t ≠ 68 ∧ nx t ≠ 119 ∧ nx t ≠ 87 ∧ nx t ≠ 115 ∧ nx t ≠ 83 := by
 cases h with
 | plain h =>
  rename_i b
  have hb : ∀ b ∈ special, b.toNat < 128 ∧ b.toNat ≠ 100 ∧ b.toNat ≠ 68 ∧ b.toNat ≠ 119 ∧ b.toNat ≠ 87 ∧ b.toNat ≠ 115 ∧ b.toNat ≠ 83 := by decide
  obtain ⟨h1, h2⟩ := hb b h
  rw [nx_lit _ _ h1]
  omega
 | t => rw [nx_lit _ _ (by decide)]; decide
 | n => rw [nx_lit _ _ (by decide)]; decide
 | v => rw [nx_lit _ _ (by decide)]; decide
 | f => rw [nx_lit _ _ (by decide)]; decide
 | r => rw [nx_lit _ _ (by decide)]; decide
 | u => rw [nx_lit _ _ (by decide)]; decide
 | uu => rw [nx_lit _ _ (by decide)]; decide
set_option maxHeartbeats 4000000 in
theorem letters_yes {s : ByteArray} {B g : Nat} {w : World} {t ys : List UInt8} {L : Spans} (k : EscS t L ys) (h : Pos s B g w (92 :: t)) : ∃ S but, Turned L S but ∧ BdS S ∧ SortedS S ∧ S.length ≤ 10 ∧ (0 < S.length ∧ ∀ p ∈ S, 0 < p.1) ∧ Calls Tryz.prog 151 #[.pointer (some ⟨g, 0, none⟩)] w fun e w' => LtP S but s B g w ys e w' := by
 obtain ⟨S, but, h1, h2, h3, h4, h5, hl⟩ := letter_yes (s := s) (B := B) (g := g) k
 refine ⟨S, but, h1, h2, h3, h4, h5, ?_⟩
 obtain ⟨m, hm, c1, -⟩ := row_back h
 have Hl := Lib.hid hl
 have Hi := Lib.hid (qis h (by decide) (show _ = (92 : Int) by decide))
 clear h1 h2 h3 h5 hl h k
 go_enter Tryz.func151, Tryz.ntmps151
 go_wp2_with fail
 (with_reducible refine Hi.out.mono ?_)
 rintro e w1 ⟨rfl, hp⟩
 have Hp := Lib.hid hp
 clear hp
 go_wp2_with fail
 (with_reducible refine (Hl.out w1 Hp.out.pos).mono ?_)
 rintro e w2 ⟨A, q, rfl, hs, hp⟩
 have Hp2 := Lib.hid (Hp.out.trans hp)
 have Hs := Lib.hid (ownsRow_low hs Hp.out.size)
 clear hp hs
 go_wp2_with fail
 go_ret3
 exact ⟨A, q, rfl, Hs.out, Hp2.out⟩
set_option maxHeartbeats 4000000 in
theorem letters_esc {s : ByteArray} {B g : Nat} {w : World} {t : List UInt8} (h : Pos s B g w (92 :: t)) (h0 : 0 ≤ nx t) (hn : nx t ≠ 100 ∧ nx t ≠ 68 ∧ nx t ≠ 119 ∧ nx t ≠ 87 ∧ nx t ≠ 115 ∧ nx t ≠ 83) : Calls Tryz.prog 151 #[.pointer (some ⟨g, 0, none⟩)] w fun e w' => NolP s B g w (92 :: t) e w' := by
 obtain ⟨m, hm, c1, hback⟩ := row_back h
 have Hback := Lib.hid hback
 have Hi := Lib.hid (qis h (by decide) (show _ = (92 : Int) by decide))
 have Hl := Lib.hid (fun (w1 : World) (h : Pos s B g w1 t) => letter_no h h0 hn)
 clear h hback h0 hn
 go_enter Tryz.func151, Tryz.ntmps151
 go_wp2_with fail
 (with_reducible refine Hi.out.mono ?_)
 rintro e w1 ⟨rfl, hp⟩
 have Hp := Lib.hid hp
 clear hp
 go_wp2_with fail
 (with_reducible refine (Hl.out w1 Hp.out.pos).mono ?_)
 rintro e w2 ⟨rfl, hp⟩
 have Hp2 := Lib.hid (Hp.out.trans hp)
 obtain ⟨⟨v, c2⟩, f2, hb⟩ := Hback.out _ _ Hp2.out
 have Hb := Lib.hid hb
 clear hp hb
 go_wp2_with fail
 go_ret3
 exact ⟨rfl, Hb.out⟩
set_option maxHeartbeats 4000000 in
theorem letters_no {s : ByteArray} {B g : Nat} {w : World} {t : List UInt8} (h : Pos s B g w t) (h0 : 0 ≤ nx t) (hn : nx t ≠ 92) : Calls Tryz.prog 151 #[.pointer (some ⟨g, 0, none⟩)] w fun e w' => NolP s B g w t e w' := by
 obtain ⟨m, hm, c1, hback⟩ := row_back h
 have Hback := Lib.hid hback
 have Hi := Lib.hid (qisn (c := 92) h (by omega) hn)
 clear h hback h0 hn
 go_enter Tryz.func151, Tryz.ntmps151
 go_wp2_with fail
 (with_reducible refine Hi.out.mono ?_)
 rintro e w1 ⟨rfl, hp⟩
 obtain ⟨⟨v, c2⟩, f2, hb⟩ := Hback.out _ _ hp
 have Hb := Lib.hid hb
 clear hp hb
 go_wp2_with fail
 go_ret3
 exact ⟨rfl, Hb.out⟩
set_option maxHeartbeats 8000000 in
set_option maxRecDepth 100000 in
theorem escaped_any {s : ByteArray} {B g : Nat} {w : World} {t ys : List UInt8} {c : Int} (k : EscC t c ys) (h : Pos s B g w t) : Calls Tryz.prog 129 #[.pointer (some ⟨g, 0, none⟩)] w fun e w' => CcP c s B g w ys e w' := by
 obtain ⟨m, hm, c1, -⟩ := row_back h
 have key : ∀ (b : UInt8) (z : Int) (u : List UInt8), t = b :: u → b.toNat < 128 → ((b.toNat : Nat) : Int) = z → Calls Tryz.prog 125 #[.pointer (some ⟨g, 0, none⟩)] w fun e w' => CcP z s B g w u e w' := by
  rintro b z u rfl h1 h2
  exact qnextl z h h1 h2
 have Key := Lib.hid key
 clear key
 cases k with
 | plain hsp =>
  rename_i b
  have hb : b = 94 ∨ b = 36 ∨ b = 92 ∨ b = 46 ∨ b = 42 ∨ b = 43 ∨ b = 63 ∨ b = 40 ∨ b = 41 ∨ b = 91 ∨ b = 93 ∨ b = 123 ∨ b = 125 ∨ b = 124 ∨ b = 47 ∨ b = 45 := by simpa [special] using hsp
  clear hsp h
  rcases hb with rfl | rfl | rfl | rfl | rfl | rfl | rfl | rfl | rfl | rfl | rfl | rfl | rfl | rfl | rfl | rfl
  all_goals
   have Hn := Lib.hid (Key.out _ _ _ rfl (by decide) rfl)
   clear Key
   go_enter Tryz.func129, Tryz.ntmps129
   go_wp2_with fail
   (with_reducible refine Hn.out.mono ?_)
   rintro e w1 ⟨rfl, hp⟩
   have Hp := Lib.hid hp
   clear hp
   go_wp2_with fail
   go_ret
   exact ⟨rfl, Hp.out⟩
 | u hx hc =>
  have Hn := Lib.hid (Key.out _ 117 _ rfl (by decide) (by decide))
  have Hu := Lib.hid (fun (w1 : World) h => punicode_one (s := s) (B := B) (g := g) (w := w1) (t := ys) h hx hc)
  clear Key h hx hc
  go_enter Tryz.func129, Tryz.ntmps129
  go_wp2_with fail
  (with_reducible refine Hn.out.mono ?_)
  rintro e w1 ⟨rfl, hp⟩
  have Hp := Lib.hid hp
  clear hp
  go_wp2_with fail
  (with_reducible refine (Hu.out w1 Hp.out.pos).mono ?_)
  rintro e w2 ⟨rfl, hp⟩
  have Hp2 := Lib.hid (Hp.out.trans hp)
  clear hp
  go_wp2_with fail
  go_ret
  exact ⟨rfl, Hp2.out⟩
 | uu hx hc hx' hc' =>
  have Hn := Lib.hid (Key.out _ 117 _ rfl (by decide) (by decide))
  have Hu := Lib.hid (fun (w1 : World) h => punicode_two (s := s) (B := B) (g := g) (w := w1) (t := ys) h hx hc hx' hc')
  clear Key h hx hc hx' hc'
  go_enter Tryz.func129, Tryz.ntmps129
  go_wp2_with fail
  (with_reducible refine Hn.out.mono ?_)
  rintro e w1 ⟨rfl, hp⟩
  have Hp := Lib.hid hp
  clear hp
  go_wp2_with fail
  (with_reducible refine (Hu.out w1 Hp.out.pos).mono ?_)
  rintro e w2 ⟨rfl, hp⟩
  have Hp2 := Lib.hid (Hp.out.trans hp)
  clear hp
  go_wp2_with fail
  go_ret
  exact ⟨rfl, Hp2.out⟩
 | _ =>
  have Hn := Lib.hid (Key.out _ _ _ rfl (by decide) rfl)
  clear Key h
  go_enter Tryz.func129, Tryz.ntmps129
  go_wp2_with fail
  (with_reducible refine Hn.out.mono ?_)
  rintro e w1 ⟨rfl, hp⟩
  have Hp := Lib.hid hp
  clear hp
  go_wp2_with fail
  go_ret
  exact ⟨rfl, Hp.out⟩
set_option maxHeartbeats 4000000 in
theorem psingle_any {s : ByteArray} {B g : Nat} {w : World} {t ys : List UInt8} {c : Int} {f : Bool} (k : Single f t c ys) (h : Pos s B g w t) : Calls Tryz.prog 153 #[.pointer (some ⟨g, 0, none⟩), .bool f] w fun e w' => CcP c s B g w ys e w' := by
 cases k with
 | esc k =>
  have Hn := Lib.hid (qnextl 92 h (by decide) (by decide))
  have He := Lib.hid (fun (w1 : World) (h : Pos s B g w1 _) => escaped_any k h)
  clear h k
  go_enter Tryz.func153, Tryz.ntmps153
  go_wp2_with fail
  (with_reducible refine Hn.out.mono ?_)
  rintro e w1 ⟨rfl, hp⟩
  have Hp := Lib.hid hp
  clear hp
  go_wp2_with fail
  (with_reducible refine (He.out w1 Hp.out.pos).mono ?_)
  rintro e w2 ⟨rfl, hp⟩
  have Hp2 := Lib.hid (Hp.out.trans hp)
  clear hp
  go_wp2_with fail
  go_ret
  exact ⟨rfl, Hp2.out⟩
 | dash h93 =>
  have Hn := Lib.hid (qnextl 45 h (by decide) (by decide))
  have Hpk := Lib.hid (fun (w1 : World) (h : Pos s B g w1 ys) => qpeek h (by omega))
  have Hc := Lib.hid (show pkc ys = 93 by rw [pkc_of (by omega), h93])
  clear h h93
  go_enter Tryz.func153, Tryz.ntmps153
  go_wp2_with fail
  (with_reducible refine Hn.out.mono ?_)
  rintro e w1 ⟨rfl, hp⟩
  have Hp := Lib.hid hp
  clear hp
  go_wp2_with fail
  (with_reducible refine (Hpk.out w1 Hp.out.pos).mono ?_)
  rintro e w2 ⟨rfl, hb⟩
  rw [Hc.out]
  have Hp2 := Lib.hid (Hp.out.quiet hb)
  clear hb
  go_wp2_with fail
  go_ret
  exact ⟨rfl, Hp2.out⟩
 | dash1 =>
  have Hn := Lib.hid (qnextl 45 h (by decide) (by decide))
  clear h
  go_enter Tryz.func153, Tryz.ntmps153
  go_wp2_with fail
  (with_reducible refine Hn.out.mono ?_)
  rintro e w1 ⟨rfl, hp⟩
  have Hp := Lib.hid hp
  clear hp
  go_wp2_with fail
  go_ret
  exact ⟨rfl, Hp.out⟩
 | chr h0 h1 h2 h3 =>
  have Hn := Lib.hid (qnext h h0)
  have m1 : (nx t == 92) = false := by simpa using h1
  have m2 : (nx t == 93) = false := by simpa using h2
  have m3 : (nx t == 45) = false := by simpa using h3
  clear h h1 h2 h3
  go_enter Tryz.func153, Tryz.ntmps153
  go_wp2_with fail
  (with_reducible refine Hn.out.mono ?_)
  rintro e w1 ⟨rfl, hp⟩
  have Hp := Lib.hid hp
  clear hp
  go_wp2_with fail
  go_ret
  exact ⟨rfl, Hp.out⟩
set_option maxHeartbeats 4000000 in
theorem ranges_yes {s : ByteArray} {B g : Nat} {w : World} {u : List UInt8} (h : Pos s B g w (45 :: u)) (h0 : 0 ≤ nx u) (h1 : nx u ≠ 93) : Calls Tryz.prog 154 #[.pointer (some ⟨g, 0, none⟩)] w fun e w' => BoP true s B g w u e w' := by
 obtain ⟨m, hm, c1, -⟩ := row_back h
 have Hi := Lib.hid (qis h (by decide) (show _ = (45 : Int) by decide))
 have Hpk := Lib.hid (fun (w1 : World) (h : Pos s B g w1 u) => qpeek h (by omega))
 have Hc := Lib.hid (pkc_of h0)
 have m1 : (nx u == 93) = false := by simpa using h1
 clear h h1
 go_enter Tryz.func154, Tryz.ntmps154
 go_wp2_with fail
 (with_reducible refine Hi.out.mono ?_)
 rintro e w1 ⟨rfl, hp⟩
 have Hp := Lib.hid hp
 clear hp
 go_wp2_with fail
 (with_reducible refine (Hpk.out w1 Hp.out.pos).mono ?_)
 rintro e w2 ⟨rfl, hb⟩
 rw [Hc.out]
 have Hp2 := Lib.hid (Hp.out.quiet hb)
 clear hb
 go_wp2_with fail
 go_ret
 exact ⟨rfl, Hp2.out⟩
set_option maxHeartbeats 4000000 in
theorem ranges_no {s : ByteArray} {B g : Nat} {w : World} {t : List UInt8} (h : Pos s B g w t) (h0 : nx t ≠ -2) (h1 : ¬ ranges t) : Calls Tryz.prog 154 #[.pointer (some ⟨g, 0, none⟩)] w fun e w' => BoP false s B g w t e w' := by
 obtain ⟨m, hm, c1, hback⟩ := row_back h
 by_cases h45 : nx t = 45
 ·obtain ⟨u, rfl, -⟩ := nx_byte (c := 45) h45 (by decide)
  have h93 : nx u = 93 := Classical.byContradiction fun hne => h1 ⟨h45, hne⟩
  have Hi := Lib.hid (qis h (by decide) (show _ = (45 : Int) by decide))
  have Hback := Lib.hid hback
  have Hpk := Lib.hid (fun (w1 : World) (h : Pos s B g w1 u) => qpeek h (by omega))
  have Hc := Lib.hid (show pkc u = 93 by rw [pkc_of (by omega), h93])
  clear h h1 h0 h45 h93 hback
  go_enter Tryz.func154, Tryz.ntmps154
  go_wp2_with fail
  (with_reducible refine Hi.out.mono ?_)
  rintro e w1 ⟨rfl, hp⟩
  have Hp := Lib.hid hp
  clear hp
  go_wp2_with fail
  (with_reducible refine (Hpk.out w1 Hp.out.pos).mono ?_)
  rintro e w2 ⟨rfl, hb⟩
  rw [Hc.out]
  have Hp2 := Lib.hid (Hp.out.quiet hb)
  obtain ⟨⟨v, c2⟩, f2, hbk⟩ := Hback.out _ _ Hp2.out
  have Hb := Lib.hid hbk
  clear hb hbk
  go_wp2_with fail
  go_ret
  exact ⟨rfl, Hb.out⟩
 ·have Hi := Lib.hid (qisn (c := 45) h h0 h45)
  clear h h0 h1 h45 hback
  go_enter Tryz.func154, Tryz.ntmps154
  go_wp2_with fail
  (with_reducible refine Hi.out.mono ?_)
  rintro e w1 ⟨rfl, hp⟩
  have Hp := Lib.hid hp
  clear hp
  go_wp2_with fail
  go_ret
  exact ⟨rfl, Hp.out⟩
def InP (n : Int) (s : ByteArray) (B g : Nat) (w : World) (t : List UInt8) (e : Ending) (w' : World) : Prop := e = .returned (.int .i64 n) ∧ PdP s B g w t w'
def NmRel (s : ByteArray) (B g : Nat) (w : World) (N : Int) (ys : List UInt8) (m : Nat) (s3 s4 : Value) (wr : World) : Prop :=
 ∃ (n : Int) (q : Bool) (t : List UInt8), t.length = m ∧ s3 = .int .i64 n ∧ s4 = .bool q ∧ PdP s B g w t wr ∧ numF n t = (N, ys) ∧ 0 ≤ n ∧ n ≤ 1001 ∧ (q = false → hasDig t = true)
theorem nodig_pkc {t : List UInt8} (h : hasDig t = false) (h2 : nx t ≠ -2) : pkc t < 48 ∨ 57 < pkc t := by
 unfold pkc
 split
 ·omega
 ·rename_i h0
  apply Classical.byContradiction
  intro hc
  obtain ⟨z, hz⟩ : ∃ z : Nat, nx t = z := ⟨(nx t).toNat, by omega⟩
  obtain ⟨u, e, _⟩ := nx_byte (c := z) hz (by omega)
  rw [e] at h
  have h1 : isDig (UInt8.ofNat z) = false := h
  unfold isDig at h1
  rw [UInt8.toNat_ofNat'] at h1
  simp at h1
  omega
set_option maxHeartbeats 4000000 in
theorem pnumber_any {s : ByteArray} {B g : Nat} {w : World} {xs ys : List UInt8} {N : Int} (h : Pos s B g w xs) (hd : hasDig xs = true) (e : numF 0 xs = (N, ys)) (hn : nx ys ≠ -2) : Calls Tryz.prog 130 #[.pointer (some ⟨g, 0, none⟩)] w fun e w' => InP N s B g w ys e w' := by
 have HR := Lib.hid (PdP.start h)
 have E := Lib.hid e
 have Hd := Lib.hid hd
 clear h e hd
 go_enter Tryz.func130, Tryz.ntmps130
 go_wp2_with fail
 go_loopg [3, 4] xs.length (fun m s3 s4 wr => NmRel s B g w N ys m s3 s4 wr)
 case atStart => exact ⟨0, false, xs, rfl, rfl, rfl, HR.out, E.out, by decide, by decide, fun _ => Hd.out⟩
 case round =>
  obtain ⟨n, q, t, rfl, rfl, rfl, hp, he, h0, h1, hq⟩ := hrel
  have Hp := Lib.hid hp
  by_cases hdig : hasDig t = true
  ·cases t with
   | nil => exact absurd hdig (by decide)
   | cons b t =>
    have hb : isDig b = true := hdig
    unfold numF at he
    rw [if_pos hb] at he
    unfold isDig at hb
    simp only [Bool.and_eq_true, decide_eq_true_eq] at hb
    obtain ⟨b1, b2⟩ := hb
    have He := Lib.hid he
    have Hpk := Lib.hid (qpeek hp.pos (by rw [nx_lit _ _ (by omega)]; omega))
    have Hc := Lib.hid (show pkc (b :: t) = (b.toNat : Nat) by rw [pkc_of (by rw [nx_lit _ _ (by omega)]; omega), nx_lit _ _ (by omega)])
    obtain ⟨z, hz⟩ : ∃ z : Int, ((b.toNat : Nat) : Int) = z := ⟨_, rfl⟩
    rw [hz] at Hc He
    have z1 : 48 ≤ z := by omega
    have z2 : z ≤ 57 := by omega
    clear hp he hq hdig b1 b2 hz
    go_wp2_with fail
    (with_reducible refine Hpk.out.mono ?_)
    rintro e w1 ⟨rfl, hbl⟩
    rw [Hc.out]
    have Hp1 := Lib.hid (Hp.out.quiet hbl)
    obtain ⟨k, hk, c0, c1, f1, hset⟩ := row_setAt Hp1.out.pos
    have Hset := Lib.hid hset
    clear hbl hset
    go_wp2_with fail
    go_roundg t.length
    case measure => simp
    case rel => exact ⟨min (n * 10 + (z - 48)) 1001, true, t, rfl, by rw [Int.mul_comm 10 n], rfl, Hp1.out.trans (Hset.out _ rfl), He.out, by omega, by omega, fun h => by cases h⟩
  ·have hdf : hasDig t = false := by simpa using hdig
   have hs := numF_stop (n := n) hdf
   rw [hs] at he
   injection he with e1 e2
   subst e1 e2
   have hc := nodig_pkc hdf hn
   have hqt : q = true := by
    cases q with
    | true => rfl
    | false => exact absurd (hq rfl) hdig
   subst hqt
   have Hpk := Lib.hid (qpeek hp.pos hn)
   clear hp hq hdig hdf hs
   rcases hc with hc | hc
   ·go_wp2_with fail
    (with_reducible refine Hpk.out.mono ?_)
    rintro e w1 ⟨rfl, hbl⟩
    have Hp1 := Lib.hid (Hp.out.quiet hbl)
    clear hbl
    go_wp2_with fail
    go_ret
    exact ⟨rfl, Hp1.out⟩
   ·have hc2 : ¬ pkc t < 48 := by omega
    go_wp2_with fail
    (with_reducible refine Hpk.out.mono ?_)
    rintro e w1 ⟨rfl, hbl⟩
    have Hp1 := Lib.hid (Hp.out.quiet hbl)
    clear hbl
    go_wp2_with fail
    go_ret
    exact ⟨rfl, Hp1.out⟩
def BcP (n m : Int) (s : ByteArray) (B g : Nat) (w : World) (t : List UInt8) (e : Ending) (w' : World) : Prop := e = .returned (.tuple #[.int .i64 n, .int .i64 m]) ∧ PdP s B g w t w'
theorem numF_nn (xs : List UInt8) {n : Int} {ys : List UInt8} (e : numF 0 xs = (n, ys)) : 0 ≤ n := by
 have := numF_nonneg xs 0 (by decide)
 rw [e] at this
 exact this
set_option maxHeartbeats 8000000 in
theorem pbraces_any {s : ByteArray} {B g : Nat} {w : World} {xs ys : List UInt8} {n m : Int} (k : Braces xs n m ys) (h : Pos s B g w xs) (f : Int) : Calls Tryz.prog 114 #[.pointer (some ⟨g, 0, none⟩), .int .i64 f] w fun e w' => BcP n m s B g w ys e w' := by
 cases k with
 | same hd e hn =>
  have n0 := numF_nn xs e
  have Hn := Lib.hid (pnumber_any h hd e (by rw [nx_lit _ _ (by decide)]; decide))
  clear h hd e
  have n1 : ¬ 1000 < n := by omega
  go_enter Tryz.func114, Tryz.ntmps114
  go_wp2_with fail
  (with_reducible refine Hn.out.mono ?_)
  rintro e w1 ⟨rfl, hp1⟩
  have H1 := Lib.hid hp1
  clear hp1
  go_wp2_with fail
  (with_reducible refine (qisn (c := 44) H1.out.pos (by rw [nx_lit _ _ (by decide)]; decide) (by rw [nx_lit _ _ (by decide)]; decide)).mono ?_)
  rintro e w2 ⟨rfl, hp2⟩
  have H2 := Lib.hid (H1.out.trans hp2)
  clear hp2
  go_wp2_with fail
  (with_reducible refine (qis H2.out.pos (by decide) (show _ = (125 : Int) by decide)).mono ?_)
  rintro e w5 ⟨rfl, hp5⟩
  have H5 := Lib.hid (H2.out.trans hp5)
  clear hp5
  go_wp2_with fail
  go_ret2
  exact ⟨rfl, H5.out⟩
 | more hd e hn =>
  have n0 := numF_nn xs e
  have Hn := Lib.hid (pnumber_any h hd e (by rw [nx_lit _ _ (by decide)]; decide))
  clear h hd e
  have hmx : max n (-1) = n := by omega
  have n1 : ¬ 1000 < n := by omega
  go_enter Tryz.func114, Tryz.ntmps114
  go_wp2_with fail
  (with_reducible refine Hn.out.mono ?_)
  rintro e w1 ⟨rfl, hp1⟩
  have H1 := Lib.hid hp1
  clear hp1
  go_wp2_with fail
  (with_reducible refine (qis H1.out.pos (by decide) (show _ = (44 : Int) by decide)).mono ?_)
  rintro e w2 ⟨rfl, hp2⟩
  have H2 := Lib.hid (H1.out.trans hp2)
  clear hp2
  go_wp2_with fail
  (with_reducible refine (qpeek H2.out.pos (by rw [nx_lit _ _ (by decide)]; decide)).mono ?_)
  rintro e w3 ⟨rfl, hb⟩
  rw [show pkc (125 :: ys) = 125 by rw [pkc_of (by rw [nx_lit _ _ (by decide)]; decide), nx_lit _ _ (by decide)]; rfl]
  have H3 := Lib.hid (H2.out.quiet hb)
  clear hb
  go_wp2_with fail
  (with_reducible refine (qis H3.out.pos (by decide) (show _ = (125 : Int) by decide)).mono ?_)
  rintro e w5 ⟨rfl, hp5⟩
  have H5 := Lib.hid (H3.out.trans hp5)
  clear hp5
  go_wp2_with fail
  go_ret2
  exact ⟨rfl, H5.out⟩
 | upto hd e hd2 e2 hn hm =>
  rename_i rs
  have n0 := numF_nn xs e
  have Hn := Lib.hid (pnumber_any h hd e (by rw [nx_lit _ _ (by decide)]; decide))
  have Hn2 := Lib.hid (fun (w1 : World) (h : Pos s B g w1 rs) => pnumber_any h hd2 e2 (by rw [nx_lit _ _ (by decide)]; decide))
  obtain ⟨b, u, hbu, b1, b2⟩ : ∃ b u, rs = b :: u ∧ 48 ≤ b.toNat ∧ b.toNat ≤ 57 := by
   cases rs with
   | nil => cases hd2
   | cons b u =>
    have hb : isDig b = true := hd2
    unfold isDig at hb
    simp only [Bool.and_eq_true, decide_eq_true_eq] at hb
    exact ⟨b, u, rfl, hb⟩
  have hnx : nx rs = (b.toNat : Nat) := by rw [hbu, nx_lit _ _ (by omega)]
  have Hpk := Lib.hid (fun (w1 : World) (h : Pos s B g w1 rs) => qpeek h (by omega))
  have hpc : (pkc rs != 125) = true := by rw [pkc_of (by omega), hnx]; simpa using (by omega : ¬ ((b.toNat : Nat) : Int) = 125)
  clear h hd e hd2 e2 hbu hnx
  have hmx : max n m = m := by omega
  have n1 : ¬ 1000 < m := by omega
  have n2 : ¬ m < n := by omega
  go_enter Tryz.func114, Tryz.ntmps114
  go_wp2_with fail
  (with_reducible refine Hn.out.mono ?_)
  rintro e w1 ⟨rfl, hp1⟩
  have H1 := Lib.hid hp1
  clear hp1
  go_wp2_with fail
  (with_reducible refine (qis H1.out.pos (by decide) (show _ = (44 : Int) by decide)).mono ?_)
  rintro e w2 ⟨rfl, hp2⟩
  have H2 := Lib.hid (H1.out.trans hp2)
  clear hp2
  go_wp2_with fail
  (with_reducible refine (Hpk.out w2 H2.out.pos).mono ?_)
  rintro e w3 ⟨rfl, hb⟩
  have H3 := Lib.hid (H2.out.quiet hb)
  clear hb
  go_wp2_with fail
  (with_reducible refine (Hn2.out w3 H3.out.pos).mono ?_)
  rintro e w4 ⟨rfl, hp4⟩
  have H4 := Lib.hid (H3.out.trans hp4)
  clear hp4
  go_wp2_with fail
  (with_reducible refine (qis H4.out.pos (by decide) (show _ = (125 : Int) by decide)).mono ?_)
  rintro e w5 ⟨rfl, hp5⟩
  have H5 := Lib.hid (H4.out.trans hp5)
  clear hp5
  go_wp2_with fail
  go_ret2
  exact ⟨rfl, H5.out⟩
end Go.Proofs.YthhnmpkgleelfaaGreatDoor
