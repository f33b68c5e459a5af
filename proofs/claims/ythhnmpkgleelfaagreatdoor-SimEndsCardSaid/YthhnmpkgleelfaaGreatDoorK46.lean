import Derived.Test.YthhnmpkgleelfaaGreatDoorK45
import Derived.Lib.OthersKept
import Derived.LoopN
set_option linter.unusedVariables false
set_option linter.unusedSimpArgs false
namespace Go.Proofs.YthhnmpkgleelfaaGreatDoor
open Go.RowKit Go.Shelf
def Pos (s : ByteArray) (B g : Nat) (w : World) (t : List UInt8) : Prop := ∃ k, rst s k = t ∧ Rst s B g w k
def PdP (s : ByteArray) (B g : Nat) (w : World) (t : List UInt8) (w' : World) : Prop := Pos s B g w' t ∧ Fr g w w'
section
variable {s : ByteArray} {B g : Nat} {w w1 w2 : World} {t u : List UInt8}
theorem Pos.below (h : Pos s B g w t) (hb : Below w.heap.size w w1) : Pos s B g w1 t := by
 obtain ⟨k, hk, h⟩ := h
 exact ⟨k, hk, h.below hb⟩
theorem Pos.lt (h : Pos s B g w t) : g < w.heap.size := by obtain ⟨k, _, h⟩ := h; exact h.lt
theorem Pos.tabs (h : Pos s B g w t) : Tabs w := by obtain ⟨k, _, h⟩ := h; exact h.tabs
theorem Pos.heap (h : Pos s B g w t) : ∃ cs, w.heap[g]? = some (.cells cs 109 (0, 0)) := by obtain ⟨k, _, h⟩ := h; exact ⟨_, h.2.2.2.2⟩
theorem PdP.start (h : Pos s B g w t) : PdP s B g w t w := ⟨h, Fr.refl _ _⟩
theorem PdP.pos (h : PdP s B g w t w1) : Pos s B g w1 t := h.1
theorem PdP.trans (h : PdP s B g w t w1) (h2 : PdP s B g w1 u w2) : PdP s B g w u w2 := ⟨h2.1, h.2.then h2.2⟩
theorem PdP.quiet (h : PdP s B g w t w1) (hb : Below w1.heap.size w1 w2) : PdP s B g w t w2 := ⟨h.1.below hb, h.2.then (Fr.of_below hb)⟩
theorem PdP.of {k : Nat} (h : RdP s B g w k w1) (hk : rst s k = t) : PdP s B g w t w1 := ⟨⟨k, hk, h.1⟩, h.2⟩
theorem PdP.size (h : PdP s B g w t w1) : w.heap.size ≤ w1.heap.size := h.2.size
end
def BoP (q : Bool) (s : ByteArray) (B g : Nat) (w : World) (t : List UInt8) (e : Ending) (w' : World) : Prop := e = .returned (.bool q) ∧ PdP s B g w t w'
def CcP (c : Int) (s : ByteArray) (B g : Nat) (w : World) (t : List UInt8) (e : Ending) (w' : World) : Prop := e = .returned (.int .i32 c) ∧ PdP s B g w t w'
section
variable {s : ByteArray} {B g : Nat} {w : World} {t : List UInt8}
theorem qpeek (h : Pos s B g w t) (hn : nx t ≠ -2) : Calls Tryz.prog 102 #[.pointer (some ⟨g, 0, none⟩)] w fun e w' => PkP t w e w' := by
 obtain ⟨k, rfl, h⟩ := h
 exact peek_any h hn
theorem qis {b : UInt8} {c : Int} (h : Pos s B g w (b :: t)) (hb : b.toNat < 128) (hc : ((b.toNat : Nat) : Int) = c) : Calls Tryz.prog 90 #[.pointer (some ⟨g, 0, none⟩), .int .i32 c] w fun e w' => BoP true s B g w t e w' := by
 obtain ⟨k, hk, h⟩ := h
 obtain ⟨h1, h2⟩ := nx_ascii b t hb
 subst hc
 refine (is_yes h (c := (b.toNat : Nat)) (by rw [hk, h1]) (Int.natCast_nonneg _)).mono ?_
 rintro e w' ⟨rfl, hr⟩
 exact ⟨rfl, PdP.of hr (by rw [rst_drop, hk, h2]; rfl)⟩
theorem qisn {c : Int} (h : Pos s B g w t) (hn : nx t ≠ -2) (hc : nx t ≠ c) : Calls Tryz.prog 90 #[.pointer (some ⟨g, 0, none⟩), .int .i32 c] w fun e w' => BoP false s B g w t e w' := by
 obtain ⟨k, rfl, h⟩ := h
 refine (is_no h hn hc).mono ?_
 rintro e w' ⟨rfl, hr⟩
 exact ⟨rfl, PdP.of hr rfl⟩
theorem qnext (h : Pos s B g w t) (h0 : 0 ≤ nx t) : Calls Tryz.prog 125 #[.pointer (some ⟨g, 0, none⟩)] w fun e w' => CcP (nx t) s B g w (t.drop (nl t)) e w' := by
 obtain ⟨k, rfl, h⟩ := h
 refine (pnext_any h h0).mono ?_
 rintro e w' ⟨rfl, hr⟩
 exact ⟨rfl, PdP.of hr (rst_drop _ _ _)⟩
theorem qnextl {b : UInt8} (c : Int) (h : Pos s B g w (b :: t)) (hb : b.toNat < 128) (hc : ((b.toNat : Nat) : Int) = c) : Calls Tryz.prog 125 #[.pointer (some ⟨g, 0, none⟩)] w fun e w' => CcP c s B g w t e w' := by
 subst hc
 obtain ⟨h1, h2⟩ := nx_ascii b t hb
 refine (qnext h (by rw [h1]; exact Int.natCast_nonneg _)).mono ?_
 rintro e w' ⟨rfl, hr⟩
 rw [h1, h2] at *
 exact ⟨rfl, hr⟩
theorem qanchor (h : Pos s B g w t) (hn : nx t ≠ -2) : Calls Tryz.prog 112 #[.pointer (some ⟨g, 0, none⟩)] w fun e w' => BoP (ancB (nx t)) s B g w t e w' := by
 obtain ⟨k, rfl, h⟩ := h
 refine (anchor_any h hn).mono ?_
 rintro e w' ⟨rfl, hr⟩
 exact ⟨rfl, PdP.of hr rfl⟩
theorem qfour {a b c d : UInt8} (h : Pos s B g w (a :: b :: c :: d :: t)) (hx : allHex a b c d) {lo mid hi : Int} (l0 : 0 ≤ lo) (l1 : lo ≤ 65536) (m0 : 0 ≤ mid) (m1 : mid ≤ 65536) (i0 : 0 ≤ hi) (i1 : hi ≤ 65536) (hc : (lo ≤ four a b c d ∧ four a b c d ≤ mid) ∨ hi ≤ four a b c d) : Calls Tryz.prog 169 #[.pointer (some ⟨g, 0, none⟩), .int .i32 lo, .int .i32 mid, .int .i32 hi] w fun e w' => CcP (four a b c d) s B g w t e w' := by
 obtain ⟨k, hk, h⟩ := h
 refine (pfour_any h hk hx l0 l1 m0 m1 i0 i1 hc).mono ?_
 rintro e w' ⟨rfl, hr⟩
 exact ⟨rfl, PdP.of hr (by rw [rst_drop, hk]; rfl)⟩
end
abbrev slU : ByteArray := { data := #[92, 117] }
theorem PdP.iter {s u : ByteArray} {B g j p q : Nat} {w w1 : World} {t : List UInt8} (h : PdP s B g w t w1) (hj : w1.heap[j]? = some (.stringIter u p)) (hs : w.heap.size ≤ j) (hg : g < w.heap.size) : PdP s B g w t (w1.iterAt j u q) ∧ (w1.iterAt j u q).heap[j]? = some (.stringIter u q) := by
 have hne : g ≠ j := by omega
 obtain ⟨⟨k, hk, h1, h2, h3, h4, h5⟩, h6⟩ := h
 refine ⟨⟨⟨k, hk, h1, ?_, h3, h4, ?_⟩, ?_⟩, Lib.iterAt_heap w1 j u p q hj⟩
 ·obtain ⟨w0, e0, e1, e2⟩ := h2
  exact ⟨w0, e0, e1, Lib.below_iterAt e2 (by omega) u q⟩
 ·rw [Lib.iterAt_other w1 j g u q hne]; exact h5
 ·exact ⟨h6.os, h6.tape, h6.output, by rw [Lib.iterAt_size]; exact h6.size, fun i hi hig => (Lib.iterAt_other w1 j i u q (by omega)).trans (h6.block i hi hig)⟩
def UnRel (s : ByteArray) (B g j : Nat) (w : World) (t : List UInt8) (wr : World) : Prop :=
 (PdP s B g w (92 :: 117 :: t) wr ∧ wr.heap[j]? = some (.stringIter slU 0)) ∨ (PdP s B g w (117 :: t) wr ∧ wr.heap[j]? = some (.stringIter slU 1)) ∨ (PdP s B g w t wr ∧ wr.heap[j]? = some (.stringIter slU 2))
theorem iterPos_of {w : World} {j p : Nat} {u : ByteArray} (h : w.heap[j]? = some (.stringIter u p)) : w.iterPos j = p := by
 unfold World.iterPos; rw [h]
set_option maxHeartbeats 4000000 in
theorem punicode_one {s : ByteArray} {B g : Nat} {w : World} {a b c d : UInt8} {t : List UInt8} (h : Pos s B g w (a :: b :: c :: d :: t)) (hx : allHex a b c d) (hc : four a b c d < 55296 ∨ 57344 ≤ four a b c d) : Calls Tryz.prog 156 #[.pointer (some ⟨g, 0, none⟩)] w fun e w' => CcP (four a b c d) s B g w t e w' := by
 have h0 : 0 ≤ four a b c d := by obtain ⟨x1, x2, x3, x4⟩ := hx; unfold four; omega
 have Hf := Lib.hid (qfour (lo := 0) (mid := 56319) (hi := 57344) h hx (by decide) (by decide) (by decide) (by decide) (by decide) (by decide) (by omega))
 clear h hx
 generalize four a b c d = X at *
 rcases hc with hc | hc
 ·go_enter Tryz.func156, Tryz.ntmps156
  go_wp2_with fail
  (with_reducible refine Hf.out.mono ?_)
  rintro e w1 ⟨rfl, h1⟩
  have H1 := Lib.hid h1
  clear h1
  go_wp2_with fail
  go_ret
  exact ⟨rfl, H1.out⟩
 ·have n1 : ¬ X < 55296 := by omega
  have n2 : 56319 < X := by omega
  go_enter Tryz.func156, Tryz.ntmps156
  go_wp2_with fail
  (with_reducible refine Hf.out.mono ?_)
  rintro e w1 ⟨rfl, h1⟩
  have H1 := Lib.hid h1
  clear h1
  go_wp2_with fail
  go_ret
  exact ⟨rfl, H1.out⟩
set_option maxHeartbeats 4000000 in
theorem punicode_two {s : ByteArray} {B g : Nat} {w : World} {a b c d a' b' c' d' : UInt8} {t : List UInt8} (h : Pos s B g w (a :: b :: c :: d :: 92 :: 117 :: a' :: b' :: c' :: d' :: t)) (hx : allHex a b c d) (hc : 55296 ≤ four a b c d ∧ four a b c d < 56320) (hx' : allHex a' b' c' d') (hc' : 56320 ≤ four a' b' c' d' ∧ four a' b' c' d' < 57344) : Calls Tryz.prog 156 #[.pointer (some ⟨g, 0, none⟩)] w fun e w' => CcP (65536 + (four a b c d - 55296) * 1024 + four a' b' c' d' - 56320) s B g w t e w' := by
 obtain ⟨c1, c2⟩ := hc
 obtain ⟨c3, c4⟩ := hc'
 have hg := h.lt
 have Hf := Lib.hid (qfour (lo := 0) (mid := 56319) (hi := 57344) h hx (by decide) (by decide) (by decide) (by decide) (by decide) (by decide) (by omega))
 have Hf2 := Lib.hid (fun (w1 : World) (h1 : Pos s B g w1 (a' :: b' :: c' :: d' :: t)) => qfour (lo := 56320) (mid := 57343) (hi := 65536) h1 hx' (by decide) (by decide) (by decide) (by decide) (by decide) (by decide) (by omega))
 clear h hx hx'
 generalize four a b c d = X at *
 generalize four a' b' c' d' = Y at *
 obtain ⟨u, hu⟩ : ∃ u, a' :: b' :: c' :: d' :: t = u := ⟨_, rfl⟩
 rw [hu] at Hf Hf2
 clear hu
 go_enter Tryz.func156, Tryz.ntmps156
 go_wp2_with fail
 (with_reducible refine Hf.out.mono ?_)
 rintro e w1 ⟨rfl, h1⟩
 have H1 := Lib.hid (h1.quiet (alloc_below w1 (.stringIter slU 0)))
 have Hi := Lib.hid (heap_alloc_new w1 (.stringIter slU 0))
 have hs1 := h1.size
 clear h1
 go_wp2_with fail
 generalize w1.heap.size = j at *
 go_loopw [5] (fun _ wr => UnRel s B g j w u wr) (fun _ wr => 2 - wr.iterPos j)
 case atStart => exact .inl ⟨H1.out, Hi.out⟩
 case round =>
  rcases hrel with ⟨hp, hi⟩ | ⟨hp, hi⟩ | ⟨hp, hi⟩
  ·have Hp := Lib.hid hp
   have Hi2 := Lib.hid hi
   have hnx : ∀ ty, (Instr.next (.pointer (some ⟨j, 0, none⟩)) true ty).run Tryz.prog wr = .ok (.tuple #[.bool true, .int .i64 0, .int .i32 92]) (wr.iterAt j slU 1) := fun ty => Lib.run_next_ascii_at wr j slU 0 ty hi (by decide) (by decide)
   obtain ⟨hq, hj⟩ := hp.iter (q := 1) hi hs1 hg
   have Hq := Lib.hid hq
   have Hj := Lib.hid hj
   clear hp hi hq hj
   go_wp2_with fail
   (with_reducible refine (qis (b := 92) Hq.out.pos (by decide) (by decide)).mono ?_)
   rintro e w3 ⟨rfl, h3⟩
   have Hj3 := Lib.hid ((h3.2.block j (lt_of_heap Hj.out) (fun e => by have := Option.some.inj e; omega)).trans Hj.out)
   have H3 := Lib.hid (Hq.out.trans h3)
   clear h3
   go_wp2_with fail
   exact ⟨.inr (.inl ⟨H3.out, Hj3.out⟩), by rw [iterPos_of Hj3.out, iterPos_of Hi2.out]; decide⟩
  ·have Hp := Lib.hid hp
   have Hi2 := Lib.hid hi
   have hnx : ∀ ty, (Instr.next (.pointer (some ⟨j, 0, none⟩)) true ty).run Tryz.prog wr = .ok (.tuple #[.bool true, .int .i64 1, .int .i32 117]) (wr.iterAt j slU 2) := fun ty => Lib.run_next_ascii_at wr j slU 1 ty hi (by decide) (by decide)
   obtain ⟨hq, hj⟩ := hp.iter (q := 2) hi hs1 hg
   have Hq := Lib.hid hq
   have Hj := Lib.hid hj
   clear hp hi hq hj
   go_wp2_with fail
   (with_reducible refine (qis (b := 117) Hq.out.pos (by decide) (by decide)).mono ?_)
   rintro e w3 ⟨rfl, h3⟩
   have Hj3 := Lib.hid ((h3.2.block j (lt_of_heap Hj.out) (fun e => by have := Option.some.inj e; omega)).trans Hj.out)
   have H3 := Lib.hid (Hq.out.trans h3)
   clear h3
   go_wp2_with fail
   exact ⟨.inr (.inr ⟨H3.out, Hj3.out⟩), by rw [iterPos_of Hj3.out, iterPos_of Hi2.out]; decide⟩
  ·have Hp := Lib.hid hp
   have hnx : ∀ ty, (Instr.next (.pointer (some ⟨j, 0, none⟩)) true ty).run Tryz.prog wr = .ok (.tuple #[.bool false]) wr := fun ty => Lib.run_next_end_at wr j slU 2 ty hi (by decide)
   clear hp hi
   go_wp2_with fail
   (with_reducible refine (Hf2.out wr Hp.out.pos).mono ?_)
   rintro e w3 ⟨rfl, h3⟩
   have H3 := Lib.hid (Hp.out.trans h3)
   clear h3
   go_wp2_with fail
   go_ret
   exact ⟨rfl, H3.out⟩
theorem elSpan : ElemK 209 236 (.agg #[.int .i32 0, .int .i32 0]) 2 8 := ⟨Tryz.underlying209, by kernel_rfl, rfl, by decide⟩
def SpR (w : World) (base : Nat) (v : Value) (L : Spans) : Prop := w.ownsRow base 236 2 v L.length ((flatS L).map runeV)
theorem SpR.below {w w' : World} {base : Nat} {v : Value} {L : Spans} (h : SpR w base v L) (hb : Below w.heap.size w w') : SpR w' base v L := ownsRow_below h hb (Nat.le_refl _)
theorem SpR.nil (w : World) (base : Nat) : SpR w base (.slice none 0 0) [] := ⟨rfl, .inl ⟨rfl, rfl⟩⟩
def LtP (S : Spans) (but : Bool) (s : ByteArray) (B g : Nat) (w : World) (t : List UInt8) (e : Ending) (w' : World) : Prop :=
 ∃ (A : Option Addr) (q : Nat), e = .returned (.tuple #[.slice A S.length q, .bool but, .bool true]) ∧ SpR w' w.heap.size (.slice A S.length q) S ∧ PdP s B g w t w'
theorem row_setAt {s : ByteArray} {B g : Nat} {w : World} {t : List UInt8} {b : UInt8} (h : Pos s B g w (b :: t)) : ∃ k : Nat, k < 1000000 ∧ w.cell? ⟨g, 0, none⟩ = some (.string s) ∧ w.cell? ⟨g, 1, none⟩ = some (.int .i64 k) ∧ w.frozen? ⟨g, 1, none⟩ = false ∧ ∀ z : Int, z = k + 1 → PdP s B g w t (w.setCell ⟨g, 1, none⟩ (.int .i64 z)) := by
 obtain ⟨k, hk, h⟩ := h
 obtain ⟨c0, c1, f1⟩ := h.cells
 obtain ⟨r1, hlt⟩ := rst_cons hk
 have hsz := h.size.1
 exact ⟨k, by omega, c0, c1, f1, fun z hz => PdP.of ((RdP.start h).setNat (m := k + 1) (by omega) (by omega)) r1⟩
theorem own_rd2 {s : ByteArray} {B g base k n : Nat} {e : TypeId} {w w' : World} {t : List UInt8} {v : Value} {us : List Value} (h : w.ownsRow base e k v n us) (hg : Fr g w w') (hp : Pos s B g w t) (he : 109 ≠ e) : w'.ownsRow base e k v n us := by
 obtain ⟨cs, hc⟩ := hp.heap
 exact World.ownsRow.kept h hg (.inr (own_ne h hc he))
theorem sp_lit {w : World} {base : Nat} {L : Spans} {cs : Array Value} (hb : base ≤ w.heap.size) (hc : cs.toList = (flatS L).map runeV) (hs : cs.size = L.length * 2) (hl : L.length ≤ 1000) : SpR (w.alloc (.cells cs 236)) base (.slice (some ⟨w.heap.size, 0, none⟩) L.length L.length) L := by
 refine ⟨by rw [List.length_map, flatS_len]; omega, .inr ⟨w.heap.size, _, cs, rfl, hb, heap_alloc_new w _, Nat.le_refl _, by unfold maxLen; omega, hs, ?_⟩⟩
 rw [List.take_of_length_le (by rw [Array.length_toList, hs]; exact Nat.le_refl _)]
 exact hc
set_option maxHeartbeats 8000000 in
set_option maxRecDepth 100000 in
theorem letter_100 {s : ByteArray} {B g : Nat} {w : World} {t : List UInt8} (h : Pos s B g w (100 :: t)) : Calls Tryz.prog 127 #[.pointer (some ⟨g, 0, none⟩)] w fun e w' => LtP spDig false s B g w t e w' := by
 have Hpk := Lib.hid (qpeek h (by rw [nx_lit _ _ (by decide)]; decide))
 have hp : pkc (100 :: t) = 100 := by rw [pkc_of (by rw [nx_lit _ _ (by decide)]; decide), nx_lit _ _ (by decide)]; rfl
 have Hp := Lib.hid hp
 have HR := Lib.hid (PdP.start h)
 clear h hp
 go_enter Tryz.func127, Tryz.ntmps127
 go_wp2_with fail
 (with_reducible refine Hpk.out.mono ?_)
 rintro e w1 ⟨rfl, hb⟩
 rw [Hp.out]
 have HR1 := Lib.hid ((HR.out.quiet hb).quiet (alloc_below w1 (.cells #[.int .i32 48, .int .i32 57] 236)))
 have HL := Lib.hid (sp_lit (w := w1) (L := spDig) (cs := #[.int .i32 48, .int .i32 57]) hb.size rfl rfl (by decide))
 obtain ⟨k, hk, c0, c1, f1, hset⟩ := row_setAt HR1.out.pos
 have Hset := Lib.hid hset
 clear hb Hpk Hp HR hset
 go_wp2_with fail
 go_ret3
 have h5 := HR1.out.trans (Hset.out _ rfl)
 exact ⟨_, _, rfl, own_rd2 HL.out (Fr.set g 1 _ _) HR1.out.pos (by decide), h5⟩
set_option maxHeartbeats 8000000 in
set_option maxRecDepth 100000 in
theorem letter_68 {s : ByteArray} {B g : Nat} {w : World} {t : List UInt8} (h : Pos s B g w (68 :: t)) : Calls Tryz.prog 127 #[.pointer (some ⟨g, 0, none⟩)] w fun e w' => LtP spDig true s B g w t e w' := by
 have Hpk := Lib.hid (qpeek h (by rw [nx_lit _ _ (by decide)]; decide))
 have hp : pkc (68 :: t) = 68 := by rw [pkc_of (by rw [nx_lit _ _ (by decide)]; decide), nx_lit _ _ (by decide)]; rfl
 have Hp := Lib.hid hp
 have HR := Lib.hid (PdP.start h)
 clear h hp
 go_enter Tryz.func127, Tryz.ntmps127
 go_wp2_with fail
 (with_reducible refine Hpk.out.mono ?_)
 rintro e w1 ⟨rfl, hb⟩
 rw [Hp.out]
 have HR1 := Lib.hid ((HR.out.quiet hb).quiet (alloc_below w1 (.cells #[.int .i32 48, .int .i32 57] 236)))
 have HL := Lib.hid (sp_lit (w := w1) (L := spDig) (cs := #[.int .i32 48, .int .i32 57]) hb.size rfl rfl (by decide))
 obtain ⟨k, hk, c0, c1, f1, hset⟩ := row_setAt HR1.out.pos
 have Hset := Lib.hid hset
 clear hb Hpk Hp HR hset
 go_wp2_with fail
 go_ret3
 have h5 := HR1.out.trans (Hset.out _ rfl)
 exact ⟨_, _, rfl, own_rd2 HL.out (Fr.set g 1 _ _) HR1.out.pos (by decide), h5⟩
set_option maxHeartbeats 8000000 in
set_option maxRecDepth 100000 in
theorem letter_119 {s : ByteArray} {B g : Nat} {w : World} {t : List UInt8} (h : Pos s B g w (119 :: t)) : Calls Tryz.prog 127 #[.pointer (some ⟨g, 0, none⟩)] w fun e w' => LtP spWord false s B g w t e w' := by
 have Hpk := Lib.hid (qpeek h (by rw [nx_lit _ _ (by decide)]; decide))
 have hp : pkc (119 :: t) = 119 := by rw [pkc_of (by rw [nx_lit _ _ (by decide)]; decide), nx_lit _ _ (by decide)]; rfl
 have Hp := Lib.hid hp
 have HR := Lib.hid (PdP.start h)
 clear h hp
 go_enter Tryz.func127, Tryz.ntmps127
 go_wp2_with fail
 (with_reducible refine Hpk.out.mono ?_)
 rintro e w1 ⟨rfl, hb⟩
 rw [Hp.out]
 have HR1 := Lib.hid ((HR.out.quiet hb).quiet (alloc_below w1 (.cells #[.int .i32 48, .int .i32 57, .int .i32 65, .int .i32 90, .int .i32 95, .int .i32 95, .int .i32 97, .int .i32 122] 236)))
 have HL := Lib.hid (sp_lit (w := w1) (L := spWord) (cs := #[.int .i32 48, .int .i32 57, .int .i32 65, .int .i32 90, .int .i32 95, .int .i32 95, .int .i32 97, .int .i32 122]) hb.size rfl rfl (by decide))
 obtain ⟨k, hk, c0, c1, f1, hset⟩ := row_setAt HR1.out.pos
 have Hset := Lib.hid hset
 clear hb Hpk Hp HR hset
 go_wp2_with fail
 go_ret3
 have h5 := HR1.out.trans (Hset.out _ rfl)
 exact ⟨_, _, rfl, own_rd2 HL.out (Fr.set g 1 _ _) HR1.out.pos (by decide), h5⟩
set_option maxHeartbeats 8000000 in
set_option maxRecDepth 100000 in
theorem letter_87 {s : ByteArray} {B g : Nat} {w : World} {t : List UInt8} (h : Pos s B g w (87 :: t)) : Calls Tryz.prog 127 #[.pointer (some ⟨g, 0, none⟩)] w fun e w' => LtP spWord true s B g w t e w' := by
 have Hpk := Lib.hid (qpeek h (by rw [nx_lit _ _ (by decide)]; decide))
 have hp : pkc (87 :: t) = 87 := by rw [pkc_of (by rw [nx_lit _ _ (by decide)]; decide), nx_lit _ _ (by decide)]; rfl
 have Hp := Lib.hid hp
 have HR := Lib.hid (PdP.start h)
 clear h hp
 go_enter Tryz.func127, Tryz.ntmps127
 go_wp2_with fail
 (with_reducible refine Hpk.out.mono ?_)
 rintro e w1 ⟨rfl, hb⟩
 rw [Hp.out]
 have HR1 := Lib.hid ((HR.out.quiet hb).quiet (alloc_below w1 (.cells #[.int .i32 48, .int .i32 57, .int .i32 65, .int .i32 90, .int .i32 95, .int .i32 95, .int .i32 97, .int .i32 122] 236)))
 have HL := Lib.hid (sp_lit (w := w1) (L := spWord) (cs := #[.int .i32 48, .int .i32 57, .int .i32 65, .int .i32 90, .int .i32 95, .int .i32 95, .int .i32 97, .int .i32 122]) hb.size rfl rfl (by decide))
 obtain ⟨k, hk, c0, c1, f1, hset⟩ := row_setAt HR1.out.pos
 have Hset := Lib.hid hset
 clear hb Hpk Hp HR hset
 go_wp2_with fail
 go_ret3
 have h5 := HR1.out.trans (Hset.out _ rfl)
 exact ⟨_, _, rfl, own_rd2 HL.out (Fr.set g 1 _ _) HR1.out.pos (by decide), h5⟩
set_option maxHeartbeats 8000000 in
set_option maxRecDepth 100000 in
theorem letter_115 {s : ByteArray} {B g : Nat} {w : World} {t : List UInt8} (h : Pos s B g w (115 :: t)) : Calls Tryz.prog 127 #[.pointer (some ⟨g, 0, none⟩)] w fun e w' => LtP spBlank false s B g w t e w' := by
 have Hpk := Lib.hid (qpeek h (by rw [nx_lit _ _ (by decide)]; decide))
 have hp : pkc (115 :: t) = 115 := by rw [pkc_of (by rw [nx_lit _ _ (by decide)]; decide), nx_lit _ _ (by decide)]; rfl
 have Hp := Lib.hid hp
 have HR := Lib.hid (PdP.start h)
 clear h hp
 go_enter Tryz.func127, Tryz.ntmps127
 go_wp2_with fail
 (with_reducible refine Hpk.out.mono ?_)
 rintro e w1 ⟨rfl, hb⟩
 rw [Hp.out]
 have HR1 := Lib.hid ((HR.out.quiet hb).quiet (alloc_below w1 (.cells #[.int .i32 9, .int .i32 13, .int .i32 32, .int .i32 32, .int .i32 160, .int .i32 160, .int .i32 5760, .int .i32 5760, .int .i32 8192, .int .i32 8202, .int .i32 8232, .int .i32 8233, .int .i32 8239, .int .i32 8239, .int .i32 8287, .int .i32 8287, .int .i32 12288, .int .i32 12288, .int .i32 65279, .int .i32 65279] 236)))
 have HL := Lib.hid (sp_lit (w := w1) (L := spBlank) (cs := #[.int .i32 9, .int .i32 13, .int .i32 32, .int .i32 32, .int .i32 160, .int .i32 160, .int .i32 5760, .int .i32 5760, .int .i32 8192, .int .i32 8202, .int .i32 8232, .int .i32 8233, .int .i32 8239, .int .i32 8239, .int .i32 8287, .int .i32 8287, .int .i32 12288, .int .i32 12288, .int .i32 65279, .int .i32 65279]) hb.size rfl rfl (by decide))
 obtain ⟨k, hk, c0, c1, f1, hset⟩ := row_setAt HR1.out.pos
 have Hset := Lib.hid hset
 clear hb Hpk Hp HR hset
 go_wp2_with fail
 go_ret3
 have h5 := HR1.out.trans (Hset.out _ rfl)
 exact ⟨_, _, rfl, own_rd2 HL.out (Fr.set g 1 _ _) HR1.out.pos (by decide), h5⟩
set_option maxHeartbeats 8000000 in
set_option maxRecDepth 100000 in
theorem letter_83 {s : ByteArray} {B g : Nat} {w : World} {t : List UInt8} (h : Pos s B g w (83 :: t)) : Calls Tryz.prog 127 #[.pointer (some ⟨g, 0, none⟩)] w fun e w' => LtP spBlank true s B g w t e w' := by
 have Hpk := Lib.hid (qpeek h (by rw [nx_lit _ _ (by decide)]; decide))
 have hp : pkc (83 :: t) = 83 := by rw [pkc_of (by rw [nx_lit _ _ (by decide)]; decide), nx_lit _ _ (by decide)]; rfl
 have Hp := Lib.hid hp
 have HR := Lib.hid (PdP.start h)
 clear h hp
 go_enter Tryz.func127, Tryz.ntmps127
 go_wp2_with fail
 (with_reducible refine Hpk.out.mono ?_)
 rintro e w1 ⟨rfl, hb⟩
 rw [Hp.out]
 have HR1 := Lib.hid ((HR.out.quiet hb).quiet (alloc_below w1 (.cells #[.int .i32 9, .int .i32 13, .int .i32 32, .int .i32 32, .int .i32 160, .int .i32 160, .int .i32 5760, .int .i32 5760, .int .i32 8192, .int .i32 8202, .int .i32 8232, .int .i32 8233, .int .i32 8239, .int .i32 8239, .int .i32 8287, .int .i32 8287, .int .i32 12288, .int .i32 12288, .int .i32 65279, .int .i32 65279] 236)))
 have HL := Lib.hid (sp_lit (w := w1) (L := spBlank) (cs := #[.int .i32 9, .int .i32 13, .int .i32 32, .int .i32 32, .int .i32 160, .int .i32 160, .int .i32 5760, .int .i32 5760, .int .i32 8192, .int .i32 8202, .int .i32 8232, .int .i32 8233, .int .i32 8239, .int .i32 8239, .int .i32 8287, .int .i32 8287, .int .i32 12288, .int .i32 12288, .int .i32 65279, .int .i32 65279]) hb.size rfl rfl (by decide))
 obtain ⟨k, hk, c0, c1, f1, hset⟩ := row_setAt HR1.out.pos
 have Hset := Lib.hid hset
 clear hb Hpk Hp HR hset
 go_wp2_with fail
 go_ret3
 have h5 := HR1.out.trans (Hset.out _ rfl)
 exact ⟨_, _, rfl, own_rd2 HL.out (Fr.set g 1 _ _) HR1.out.pos (by decide), h5⟩
end Go.Proofs.YthhnmpkgleelfaaGreatDoor
