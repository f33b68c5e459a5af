import Derived.Test.YthhnmpkgleelfaaGreatDoorM2
import Derived.Test.YthhnmpkgleelfaaGreatDoorM6
import Derived.Shelf.Lay
import Derived.Shelf.Strings.BuilderK
import Derived.Shelf.Strings.BuilderRune
import Derived.Shelf.Strings.Runes
import Derived.Laws.BitsLemmas
import Derived.Laws.Shifts
import Derived.Test.YthhnmpkgleelfaaGreatDoorM25
import Derived.Shelf.Strconv.Itoa3
import Derived.Shelf.Unicode.PredsPay
set_option linter.unusedVariables false
set_option linter.unusedSimpArgs false
namespace Go.Proofs.YthhnmpkgleelfaaGreatDoor
open Go.RowKit Go.Shelf
theorem cc_used (b : Nat) (w : World) (h0 : w.cell? ⟨b, 0, none⟩ = some (.pointer (some ⟨b, 0, none⟩))) :
  Calls Tryz.prog 160 #[.pointer (some ⟨b, 0, none⟩)] w fun e w' => e = .returned (.tuple #[]) ∧ w' = w := by
 obtain ⟨j, hj, _⟩ := Option.map_eq_some_iff.1 (show (Tryz.prog.info? 197).map (·.size) = some 2 by kernel_rfl)
 have hx := Lib.run_neq_ptr_same w ⟨b, 0, none⟩ Tryz.underlying195 hj
 go_enter Tryz.func160, Tryz.ntmps160
 go_wp2
 go_end0
 exact ⟨rfl, rfl⟩
theorem cc_fresh (b : Nat) (w : World) (h0 : w.cell? ⟨b, 0, none⟩ = some (.pointer none)) (hsh : w.shape? b = some (197, 2)) (hfz : w.frozen? ⟨b, 0, none⟩ = false) :
  Calls Tryz.prog 160 #[.pointer (some ⟨b, 0, none⟩)] w fun e w' => e = .returned (.tuple #[]) ∧ w' = w.setCell ⟨b, 0, none⟩ (.pointer (some ⟨b, 0, none⟩)) := by
 obtain ⟨j, hj, hjs⟩ := Option.map_eq_some_iff.1 (show (Tryz.prog.info? 197).map (·.size) = some 2 by kernel_rfl)
 have x1 := Lib.run_to_unsafe w ⟨b, 0, none⟩ Tryz.underlying195 Tryz.underlying251 hj (by rw [hjs]; decide) hsh (Nat.zero_lt_succ 1)
 have x2 := Lib.run_from_unsafe w ⟨b, 0, none⟩ Tryz.underlying251 Tryz.underlying195 hj hsh (by kernel_rfl)
 have x3 : (callFunc 173 #[.pointer (some ⟨b, 0, none⟩)]).run Tryz.prog w = .ok (.value (.pointer (some ⟨b, 0, none⟩))) w := by
  rw [run_callFunc_extern Tryz.func173 (by kernel_rfl) (by kernel_rfl) (by kernel_rfl) (e := Extern.AbiNoEscape.same) (by kernel_rfl), Lib.run_noEscape]
  rfl
 go_enter Tryz.func160, Tryz.ntmps160
 go_wp2
 go_end0
 exact ⟨rfl, rfl⟩
abbrev BAt (B b : Nat) (bs : List Value) (w : World) : Prop := Lib.BuilderAtF 197 5 B b (.pointer (some ⟨b, 0, none⟩)) bs w
theorem cc_any (B b : Nat) (bs : List Value) (w : World) (h : Lib.IsBuilderF 197 5 B b bs w) :
  Calls Tryz.prog 160 #[.pointer (some ⟨b, 0, none⟩)] w fun e w' => e = .returned (.tuple #[]) ∧ (BAt B b bs w' ∧ Below B w w' ∧ Lib.OthersKept 5 (some b) w w') := by
 rcases h with h | h
 ·refine (cc_fresh b w h.cell0 h.shape h.frozen0).mono ?_
  rintro e w' ⟨rfl, rfl⟩
  exact ⟨rfl, h.used _, (Below.refl B w).setCell (p := ⟨b, 0, none⟩) h.1 _, (Lib.OthersKept.refl _ _ w).setCell ⟨b, 0, none⟩ rfl _⟩
 ·refine (cc_used b w h.cell0).mono ?_
  rintro e w' ⟨rfl, rfl⟩
  exact ⟨rfl, h, Below.refl B _, Lib.OthersKept.refl _ _ _⟩
theorem infoU8 : (Tryz.prog.info? 5).map (fun i => (i.zero, i.size, i.bytes)) = some (some (.int .u8 0), 1, 1) := by kernel_rfl
set_option maxHeartbeats 2000000 in
set_option maxRecDepth 100000 in
theorem wbyte_k (B b : Nat) (bs : List Value) (c : Int) (w : World) (h : Lib.IsBuilderF 197 5 B b bs w) (hlen : bs.length + 1 ≤ 140737488355328) (hBw : B ≤ w.heap.size) :
  Calls Tryz.prog 136 #[.pointer (some ⟨b, 0, none⟩), .int .u8 c] w fun e w' => e = .returned .nilIface ∧ (BAt B b (bs ++ [.int .u8 c]) w' ∧ Below B w w' ∧ Lib.OthersKept 5 (some b) w w') := by
 obtain ⟨i0, hi, hz0, hz1, hz2⟩ := info_parts infoU8
 go_enter Tryz.func136, Tryz.ntmps136
 go_wp2_with fail
 (with_reducible refine (cc_any B b bs w h).mono ?_)
 rintro e w1 ⟨rfl, h1, hb1, hk1⟩
 obtain ⟨hB, v, hbk, hown, hne⟩ := h1
 have c0 : w1.cell? ⟨b, 0, none⟩ = some (.pointer (some ⟨b, 0, none⟩)) := by rw [Lib.cell_of_heap hbk]; rfl
 have c1 : w1.cell? ⟨b, 1, none⟩ = some v := by rw [Lib.cell_of_heap hbk]; rfl
 go_wp2_with (at_builtin; refine wpList_append_ownF _ rfl _ _ 54 rfl B 5 i0 (.int .u8 0) 1 1 Tryz.underlying54 hi hz0 hz1 hz2 rfl (by decide) _ _ _ rfl (hown.alloc _) ⟨w1.heap.size, 0, none⟩ 1 1 [.int .u8 c] rfl rfl ?c1 ?c2 ?c3 ?c4 ?c5 ?_)
 case c1 =>
  intro j u hj
  match j, hj with
  | 0, hj => simp at hj; subst hj; simp [Addr.add]
 case c2 => intro u hu; simp at hu; subst hu; rfl
 case c3 => unfold maxLen; omega
 case c4 => omega
 case c5 => have := hb1.size; simp; omega
 intro v' w2 hown' hgrow _
 have hlt : b < w1.heap.size := lt_of_heap hbk
 have hb2 : w2.heap[b]? = some (.cells #[.pointer (some ⟨b, 0, none⟩), v] 197 (0, 0)) := by
  rw [hgrow.block b (by simp; omega) (fun e => hne e.symm), Lib.alloc_old w1 _ b hlt]
  exact hbk
 have d0 : w2.cell? ⟨b, 0, none⟩ = some (.pointer (some ⟨b, 0, none⟩)) := by rw [Lib.cell_of_heap hb2]; rfl
 have d1 : w2.cell? ⟨b, 1, none⟩ = some v := by rw [Lib.cell_of_heap hb2]; rfl
 have f1 : w2.frozen? ⟨b, 1, none⟩ = false := Lib.frozen_of_heap hb2 1
 obtain ⟨g, cap, rfl⟩ : ∃ g cap, v' = .slice (some ⟨g, 0, none⟩) (bs.length + 1) cap := by
  rcases hown'.2 with ⟨_, h0⟩ | ⟨g, cap, cur, fz, hv, _⟩
  ·omega
  ·exact ⟨g, cap, hv⟩
 go_wp2
 go_ret
 refine ⟨rfl, ?_, ?_, ((hk1.alloc _).grown hgrow (Lib.ownsRowF_kind (hown.alloc _))).setCell ⟨b, 1, none⟩ rfl _⟩
 ·exact Lib.BuilderAtF.put (T := 197) (e := 5) hB hb2 (bs' := bs ++ [.int .u8 c]) (by simpa using hown') (by decide)
 ·exact ((hb1.alloc (by have := hb1.size; omega) _).grown hgrow (by have := hb1.size; simp; omega) (fun k hk => (hown.lt k hk).1)).setCell (p := ⟨b, 1, none⟩) hB _
set_option maxHeartbeats 2000000 in
set_option maxRecDepth 100000 in
theorem wstr_k (B b : Nat) (bs : List Value) (s : ByteArray) (w : World) (h : Lib.IsBuilderF 197 5 B b bs w) (hlen : bs.length + s.size ≤ 140737488355328) (hBw : B ≤ w.heap.size) :
  Calls Tryz.prog 161 #[.pointer (some ⟨b, 0, none⟩), .string s] w fun e w' => e = .returned (.tuple #[.int .i64 s.size, .nilIface]) ∧ (BAt B b (bs ++ Lib.strCells s) w' ∧ Below B w w' ∧ Lib.OthersKept 5 (some b) w w') := by
 obtain ⟨i0, hi, hz0, hz1, hz2⟩ := info_parts infoU8
 go_enter Tryz.func161, Tryz.ntmps161
 go_wp2_with fail
 (with_reducible refine (cc_any B b bs w h).mono ?_)
 rintro e w1 ⟨rfl, h1, hb1, hk1⟩
 obtain ⟨hB, v, hbk, hown, hne⟩ := h1
 have c0 : w1.cell? ⟨b, 0, none⟩ = some (.pointer (some ⟨b, 0, none⟩)) := by rw [Lib.cell_of_heap hbk]; rfl
 have c1 : w1.cell? ⟨b, 1, none⟩ = some v := by rw [Lib.cell_of_heap hbk]; rfl
 go_wp2_with (at_builtin; refine Lib.wpList_append_own_stringF _ rfl _ _ 54 9 rfl B 5 i0 Tryz.underlying54 Tryz.underlying9 hi hz0 hz1 hz2 _ _ _ rfl hown s rfl ?c3 ?c4 ?c5 ?_)
 case c3 => unfold maxLen; omega
 case c4 => omega
 case c5 => have := hb1.size; omega
 intro v' w2 hown' hgrow _
 have hlt : b < w1.heap.size := lt_of_heap hbk
 have hb2 : w2.heap[b]? = some (.cells #[.pointer (some ⟨b, 0, none⟩), v] 197 (0, 0)) := by
  rw [hgrow.block b hlt (fun e => hne e.symm)]
  exact hbk
 have d0 : w2.cell? ⟨b, 0, none⟩ = some (.pointer (some ⟨b, 0, none⟩)) := by rw [Lib.cell_of_heap hb2]; rfl
 have d1 : w2.cell? ⟨b, 1, none⟩ = some v := by rw [Lib.cell_of_heap hb2]; rfl
 have f1 : w2.frozen? ⟨b, 1, none⟩ = false := Lib.frozen_of_heap hb2 1
 obtain ⟨ao, n', cap, rfl⟩ : ∃ ao n' cap, v' = .slice ao n' cap := by
  rcases hown'.2 with ⟨hv, _⟩ | ⟨g, cap, cur, fz, hv, _⟩
  ·exact ⟨_, _, _, hv⟩
  ·exact ⟨_, _, _, hv⟩
 go_wp2
 go_ret2
 refine ⟨rfl, ?_, ?_, (hk1.grown hgrow (Lib.ownsRowF_kind hown)).setCell ⟨b, 1, none⟩ rfl _⟩
 ·exact Lib.BuilderAtF.put (T := 197) (e := 5) hB hb2 (bs' := bs ++ Lib.strCells s) (by simpa [Lib.strCells_length] using hown') (by decide)
 ·exact (hb1.grown hgrow (by have := hb1.size; omega) (fun k hk => (hown.lt k hk).1)).setCell (p := ⟨b, 1, none⟩) hB _
def lays242_ren : Go.Shelf.Ren := ⟨fun | 242 => 172 | 278 => 182 | n => n, fun | 37 => 54 | 21 => 21 | 51 => 258 | 4 => 4 | 5 => 5 | 46 => 176 | n => n, fun | n => n⟩
theorem lays242 : Go.Proofs.Lays.n242 Tryz.prog lays242_ren := {
 mixed := by kernel_rfl
 f242 := Tryz.func172.trans (congrArg some (by kernel_rfl))
 f278 := Tryz.func182.trans (congrArg some (by kernel_rfl))
 t4 := Tryz.underlying4
 a4 := Tryz.isAgg4
 z4 := Tryz.sizeOf4
 v4 := Tryz.zeroValue4
 t5 := Tryz.underlying5
 a5 := Tryz.isAgg5
 z5 := Tryz.sizeOf5
 v5 := Tryz.zeroValue5
 t21 := Tryz.underlying21
 a21 := Tryz.isAgg21
 z21 := Tryz.sizeOf21
 v21 := Tryz.zeroValue21
 t37 := Tryz.underlying54
 a37 := Tryz.isAgg54
 z37 := Tryz.sizeOf54
 v37 := Tryz.zeroValue54
 t46 := Tryz.underlying176
 a46 := Tryz.isAgg176
 z46 := Tryz.sizeOf176
 v46 := Tryz.zeroValue176
 t51 := Tryz.underlying258
 a51 := Tryz.isAgg258
 z51 := Tryz.sizeOf258
 v51 := Tryz.zeroValue258 }
def renB : Ren := { lays242_ren with t := fun n => match n with | 72 => 197 | 5 => 5 | n => lays242_ren.t n }
theorem layB : Lays.n242 Tryz.prog renB := { lays242 with }
theorem bxB : Builder.Extra Tryz.prog renB where
 sizeBuilder := by kernel_rfl
 liesBuilder := by kernel_rfl
 t5 := Tryz.underlying5
 a5 := Tryz.isAgg5
 z5 := Tryz.sizeOf5
 v5 := Tryz.zeroValue5
 infoByte := by kernel_rfl
 cellsByte := by kernel_rfl
 sizeByte := by kernel_rfl
 neB5 := by decide
theorem appendrune_any (B : Nat) (v : Value) (n : Nat) (xs : List Value) (r : Int) (hr0 : -2147483648 ≤ r) (hr1 : r ≤ 2147483647) (w : World) (hown : w.ownsRowF B 5 1 v n xs) (hlen : n + 4 ≤ 140737488355328) (hBw : B ≤ w.heap.size) :
  Calls Tryz.prog 172 #[v, .int .i32 r] w fun e w' => ∃ v', e = .returned v' ∧ w'.ownsRowF B 5 1 v' (n + (Lib.runeCells r).length) (xs ++ Lib.runeCells r) ∧ ∃ o, (w.alloc o).grownBy w' v.ownBlock := Any.utf8_AppendRune_own layB bxB B v n xs r hr0 hr1 w hown hlen hBw
set_option maxHeartbeats 4000000 in
set_option maxRecDepth 100000 in
theorem wrune_k (B b : Nat) (bs : List Value) (r : Int) (hr0 : -2147483648 ≤ r) (hr1 : r ≤ 2147483647) (w : World) (h : Lib.IsBuilderF 197 5 B b bs w) (hlen : bs.length + 4 ≤ 140737488355328) (hBw : B ≤ w.heap.size) :
  Calls Tryz.prog 159 #[.pointer (some ⟨b, 0, none⟩), .int .i32 r] w fun e w' => (∃ z, e = .returned (.tuple #[.int .i64 z, .nilIface])) ∧ (BAt B b (bs ++ Lib.runeCells r) w' ∧ Below B w w' ∧ Lib.OthersKept 5 (some b) w w') := by
 have hk4 := Lib.runeCells_le r
 go_enter Tryz.func159, Tryz.ntmps159
 go_wp2_with fail
 (with_reducible refine (cc_any B b bs w h).mono ?_)
 rintro e w1 ⟨rfl, h1, hb1, hk1⟩
 obtain ⟨hB, v, hbk, hown, hne⟩ := h1
 obtain ⟨ao, cap, rfl⟩ : ∃ ao cap, v = .slice ao bs.length cap := by
  rcases hown.2 with ⟨hv, h0⟩ | ⟨g, cap, cur, fz, hv, _⟩
  ·exact ⟨none, 0, by rw [hv, h0]⟩
  ·exact ⟨_, _, hv⟩
 have c0 : w1.cell? ⟨b, 0, none⟩ = some (.pointer (some ⟨b, 0, none⟩)) := by rw [Lib.cell_of_heap hbk]; rfl
 have c1 : w1.cell? ⟨b, 1, none⟩ = some (.slice ao bs.length cap) := by rw [Lib.cell_of_heap hbk]; rfl
 go_wp2_with fail
 (with_reducible refine (appendrune_any B _ bs.length bs r hr0 hr1 _ hown hlen (by have := hb1.size; omega)).mono ?_)
 rintro e w2 ⟨v', rfl, hown', o, hgrow⟩
 have hlt : b < w1.heap.size := lt_of_heap hbk
 have hb2 : w2.heap[b]? = some (.cells #[.pointer (some ⟨b, 0, none⟩), .slice ao bs.length cap] 197 (0, 0)) := by
  rw [hgrow.block b (by simp; omega) (fun e => hne e.symm), Lib.alloc_old w1 _ b hlt]
  exact hbk
 have d0 : w2.cell? ⟨b, 0, none⟩ = some (.pointer (some ⟨b, 0, none⟩)) := by rw [Lib.cell_of_heap hb2]; rfl
 have d1 : w2.cell? ⟨b, 1, none⟩ = some (.slice ao bs.length cap) := by rw [Lib.cell_of_heap hb2]; rfl
 have f1 : w2.frozen? ⟨b, 1, none⟩ = false := Lib.frozen_of_heap hb2 1
 obtain ⟨g, cap', rfl⟩ : ∃ g cap', v' = .slice (some ⟨g, 0, none⟩) (bs.length + (Lib.runeCells r).length) cap' := by
  rcases hown'.2 with ⟨_, h0⟩ | ⟨g, cap', cur, fz, hv, _⟩
  ·omega
  ·exact ⟨g, cap', hv⟩
 go_wp2
 go_ret2
 refine ⟨⟨_, rfl⟩, ?_, ?_, ((hk1.alloc _).grown hgrow (Lib.ownsRowF_kind (hown.alloc _))).setCell ⟨b, 1, none⟩ rfl _⟩
 ·exact Lib.BuilderAtF.put (T := 197) (e := 5) hB hb2 (bs' := bs ++ Lib.runeCells r) (by simpa using hown') (by decide)
 ·exact ((hb1.alloc (by have := hb1.size; omega) _).grown hgrow (by have := hb1.size; simp; omega) (fun k hk => (hown.lt k hk).1)).setCell (p := ⟨b, 1, none⟩) hB _
def lays169_ren : Go.Shelf.Ren := ⟨fun | 169 => 117 | n => n, fun | 70 => 195 | 9 => 9 | 0 => 0 | 72 => 197 | 37 => 54 | 127 => 225 | 3 => 3 | 5 => 5 | n => n, fun | n => n⟩
theorem lays169 : Go.Proofs.Lays.n169 Tryz.prog lays169_ren := {
 mixed := by kernel_rfl
 f169 := Tryz.func117.trans (congrArg some (by kernel_rfl))
 t0 := Tryz.underlying0
 a0 := Tryz.isAgg0
 z0 := Tryz.sizeOf0
 v0 := Tryz.zeroValue0
 t3 := Tryz.underlying3
 a3 := Tryz.isAgg3
 z3 := Tryz.sizeOf3
 v3 := Tryz.zeroValue3
 t9 := Tryz.underlying9
 a9 := Tryz.isAgg9
 z9 := Tryz.sizeOf9
 v9 := Tryz.zeroValue9
 t37 := Tryz.underlying54
 a37 := Tryz.isAgg54
 z37 := Tryz.sizeOf54
 v37 := Tryz.zeroValue54
 t70 := Tryz.underlying195
 a70 := Tryz.isAgg195
 z70 := Tryz.sizeOf195
 v70 := Tryz.zeroValue195
 t72 := Tryz.underlying197
 a72 := Tryz.isAgg197
 z72 := Tryz.sizeOf197
 v72 := Tryz.zeroValue197
 t127 := Tryz.underlying225
 a127 := Tryz.isAgg225
 z127 := Tryz.sizeOf225
 v127 := Tryz.zeroValue225 }
theorem bx169 : Builder.Extra Tryz.prog lays169_ren where
 sizeBuilder := by kernel_rfl
 liesBuilder := by kernel_rfl
 t5 := Tryz.underlying5
 a5 := Tryz.isAgg5
 z5 := Tryz.sizeOf5
 v5 := Tryz.zeroValue5
 infoByte := by kernel_rfl
 cellsByte := by kernel_rfl
 sizeByte := by kernel_rfl
 neB5 := by decide
def Bd (w : World) (B b n : Nat) : Prop := ∃ l : List UInt8, Lib.IsBuilderF 197 5 B b (Lib.byteCells l) w ∧ l.length ≤ n
def BdP (w : World) (B b n : Nat) (w' : World) : Prop := Bd w' B b n ∧ Below B w w' ∧ Lib.OthersKept 5 (some b) w w'
theorem Bd.below {w w' : World} {B b n : Nat} (h : Bd w B b n) (hb : Below w.heap.size w w') : Bd w' B b n := by
 obtain ⟨l, h, hl⟩ := h
 refine ⟨l, ?_, hl⟩
 have key : ∀ p, Lib.BuilderAtF 197 5 B b p (Lib.byteCells l) w → Lib.BuilderAtF 197 5 B b p (Lib.byteCells l) w' := by
  rintro p ⟨hB, v, hb1, ho, hne⟩
  refine ⟨hB, v, (hb.block b (lt_of_heap hb1)).trans hb1, ho.kept (row := none) ⟨hb.os, hb.tape, hb.output, hb.size, fun k hk _ => hb.block k hk⟩ ?_, hne⟩
  cases hv : v.ownBlock with
  | none => exact .inl rfl
  | some g => exact .inr (by simp)
 exact h.elim (fun h => .inl (key _ h)) (fun h => .inr (key _ h))
theorem Bd.more {w : World} {B b n m : Nat} (h : Bd w B b n) (hm : n ≤ m) : Bd w B b m := by
 obtain ⟨l, h, hl⟩ := h
 exact ⟨l, h, by omega⟩
theorem oth_below {e : TypeId} {b : Option Nat} {w w' : World} (hb : Below w.heap.size w w') : Lib.OthersKept e b w w' := fun k _ h _ _ => (hb.block k (lt_of_heap h)).trans h
theorem BdP.trans {w w1 w2 : World} {B b n m : Nat} (h : BdP w B b n w1) (k : BdP w1 B b m w2) : BdP w B b m w2 := ⟨k.1, h.2.1.trans k.2.1, h.2.2.trans k.2.2⟩
theorem BdP.start {w : World} {B b n : Nat} (h : Bd w B b n) : BdP w B b n w := ⟨h, Below.refl _ _, Lib.OthersKept.refl _ _ _⟩
theorem BdP.quiet {w w1 w2 : World} {B b n : Nat} (h : BdP w B b n w1) (hb : Below w1.heap.size w1 w2) (hB : B ≤ w.heap.size) : BdP w B b n w2 :=
 ⟨h.1.below hb, h.2.1.trans (hb.mono (Nat.le_trans hB h.2.1.size)), h.2.2.trans (oth_below hb)⟩
theorem BdP.more {w w1 : World} {B b n m : Nat} (h : BdP w B b n w1) (hm : n ≤ m) : BdP w B b m w1 := ⟨h.1.more hm, h.2⟩
theorem BdP.hB {w w1 : World} {B b n : Nat} (h : BdP w B b n w1) (hB : B ≤ w.heap.size) : B ≤ w1.heap.size := Nat.le_trans hB h.2.1.size
def WbP (w : World) (B b n : Nat) (e : Ending) (w' : World) : Prop := e = .returned .nilIface ∧ BdP w B b n w'
def WsP (w : World) (B b n : Nat) (e : Ending) (w' : World) : Prop := ∃ z : Int, e = .returned (.tuple #[.int .i64 z, .nilIface]) ∧ BdP w B b n w'
def WnP (w : World) (B b n : Nat) (e : Ending) (w' : World) : Prop := e = .returned (.tuple #[]) ∧ BdP w B b n w'
theorem wbyte_any {w : World} {B b n : Nat} (h : Bd w B b n) (z : Int) (h0 : 0 ≤ z) (h1 : z < 256) (hn : n + 1 ≤ 100000000000000) (hB : B ≤ w.heap.size) : Calls Tryz.prog 136 #[.pointer (some ⟨b, 0, none⟩), .int .u8 z] w fun e w' => WbP w B b (n + 1) e w' := by
 obtain ⟨l, h, hl⟩ := h
 refine (wbyte_k B b (Lib.byteCells l) z w h (by rw [Lib.byteCells_length]; omega) hB).mono ?_
 rintro e w' ⟨rfl, h2, hb, hk⟩
 refine ⟨rfl, ⟨l ++ [z.toNat.toUInt8], ?_, by simp; omega⟩, hb, hk⟩
 have e1 : Lib.byteCells (l ++ [z.toNat.toUInt8]) = Lib.byteCells l ++ [.int .u8 z] := by
  have : z.toNat.toUInt8.toNat = z.toNat := by
   rw [Nat.toUInt8_eq, UInt8.toNat_ofNat']; omega
  simp only [Lib.byteCells, List.map_append, List.map_cons, List.map_nil, this]
  rw [show ((z.toNat : Nat) : Int) = z by omega]
 rw [e1]
 exact .inr h2
theorem wstr_any {w : World} {B b n : Nat} (h : Bd w B b n) (s : ByteArray) (m : Nat) (hs : s.size ≤ m) (hn : n + m ≤ 100000000000000) (hB : B ≤ w.heap.size) : Calls Tryz.prog 161 #[.pointer (some ⟨b, 0, none⟩), .string s] w fun e w' => WsP w B b (n + m) e w' := by
 obtain ⟨l, h, hl⟩ := h
 refine (wstr_k B b (Lib.byteCells l) s w h (by rw [Lib.byteCells_length]; omega) hB).mono ?_
 rintro e w' ⟨rfl, h2, hb, hk⟩
 refine ⟨_, rfl, ⟨l ++ s.data.toList, ?_, ?_⟩, hb, hk⟩
 ·rw [Lib.byteCells_append, ← Lib.strCells_eq]
  exact .inr h2
 ·have : s.data.toList.length = s.size := by rw [Array.length_toList]; rfl
  rw [List.length_append, this]; omega
theorem wrune_any {w : World} {B b n : Nat} (h : Bd w B b n) (c : Int) (h0 : 0 ≤ c) (h1 : c ≤ 1114111) (hn : n + 4 ≤ 100000000000000) (hB : B ≤ w.heap.size) : Calls Tryz.prog 159 #[.pointer (some ⟨b, 0, none⟩), .int .i32 c] w fun e w' => WsP w B b (n + 4) e w' := by
 obtain ⟨l, h, hl⟩ := h
 refine (wrune_k B b (Lib.byteCells l) c (by omega) (by omega) w h (by rw [Lib.byteCells_length]; omega) hB).mono ?_
 rintro e w' ⟨⟨z, rfl⟩, h2, hb, hk⟩
 refine ⟨z, rfl, ⟨l ++ Lib.encodeRune c, ?_, ?_⟩, hb, hk⟩
 ·rw [Lib.byteCells_append, Lib.byteCells_encodeRune]
  exact .inr h2
 ·have h4 := Lib.runeCells_le c
  rw [Lib.runeCells_length] at h4
  simp; omega
theorem i32_and15 (n : Int) : bits .and .i32 n 15 = n % 16 := by
 have h15 : (BitVec.ofInt 32 15).toNat = 2 ^ 4 - 1 := by decide
 have key : (BitVec.ofInt 32 n &&& BitVec.ofInt 32 15).toNat = (n % ((2 ^ 32 : Nat) : Int)).toNat % 2 ^ 4 := by
  rw [BitVec.toNat_and, BitVec.toNat_ofInt, h15, Nat.and_two_pow_sub_one_eq_mod]
 show IntKind.i32.wrap ((BitVec.ofInt 32 n &&& BitVec.ofInt 32 15).toNat : Nat) = n % 16
 rw [key, IntKind.wrap_i32]
 omega
theorem i32_and1023 (n : Int) : bits .and .i32 n 1023 = n % 1024 := by
 have h15 : (BitVec.ofInt 32 1023).toNat = 2 ^ 10 - 1 := by decide
 have key : (BitVec.ofInt 32 n &&& BitVec.ofInt 32 1023).toNat = (n % ((2 ^ 32 : Nat) : Int)).toNat % 2 ^ 10 := by
  rw [BitVec.toNat_and, BitVec.toNat_ofInt, h15, Nat.and_two_pow_sub_one_eq_mod]
 show IntKind.i32.wrap ((BitVec.ofInt 32 n &&& BitVec.ofInt 32 1023).toNat : Nat) = n % 1024
 rw [key, IntKind.wrap_i32]
 omega
def Tabs (w : World) : Prop := Lib.Utf8Tabs 4 5 w ∧ Lib.TabIs Tryz.prog w "internal/strconv.uint64pow10" .u64 Lib.pow10Tab
theorem Tabs.below {w w' : World} (h : Tabs w) (hb : Below w.heap.size w w') : Tabs w' := ⟨Utf8Tabs_below h.1 hb, TabIs_below (g := 8) (by kernel_rfl) h.2 hb⟩
def lays196_ren : Go.Shelf.Ren := ⟨fun | 196 => 157 | 259 => 170 | n => n, fun | 9 => 9 | 4 => 4 | 3 => 3 | 5 => 5 | 12 => 12 | 119 => 229 | 0 => 0 | 46 => 176 | 139 => 232 | 138 => 231 | 53 => 138 | n => n, fun | 3 => 4 | 4 => 5 | n => n⟩
theorem lays196 : Go.Proofs.Lays.n196 Tryz.prog lays196_ren := {
 mixed := by kernel_rfl
 f196 := Tryz.func157.trans (congrArg some (by kernel_rfl))
 f259 := Tryz.func170.trans (congrArg some (by kernel_rfl))
 t0 := Tryz.underlying0
 a0 := Tryz.isAgg0
 z0 := Tryz.sizeOf0
 v0 := Tryz.zeroValue0
 t3 := Tryz.underlying3
 a3 := Tryz.isAgg3
 z3 := Tryz.sizeOf3
 v3 := Tryz.zeroValue3
 t4 := Tryz.underlying4
 a4 := Tryz.isAgg4
 z4 := Tryz.sizeOf4
 v4 := Tryz.zeroValue4
 t5 := Tryz.underlying5
 a5 := Tryz.isAgg5
 z5 := Tryz.sizeOf5
 v5 := Tryz.zeroValue5
 t9 := Tryz.underlying9
 a9 := Tryz.isAgg9
 z9 := Tryz.sizeOf9
 v9 := Tryz.zeroValue9
 t12 := Tryz.underlying12
 a12 := Tryz.isAgg12
 z12 := Tryz.sizeOf12
 v12 := Tryz.zeroValue12
 t46 := Tryz.underlying176
 a46 := Tryz.isAgg176
 z46 := Tryz.sizeOf176
 v46 := Tryz.zeroValue176
 t53 := Tryz.underlying138
 a53 := Tryz.isAgg138
 z53 := Tryz.sizeOf138
 v53 := Tryz.zeroValue138
 t119 := Tryz.underlying229
 a119 := Tryz.isAgg229
 z119 := Tryz.sizeOf229
 t138 := Tryz.underlying231
 a138 := Tryz.isAgg231
 z138 := Tryz.sizeOf231
 v138 := Tryz.zeroValue231
 t139 := Tryz.underlying232
 a139 := Tryz.isAgg232
 z139 := Tryz.sizeOf232
 v139 := Tryz.zeroValue232
 g3 := by kernel_rfl
 g4 := by kernel_rfl }
theorem validstring_any {w : World} (B : ByteArray) (hs : B.size ≤ 9223372036854775807) (hT : Tabs w) : Calls Tryz.prog 157 #[.string B] w fun e w' => e = .returned (.bool (Lib.validD B.data.toList)) ∧ Below w.heap.size w w' := Any.utf8_ValidString lays196 B w hs hT.1
theorem validD_frm : ∀ (n : Nat) (l : List Int), (∀ c ∈ l, isR c = true) → Lib.validGoD n (l.flatMap frm) = true
 | 0, l, _ => rfl
 | n + 1, [], _ => by simp [Lib.validGoD]
 | n + 1, c :: l, h => by
  have hc := h c (by simp)
  obtain ⟨m, rfl⟩ : ∃ m : Nat, c = m := ⟨c.toNat, by have := isR_pos hc; omega⟩
  have hd := dec_of_frm m hc (l.flatMap frm)
  have hpos : 1 ≤ (frm (m : Int)).length := by
   have := dec_pos (xs := frm (m : Int) ++ l.flatMap frm) (by rw [hd])
   rw [hd] at this
   exact this
  have hL : Lib.decodeL (frm (m : Int) ++ l.flatMap frm) = (m, (frm (m : Int)).length) := by
   unfold Lib.decodeL
   have hsz : 0 < (⟨(frm (m : Int) ++ l.flatMap frm).toArray⟩ : ByteArray).size := by
    show 0 < (frm (m : Int) ++ l.flatMap frm).toArray.size
    simp only [List.size_toArray, List.length_append]; omega
   rw [decode_dec _ 0 hsz]
   simp only [List.drop_zero, hd, if_true]
  rw [List.flatMap_cons]
  unfold Lib.validGoD
  rw [if_neg (fun e => by have := congrArg List.length e; rw [List.length_append, List.length_nil] at this; omega), hL, if_neg, List.drop_left]
  ·exact validD_frm n l (fun c hm => h c (List.mem_cons_of_mem _ hm))
  ·rintro ⟨h1, h2⟩
   simp only at h1 h2
   subst h1
   revert h2; decide
theorem rng_valid {cs : List Int} (hc : ∀ c ∈ cs, isR c = true) : Lib.validD (rngB cs).data.toList = true := by
 unfold Lib.validD rngB
 exact validD_frm _ cs hc
theorem unless_true (w : World) : Calls Tryz.prog 131 #[.bool true] w fun e w' => e = .returned .nilIface ∧ w' = w := by
 go_enter Tryz.func131, Tryz.ntmps131
 go_wp2_with fail
 go_ret
 exact ⟨rfl, rfl⟩
set_option maxHeartbeats 8000000 in
set_option maxRecDepth 100000 in
theorem canonical_any {cs : List Int} (hg : Gaps cs) (hc : ∀ c ∈ cs, isR c = true) (hx : NoX cs) {w : World} (hT : Tabs w) : Calls Tryz.prog 133 #[.agg #[.string (rngB cs)]] w fun e w' => e = .returned (.bool true) ∧ Below w.heap.size w w' := by
 obtain ⟨hsz, hev, hcl⟩ := rng_size hg hc
 have hval := rng_valid hc
 have Hal := Lib.hid (alloc_below w (.cells #[.string (rngB cs)] 213))
 have Hbx := Lib.hid (heap_alloc_new w (.cells #[.string (rngB cs)] 213))
 have HT := Lib.hid (hT.below Hal.out)
 have Hcv := Lib.hid (fun w1 => conv_runes w1 hc hcl)
 have Hat := Lib.hid (fun i a b => Gaps.at cs i a b hg hx)
 have Hr := Lib.hid (fun (i : Nat) (c : Int) (h : cs[i]? = some c) => (isR_iff c).1 (hc c (List.mem_of_getElem? h)))
 clear hT hg hc hx
 generalize hB : rngB cs = B at *
 have Hval := Lib.hid hval
 clear hB hval
 go_enter Tryz.func133, Tryz.ntmps133
 go_wp2_with fail
 (with_reducible refine (validstring_any B (by omega) HT.out).mono ?_)
 rintro e w1 ⟨rfl, hb1⟩
 rw [Hval.out]
 have Hb1 := Lib.hid (Hal.out.trans (hb1.mono Hal.out.size))
 have hbx1 := (hb1.block _ (lt_of_heap Hbx.out)).trans Hbx.out
 have d0 := row_cell hbx1 (j := 0) rfl
 obtain ⟨q, w2, hconv, hb2, hr2⟩ := Hcv.out w1
 have Hb2 := Lib.hid (Hb1.out.trans (hb2.mono Hb1.out.size))
 have Hrow := Lib.hid hr2
 clear hb1 hbx1 hb2 hr2
 go_wp2_with fail
 clear hconv d0
 go_loopw [15] (fun s15 wr => ∃ k : Nat, k ≤ cs.length ∧ s15 = .int .i64 k ∧ wr = w2) (fun v _ => cs.length - (intOf v).toNat)
 case atStart => exact ⟨0, Nat.zero_le _, rfl, rfl⟩
 case round =>
  obtain ⟨k, hk, rfl, hw⟩ := hrel
  subst hw
  by_cases hlt : k < cs.length
  ·obtain ⟨c, hcc⟩ : ∃ c, cs[k]? = some c := ⟨_, List.getElem?_eq_getElem hlt⟩
   have ck := ownsRow_cell Hrow.out rfl k (by omega)
   rw [List.getElem?_map, hcc] at ck
   simp only [Option.map_some, runeV] at ck
   have Hcc := Lib.hid hcc
   have hrc := Hr.out k c hcc
   have hki : (k : Int) < cs.length := by omega
   clear hcc
   by_cases hp : k % 2 = 1
   ·obtain ⟨m, rfl⟩ : ∃ m, k = m + 1 := ⟨k - 1, by omega⟩
    have hpr : ((m + 1 : Nat) : Int).tmod 2 = 1 := by rw [Int.tmod_eq_emod_of_nonneg (by omega)]; omega
    obtain ⟨a, haa⟩ : ∃ a, cs[m]? = some a := ⟨_, List.getElem?_eq_getElem (by omega)⟩
    have ca := ownsRow_cell Hrow.out rfl m (by omega)
    rw [List.getElem?_map, haa] at ca
    simp only [Option.map_some, runeV] at ca
    obtain ⟨g1, g2⟩ := (Hat.out m a c haa Hcc.out).1 (by omega)
    obtain ⟨z, hz⟩ : ∃ z : Int, z = ((m + 1 : Nat) : Int) := ⟨_, rfl⟩
    have hz1 : IntKind.i64.wrap (z - 1) = (m : Int) := by rw [hz, IntWalk.i64_in _ (by omega)]; omega
    have hz2 : z.toNat = m + 1 := by omega
    have hz3 : IntKind.i64.wrap (z + 1) = ((m + 1 + 1 : Nat) : Int) := by rw [hz, IntWalk.i64_in _ (by omega)]; omega
    have hz4 : 0 ≤ z := by omega
    have hz5 : z < cs.length := by omega
    have Hz := Lib.hid hz
    rw [← hz] at hpr ⊢
    clear hz haa hki hlt hk
    have n1 : ¬ c < a := by omega
    by_cases h5 : a < 55296
    ·have n2 : ¬ 57343 < c := by omega
     go_wp2_with fail
     exact ⟨⟨m + 1 + 1, by omega, by trivial, by trivial⟩, by rw [Hz.out]; simp [intOf]; omega⟩
    ·go_wp2_with fail
     exact ⟨⟨m + 1 + 1, by omega, by trivial, by trivial⟩, by rw [Hz.out]; simp [intOf]; omega⟩
   ·have hpr : ((k : Nat) : Int).tmod 2 = 0 := by rw [Int.tmod_eq_emod_of_nonneg (by omega)]; omega
    by_cases h0 : k = 0
    ·subst h0
     go_wp2_with fail
     exact ⟨⟨1, by omega, by trivial, by trivial⟩, by simp [intOf]; omega⟩
    ·obtain ⟨m, rfl⟩ : ∃ m, k = m + 1 := ⟨k - 1, by omega⟩
     obtain ⟨a, haa⟩ : ∃ a, cs[m]? = some a := ⟨_, List.getElem?_eq_getElem (by omega)⟩
     have ca := ownsRow_cell Hrow.out rfl m (by omega)
     rw [List.getElem?_map, haa] at ca
     simp only [Option.map_some, runeV] at ca
     have g1 := (Hat.out m a c haa Hcc.out).2 (by omega)
     have hra := Hr.out m a haa
     obtain ⟨z, hz⟩ : ∃ z : Int, z = ((m + 1 : Nat) : Int) := ⟨_, rfl⟩
     have hz1 : IntKind.i64.wrap (z - 1) = (m : Int) := by rw [hz, IntWalk.i64_in _ (by omega)]; omega
     have hz2 : z.toNat = m + 1 := by omega
     have hz3 : IntKind.i64.wrap (z + 1) = ((m + 1 + 1 : Nat) : Int) := by rw [hz, IntWalk.i64_in _ (by omega)]; omega
     have hz4 : 0 < z := by omega
     have hz5 : z < cs.length := by omega
     have ha2 : IntKind.i32.wrap (a + 2) = a + 2 := by simp [IntKind.wrap, IntKind.bits, IntKind.signed]; omega
     have Hz := Lib.hid hz
     rw [← hz] at hpr ⊢
     clear hz haa hki hlt hk h0
     have n1 : ¬ c < a + 2 := by omega
     go_wp2_with fail
     exact ⟨⟨m + 1 + 1, by omega, by trivial, by trivial⟩, by rw [Hz.out]; simp [intOf]; omega⟩
  ·obtain rfl : k = cs.length := by omega
   have hpr : ((cs.length : Nat) : Int).tmod 2 = 0 := by rw [Int.tmod_eq_emod_of_nonneg (by omega)]; omega
   go_wp2_with fail
   go_ret
   exact ⟨rfl, Hb2.out⟩
def PMay (r : Rx) : Prop := ∀ w : World, Tabs w → Calls Tryz.prog 115 #[nodeV r] w fun e w' => e = .returned .nilIface ∧ Below w.heap.size w w'
theorem PMay.go {r : Rx} (h : PMay r) {w : World} (hT : Tabs w) : Calls Tryz.prog 115 #[nodeV r] w fun e w' => e = .returned .nilIface ∧ Below w.heap.size w w' := h w hT
set_option maxHeartbeats 2000000 in
theorem both_ok {a b : Rx} (ha : PMay a) (hb : PMay b) {w : World} (hT : Tabs w) : Calls Tryz.prog 134 #[nodeV a, nodeV b] w fun e w' => e = .returned .nilIface ∧ Below w.heap.size w w' := by
 have Ha := Lib.hid ha
 have Hb := Lib.hid hb
 have HT := Lib.hid hT
 obtain ⟨ta, xa, hva⟩ := nodeV_iface a
 obtain ⟨tb, xb, hvb⟩ := nodeV_iface b
 rw [hva, hvb]
 have Hva := Lib.hid hva
 have Hvb := Lib.hid hvb
 clear hva hvb ha hb hT
 go_enter Tryz.func134, Tryz.ntmps134
 go_wp2_with fail
 rw [← Hva.out]
 (with_reducible refine (Ha.out.go HT.out).mono ?_)
 rintro e w1 ⟨rfl, hb1⟩
 rw [Hva.out]
 have Hb1 := Lib.hid hb1
 have HT1 := Lib.hid (HT.out.below hb1)
 clear hb1
 go_wp2_with fail
 rw [← Hvb.out]
 (with_reducible refine (Hb.out.go HT1.out).mono ?_)
 rintro e w2 ⟨rfl, hb2⟩
 rw [Hvb.out]
 have Hb2 := Lib.hid (Hb1.out.trans (hb2.mono Hb1.out.size))
 clear hb2
 go_wp2_with fail
 go_ret
 exact ⟨rfl, Hb2.out⟩
set_option maxHeartbeats 2000000 in
theorem pmay_emp : PMay .emp := by
 intro w hT
 clear hT
 show Calls Tryz.prog 115 #[.iface 182 (.agg #[])] w _
 have T0 := ta_miss (x := 71) (u := 182) Tryz.underlying216 (fun m h => by cases h) (by decide) Tryz.zeroValue216
 have T1 := ta_miss (x := 71) (u := 182) Tryz.underlying213 (fun m h => by cases h) (by decide) Tryz.zeroValue213
 have T2 := ta_miss (x := 71) (u := 182) Tryz.underlying172 (fun m h => by cases h) (by decide) Tryz.zeroValue172
 have T3 := ta_miss (x := 71) (u := 182) Tryz.underlying159 (fun m h => by cases h) (by decide) Tryz.zeroValue159
 have T4 := ta_miss (x := 71) (u := 182) Tryz.underlying174 (fun m h => by cases h) (by decide) Tryz.zeroValue174
 have U0 := ta_hit (x := 71) Tryz.underlying182 (fun m h => by cases h)
 have U1 := ta_miss (x := 71) (u := 182) Tryz.underlying208 (fun m h => by cases h) (by decide) Tryz.zeroValue208
 have U2 := ta_miss (x := 71) (u := 182) Tryz.underlying170 (fun m h => by cases h) (by decide) Tryz.zeroValue170
 have U3 := ta_miss (x := 71) (u := 182) Tryz.underlying171 (fun m h => by cases h) (by decide) Tryz.zeroValue171
 go_enter Tryz.func115, Tryz.ntmps115
 go_wp2_with fail
 go_ret
 exact ⟨rfl, Below.refl _ _⟩
set_option maxHeartbeats 2000000 in
theorem pmay_any : PMay .any := by
 intro w hT
 clear hT
 show Calls Tryz.prog 115 #[.iface 208 (.agg #[])] w _
 have T0 := ta_miss (x := 71) (u := 208) Tryz.underlying216 (fun m h => by cases h) (by decide) Tryz.zeroValue216
 have T1 := ta_miss (x := 71) (u := 208) Tryz.underlying213 (fun m h => by cases h) (by decide) Tryz.zeroValue213
 have T2 := ta_miss (x := 71) (u := 208) Tryz.underlying172 (fun m h => by cases h) (by decide) Tryz.zeroValue172
 have T3 := ta_miss (x := 71) (u := 208) Tryz.underlying159 (fun m h => by cases h) (by decide) Tryz.zeroValue159
 have T4 := ta_miss (x := 71) (u := 208) Tryz.underlying174 (fun m h => by cases h) (by decide) Tryz.zeroValue174
 have U0 := ta_miss (x := 71) (u := 208) Tryz.underlying182 (fun m h => by cases h) (by decide) Tryz.zeroValue182
 have U1 := ta_hit (x := 71) Tryz.underlying208 (fun m h => by cases h)
 have U2 := ta_miss (x := 71) (u := 208) Tryz.underlying170 (fun m h => by cases h) (by decide) Tryz.zeroValue170
 have U3 := ta_miss (x := 71) (u := 208) Tryz.underlying171 (fun m h => by cases h) (by decide) Tryz.zeroValue171
 go_enter Tryz.func115, Tryz.ntmps115
 go_wp2_with fail
 go_ret
 exact ⟨rfl, Below.refl _ _⟩
set_option maxHeartbeats 2000000 in
theorem pmay_beg : PMay .beg := by
 intro w hT
 clear hT
 show Calls Tryz.prog 115 #[.iface 170 (.agg #[])] w _
 have T0 := ta_miss (x := 71) (u := 170) Tryz.underlying216 (fun m h => by cases h) (by decide) Tryz.zeroValue216
 have T1 := ta_miss (x := 71) (u := 170) Tryz.underlying213 (fun m h => by cases h) (by decide) Tryz.zeroValue213
 have T2 := ta_miss (x := 71) (u := 170) Tryz.underlying172 (fun m h => by cases h) (by decide) Tryz.zeroValue172
 have T3 := ta_miss (x := 71) (u := 170) Tryz.underlying159 (fun m h => by cases h) (by decide) Tryz.zeroValue159
 have T4 := ta_miss (x := 71) (u := 170) Tryz.underlying174 (fun m h => by cases h) (by decide) Tryz.zeroValue174
 have U0 := ta_miss (x := 71) (u := 170) Tryz.underlying182 (fun m h => by cases h) (by decide) Tryz.zeroValue182
 have U1 := ta_miss (x := 71) (u := 170) Tryz.underlying208 (fun m h => by cases h) (by decide) Tryz.zeroValue208
 have U2 := ta_hit (x := 71) Tryz.underlying170 (fun m h => by cases h)
 have U3 := ta_miss (x := 71) (u := 170) Tryz.underlying171 (fun m h => by cases h) (by decide) Tryz.zeroValue171
 go_enter Tryz.func115, Tryz.ntmps115
 go_wp2_with fail
 go_ret
 exact ⟨rfl, Below.refl _ _⟩
set_option maxHeartbeats 2000000 in
theorem pmay_fin : PMay .fin := by
 intro w hT
 clear hT
 show Calls Tryz.prog 115 #[.iface 171 (.agg #[])] w _
 have T0 := ta_miss (x := 71) (u := 171) Tryz.underlying216 (fun m h => by cases h) (by decide) Tryz.zeroValue216
 have T1 := ta_miss (x := 71) (u := 171) Tryz.underlying213 (fun m h => by cases h) (by decide) Tryz.zeroValue213
 have T2 := ta_miss (x := 71) (u := 171) Tryz.underlying172 (fun m h => by cases h) (by decide) Tryz.zeroValue172
 have T3 := ta_miss (x := 71) (u := 171) Tryz.underlying159 (fun m h => by cases h) (by decide) Tryz.zeroValue159
 have T4 := ta_miss (x := 71) (u := 171) Tryz.underlying174 (fun m h => by cases h) (by decide) Tryz.zeroValue174
 have U0 := ta_miss (x := 71) (u := 171) Tryz.underlying182 (fun m h => by cases h) (by decide) Tryz.zeroValue182
 have U1 := ta_miss (x := 71) (u := 171) Tryz.underlying208 (fun m h => by cases h) (by decide) Tryz.zeroValue208
 have U2 := ta_miss (x := 71) (u := 171) Tryz.underlying170 (fun m h => by cases h) (by decide) Tryz.zeroValue170
 have U3 := ta_hit (x := 71) Tryz.underlying171 (fun m h => by cases h)
 go_enter Tryz.func115, Tryz.ntmps115
 go_wp2_with fail
 go_ret
 exact ⟨rfl, Below.refl _ _⟩
set_option maxHeartbeats 2000000 in
theorem pmay_chr {c : Int} (hc : isR c = true) : PMay (.chr c) := by
 intro w hT
 clear hT
 show Calls Tryz.prog 115 #[.iface 216 (.agg #[.int .i32 c])] w _
 have T0 := ta_hit (x := 71) Tryz.underlying216 (fun m h => by cases h)
 go_enter Tryz.func115, Tryz.ntmps115
 go_wp2_with fail
 (with_reducible refine (vr_any c _).mono ?_)
 rintro e w1 ⟨rfl, rfl⟩
 rw [hc]
 go_wp2_with fail
 (with_reducible refine (unless_true _).mono ?_)
 rintro e w1 ⟨rfl, rfl⟩
 go_wp2_with fail
 go_ret
 exact ⟨rfl, alloc_below _ _⟩
set_option maxHeartbeats 2000000 in
theorem pmay_set {cs : List Int} (hg : Gaps cs) (hc : ∀ c ∈ cs, isR c = true) (hx : NoX cs) : PMay (.set cs) := by
 intro w hT
 show Calls Tryz.prog 115 #[.iface 213 (.agg #[.string (rngB cs)])] w _
 have Hal := Lib.hid (alloc_below w (.cells #[.string (rngB cs)] 213))
 have HC := Lib.hid (canonical_any hg hc hx (hT.below Hal.out))
 clear hT hg hc hx
 generalize rngB cs = B at *
 have T0 := ta_miss (x := 71) (u := 213) Tryz.underlying216 (fun m h => by cases h) (by decide) Tryz.zeroValue216
 have T1 := ta_hit (x := 71) Tryz.underlying213 (fun m h => by cases h)
 go_enter Tryz.func115, Tryz.ntmps115
 go_wp2_with fail
 (with_reducible refine HC.out.mono ?_)
 rintro e w1 ⟨rfl, hb1⟩
 have Hb1 := Lib.hid (Hal.out.trans (hb1.mono Hal.out.size))
 clear hb1
 go_wp2_with fail
 (with_reducible refine (unless_true _).mono ?_)
 rintro e w2 ⟨rfl, rfl⟩
 go_wp2_with fail
 go_ret
 exact ⟨rfl, Hb1.out⟩
set_option maxHeartbeats 2000000 in
theorem pmay_cat {a b : Rx} (ha : PMay a) (hb : PMay b) : PMay (.cat a b) := by
 intro w hT
 show Calls Tryz.prog 115 #[.iface 172 (.agg #[nodeV a, nodeV b])] w _
 have T0 := ta_miss (x := 71) (u := 172) Tryz.underlying216 (fun m h => by cases h) (by decide) Tryz.zeroValue216
 have T1 := ta_miss (x := 71) (u := 172) Tryz.underlying213 (fun m h => by cases h) (by decide) Tryz.zeroValue213
 have T2 := ta_hit (x := 71) Tryz.underlying172 (fun m h => by cases h)
 obtain ⟨ta, xa, hva⟩ := nodeV_iface a
 obtain ⟨tb, xb, hvb⟩ := nodeV_iface b
 rw [hva, hvb]
 have Hal := Lib.hid (alloc_below w (.cells #[.iface ta xa, .iface tb xb] 172))
 have HC := both_ok ha hb (hT.below Hal.out)
 rw [hva, hvb] at HC
 have HC := Lib.hid HC
 clear hva hvb ha hb hT
 go_enter Tryz.func115, Tryz.ntmps115
 go_wp2_with fail
 (with_reducible refine HC.out.mono ?_)
 rintro e w1 ⟨rfl, hb1⟩
 have Hb1 := Lib.hid (Hal.out.trans (hb1.mono Hal.out.size))
 clear hb1
 go_wp2_with fail
 go_ret
 exact ⟨rfl, Hb1.out⟩
set_option maxHeartbeats 2000000 in
theorem pmay_alt {a b : Rx} (ha : PMay a) (hb : PMay b) : PMay (.alt a b) := by
 intro w hT
 show Calls Tryz.prog 115 #[.iface 159 (.agg #[nodeV a, nodeV b])] w _
 have T0 := ta_miss (x := 71) (u := 159) Tryz.underlying216 (fun m h => by cases h) (by decide) Tryz.zeroValue216
 have T1 := ta_miss (x := 71) (u := 159) Tryz.underlying213 (fun m h => by cases h) (by decide) Tryz.zeroValue213
 have T2 := ta_miss (x := 71) (u := 159) Tryz.underlying172 (fun m h => by cases h) (by decide) Tryz.zeroValue172
 have T3 := ta_hit (x := 71) Tryz.underlying159 (fun m h => by cases h)
 obtain ⟨ta, xa, hva⟩ := nodeV_iface a
 obtain ⟨tb, xb, hvb⟩ := nodeV_iface b
 rw [hva, hvb]
 have Hal := Lib.hid (alloc_below w (.cells #[.iface ta xa, .iface tb xb] 159))
 have HC := both_ok ha hb (hT.below Hal.out)
 rw [hva, hvb] at HC
 have HC := Lib.hid HC
 clear hva hvb ha hb hT
 go_enter Tryz.func115, Tryz.ntmps115
 go_wp2_with fail
 (with_reducible refine HC.out.mono ?_)
 rintro e w1 ⟨rfl, hb1⟩
 have Hb1 := Lib.hid (Hal.out.trans (hb1.mono Hal.out.size))
 clear hb1
 go_wp2_with fail
 go_ret
 exact ⟨rfl, Hb1.out⟩
set_option maxHeartbeats 8000000 in
set_option maxRecDepth 100000 in
theorem pmay_rep {a : Rx} {mn mx : Int} (ha : PMay a) (h1 : 0 ≤ mn) (h2 : mn ≤ 1000) (h3 : mx = -1 ∨ (mn ≤ mx ∧ mx ≤ 1000)) : PMay (.rep a mn mx) := by
 intro w hT
 show Calls Tryz.prog 115 #[.iface 174 (.agg #[nodeV a, .int .i64 mn, .int .i64 mx])] w _
 have T0 := ta_miss (x := 71) (u := 174) Tryz.underlying216 (fun m h => by cases h) (by decide) Tryz.zeroValue216
 have T1 := ta_miss (x := 71) (u := 174) Tryz.underlying213 (fun m h => by cases h) (by decide) Tryz.zeroValue213
 have T2 := ta_miss (x := 71) (u := 174) Tryz.underlying172 (fun m h => by cases h) (by decide) Tryz.zeroValue172
 have T3 := ta_miss (x := 71) (u := 174) Tryz.underlying159 (fun m h => by cases h) (by decide) Tryz.zeroValue159
 have T4 := ta_hit (x := 71) Tryz.underlying174 (fun m h => by cases h)
 obtain ⟨ta, xa, hva⟩ := nodeV_iface a
 rw [hva]
 have Hal := Lib.hid (alloc_below w (.cells #[.iface ta xa, .int .i64 mn, .int .i64 mx] 174))
 have Hbx := Lib.hid (heap_alloc_new w (.cells #[.iface ta xa, .int .i64 mn, .int .i64 mx] 174))
 have HC := ha.go (hT.below Hal.out)
 rw [hva] at HC
 have HC := Lib.hid HC
 clear hva ha hT
 go_enter Tryz.func115, Tryz.ntmps115
 go_wp2_with fail
 (with_reducible refine HC.out.mono ?_)
 rintro e w1 ⟨rfl, hb1⟩
 have Hbx2 := (hb1.block _ (lt_of_heap Hbx.out)).trans Hbx.out
 have d1 := row_cell Hbx2 (j := 1) (u := .int .i64 mn) rfl
 have d2 := row_cell Hbx2 (j := 2) (u := .int .i64 mx) rfl
 have Hb1 := Lib.hid (Hal.out.trans (hb1.mono Hal.out.size))
 clear hb1 Hbx2 HC
 rcases h3 with rfl | ⟨h3, h4⟩
 ·go_wp2_with fail
  (with_reducible refine (unless_true _).mono ?_)
  rintro e w2 ⟨rfl, rfl⟩
  go_wp2_with fail
  go_ret
  exact ⟨rfl, Hb1.out⟩
 ·have n1 : (mx == -1) = false := by
   have : mx ≠ -1 := by omega
   simpa using this
  go_wp2_with fail
  (with_reducible refine (unless_true _).mono ?_)
  rintro e w2 ⟨rfl, rfl⟩
  go_wp2_with fail
  go_ret
  exact ⟨rfl, Hb1.out⟩
theorem pmay_all : ∀ (r : Rx), r.ok → r.nox → PMay r
 | .emp, _, _ => pmay_emp
 | .chr c, h, _ => pmay_chr h
 | .any, _, _ => pmay_any
 | .set cs, h, k => pmay_set h.1 h.2 k
 | .beg, _, _ => pmay_beg
 | .fin, _, _ => pmay_fin
 | .cat a b, h, k => pmay_cat (pmay_all a h.1 k.1) (pmay_all b h.2 k.2)
 | .alt a b, h, k => pmay_alt (pmay_all a h.1 k.1) (pmay_all b h.2 k.2)
 | .rep a mn mx, h, k => pmay_rep (pmay_all a h.1 k) h.2.1 h.2.2.1 h.2.2.2
end Go.Proofs.YthhnmpkgleelfaaGreatDoor
