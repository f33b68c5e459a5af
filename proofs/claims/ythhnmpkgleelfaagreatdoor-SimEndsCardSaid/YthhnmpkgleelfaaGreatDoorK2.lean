import Derived.Test.YthhnmpkgleelfaaGreatDoorK1
import Derived.Maps.AppendAt
import Derived.Deep.AppendLies
import Derived.RegionTactic
import Derived.OwnWalk
import Derived.Deep.RegionLaw
import Derived.Laws.MakeOwn
import Derived.Laws.OwnMore
import Derived.Laws.CopyOwn
import Derived.Great.BuildSlice
import Derived.RangeFuncFrom
set_option linter.unusedVariables false
set_option linter.unusedSimpArgs false
namespace Go.Proofs.YthhnmpkgleelfaaGreatDoor
open Go.RowKit
def Bs (w : World) (v : Value) (xs : List UInt8) : Prop :=
 xs.length ≤ 9223372036854775807 ∧ ∃ A c, v = .slice A xs.length c ∧ xs.length ≤ c ∧ (0 < xs.length → ∃ b o, A = some ⟨b, o, none⟩ ∧ ∀ i, i < xs.length → w.cell? ⟨b, o + i, none⟩ = some (.int .u8 (byteAt xs i)))
theorem Bs.drewN {w : World} {v : Value} {xs : List UInt8} (h : Bs w v xs) (m : Nat) : Bs (w.drewN m) v xs := h
theorem Bs.below {w w' : World} {v : Value} {xs : List UInt8} (h : Bs w v xs) (hb : Below w.heap.size w w') : Bs w' v xs := by
 obtain ⟨hm, A, c, e, hc, hcell⟩ := h
 refine ⟨hm, A, c, e, hc, fun h0 => ?_⟩
 obtain ⟨b, o, e, hcl⟩ := hcell h0
 exact ⟨b, o, e, fun i hi => cell_later hb (hcl i hi)⟩
theorem Bs.cut {w : World} {b o c : Nat} {xs : List UInt8} (h : Bs w (.slice (some ⟨b, o, none⟩) xs.length c) xs) {k : Nat} (hk : k ≤ xs.length) :
  Bs w (.slice (some ⟨b, o + k, none⟩) (xs.length - k) (c - k)) (xs.drop k) := by
 obtain ⟨hm, A, c', e, hc, hcell⟩ := h
 injection e with e1 e2 e3
 subst e1 e3
 refine ⟨by simp; omega, _, _, by rw [List.length_drop], by simp; omega, fun h => ⟨b, o + k, rfl, fun i hi => ?_⟩⟩
 simp at h hi
 obtain ⟨b', o', e, hc'⟩ := hcell (by omega)
 injection e with e; injection e with e e'; subst e e'
 rw [Nat.add_assoc, byteAt_drop]; exact hc' (k + i) (by omega)
theorem info5 : (Tryz.prog.info? 5).map (fun i => (i.zero, i.size, i.bytes)) = some (some (.int .u8 0), 1, 1) := by kernel_rfl
def bv (c : UInt8) : Value := .int .u8 c.toNat
def bvs (xs : List UInt8) : List Value := xs.map bv
theorem bvs_len (xs : List UInt8) : (bvs xs).length = xs.length := by simp [bvs]
theorem bvs_append (xs ys : List UInt8) : bvs (xs ++ ys) = bvs xs ++ bvs ys := by simp [bvs]
theorem bvs_one (xs : List UInt8) : ∀ u ∈ bvs xs, u.oneCell' = true := by
 intro u hu; obtain ⟨c, _, rfl⟩ := List.mem_map.1 hu; rfl
theorem bvs_get (xs : List UInt8) (i : Nat) (h : i < xs.length) : (bvs xs)[i]? = some (.int .u8 (byteAt xs i)) := by
 simp [bvs, bv, byteAt, List.getElem?_eq_getElem h]
def OwnB (w : World) (base : Nat) (v : Value) (ys : List UInt8) : Prop := w.ownsRow base 5 1 v ys.length (bvs ys)
theorem Bs.cellsAt {w : World} {ad : Addr} {m c : Nat} {xs : List UInt8} (hr : Bs w (.slice (some ad) m c) xs) : m = xs.length ∧ ∀ j u, (bvs xs)[j]? = some u → w.cell? (ad.add j) = some u := by
 obtain ⟨_, A, c', e, _, hc⟩ := hr
 injection e with e1 e2 e3
 refine ⟨e2, fun j u hu => ?_⟩
 have hj : j < xs.length := by have := (List.getElem?_eq_some_iff.1 hu).1; rwa [bvs_len] at this
 obtain ⟨b, o, e, hcl⟩ := hc (by omega)
 rw [← e1] at e
 injection e with e
 subst e
 rw [bvs_get xs j hj] at hu
 injection hu with hu
 subst hu
 have := hcl j hj
 unfold Addr.add
 split
 ·rename_i h0; subst h0; simpa using this
 ·exact this
theorem run_append_nil (w : World) (base : Nat) (ty : TypeId) (v : Value) (n : Nat) (xs : List Value) (hown : w.ownsRow base 5 1 v n xs) (c : Nat) :
  (Builtin.append_ #[54, 54] ty #[v, .slice none 0 c]).run Tryz.prog w = .ok v w := by
 obtain ⟨i0, hi, hz0, hz1, hz2⟩ := info_parts info5
 rcases hown.2 with ⟨rfl, rfl⟩ | ⟨g, cap, cur, rfl, _, _, hnc, _⟩
 ·simp [Builtin.append_, run_underlying Tryz.underlying54, sizeOf, typeInfo, hi, Builtin.lenOf, Builtin.firstCells]
 ·simp [Builtin.append_, run_underlying Tryz.underlying54, sizeOf, typeInfo, hi, Builtin.lenOf, Builtin.firstCells, hnc, storeCells]
theorem run_append_bs (w : World) (base : Nat) (ty : TypeId) (v u : Value) (ys xs : List UInt8) (hown : OwnB w base v ys) (hr : Bs w u xs) (hlen : ys.length + xs.length ≤ 140737488355328) (hbase : base ≤ w.heap.size) :
  ∃ v' w', (Builtin.append_ #[54, 54] ty #[v, u]).run Tryz.prog w = .ok v' w' ∧ OwnB w' base v' (ys ++ xs) ∧ w.grownBy w' v.ownBlock ∧ (v'.ownBlock = v.ownBlock ∨ v'.ownBlock = some w.heap.size) := by
 obtain ⟨i0, hi, hz0, hz1, hz2⟩ := info_parts info5
 have hr' := hr
 obtain ⟨_, A, c, rfl, hc, _⟩ := hr'
 cases A with
 | none =>
  obtain rfl : xs = [] := by
   obtain ⟨_, A', c', e, _, hcell⟩ := hr
   rcases Nat.eq_zero_or_pos xs.length with h0 | h0
   ·exact List.eq_nil_of_length_eq_zero h0
   ·obtain ⟨b, o, e', _⟩ := hcell h0
    exact absurd ((Value.slice.inj e).1.trans e') (fun h => by cases h)
  have h0 := run_append_nil w base ty v ys.length (bvs ys) hown c
  refine ⟨v, w, ?_, ?_, World.grownBy.refl w _, .inl rfl⟩
  ·exact h0
  ·rw [List.append_nil]; exact hown
 | some ad =>
  obtain ⟨_, hcells⟩ := hr.cellsAt
  obtain ⟨v', w', hrun, h2, h3, _, h5⟩ := run_append_own_at (P := Tryz.prog) w base 54 ty 5 i0 (.int .u8 0) 1 1 Tryz.underlying54 hi hz0 hz1 hz2 rfl (by decide) v ys.length (bvs ys) hown ad xs.length c (bvs xs)
   (by rw [bvs_len]; omega) hcells (bvs_one xs) (by unfold maxLen; omega) (by omega) hbase
  exact ⟨v', w', hrun, by unfold OwnB; rw [bvs_append, List.length_append]; exact h2, h3, h5⟩
theorem wp_append_bs {o : Oper} {a : Act} {K : Act → World → Prop} {Q : Exit → Act → World → Prop} (w : World) (s x : Operand)
  (ho : o.op = .call { callee := .builtin .append, args := #[s, x], argTypes := #[54, 54] })
  (base : Nat) (v u : Value) (ys xs : List UInt8) (hs : a.eval s = v) (hown : OwnB w base v ys) (hx : a.eval x = u) (hr : Bs w u xs)
  (hlen : ys.length + xs.length ≤ 140737488355328) (hbase : base ≤ w.heap.size)
  (h : ∀ v' w', OwnB w' base v' (ys ++ xs) → w.grownBy w' v.ownBlock → (v'.ownBlock = v.ownBlock ∨ v'.ownBlock = some w.heap.size) → K (a.put o.dst v') w') : o.wp Tryz.prog a w K Q := by
 obtain ⟨v', w', hrun, h2, h3, h4⟩ := run_append_bs w base o.type v u ys xs hown hr hlen hbase
 unfold Oper.wp execOp
 simp only [ho, resolve, invoke, builtin, Sem.run_bind, Sem.run_pure, Result.andThen_ok, List.map_toArray, List.map_cons, List.map_nil, hs, hx, hrun]
 exact h v' w' h2 h3 h4
theorem wpList_append_bs {ops : Array Oper} {rest : List Oper} {o : Oper} {a : Act} {Q : Exit → Act → World → Prop} {w : World} (hgd : o.guard = none) (s x : Operand)
  (ho : o.op = .call { callee := .builtin .append, args := #[s, x], argTypes := #[54, 54] })
  (base : Nat) (v u : Value) (ys xs : List UInt8) (hs : a.eval s = v) (hown : OwnB w base v ys) (hx : a.eval x = u) (hr : Bs w u xs)
  (hlen : ys.length + xs.length ≤ 140737488355328) (hbase : base ≤ w.heap.size)
  (h : ∀ v' w', OwnB w' base v' (ys ++ xs) → w.grownBy w' v.ownBlock → (v'.ownBlock = v.ownBlock ∨ v'.ownBlock = some w.heap.size) → wpList Tryz.prog ops Q rest (a.put o.dst v') w') : wpList Tryz.prog ops Q (o :: rest) a w :=
 wpList_plain hgd fun _ hK => wp_append_bs w s x ho base v u ys xs hs hown hx hr hlen hbase fun v' w' h2 h3 h4 => hK _ _ (h v' w' h2 h3 h4)
theorem step_append_bs {ops : Array Oper} {o : Oper} {a : Act} {K : Act → World → Prop} {Q : Exit → Act → World → Prop} {E : Prop} {w : World} (hgd : o.guard = none) (s x : Operand)
  (ho : o.op = .call { callee := .builtin .append, args := #[s, x], argTypes := #[54, 54] })
  (base : Nat) (v u : Value) (ys xs : List UInt8) (hs : a.eval s = v) (hown : OwnB w base v ys) (hx : a.eval x = u) (hr : Bs w u xs)
  (hlen : ys.length + xs.length ≤ 140737488355328) (hbase : base ≤ w.heap.size)
  (h : ∀ v' w', OwnB w' base v' (ys ++ xs) → w.grownBy w' v.ownBlock → (v'.ownBlock = v.ownBlock ∨ v'.ownBlock = some w.heap.size) → K (a.put o.dst v') w') :
  if Region.wanted o (yielded ops a.tmps) = true then Oper.wp Tryz.prog o a w K Q else E := by
 have hw : Region.wanted o (yielded ops a.tmps) = true := by simp [Region.wanted, hgd]
 rw [if_pos hw]
 exact wp_append_bs w s x ho base v u ys xs hs hown hx hr hlen hbase h
theorem OwnB.bs {w : World} {base : Nat} {v : Value} {ys : List UInt8} (h : OwnB w base v ys) : Bs w v ys := by
 obtain ⟨_, ⟨rfl, h0⟩ | ⟨g, cap, cur, rfl, _, hg, hn, hm, hs, ht⟩⟩ := h
 ·exact ⟨by omega, none, 0, by rw [h0], by omega, fun h => by omega⟩
 ·refine ⟨by unfold maxLen at hm; omega, some ⟨g, 0, none⟩, cap, rfl, hn, fun _ => ⟨g, 0, rfl, fun i hi => ?_⟩⟩
  rw [Nat.zero_add]
  have e := bvs_get ys i hi
  rw [← ht, List.getElem?_take] at e
  rw [if_pos (by omega)] at e
  simp [World.cell?, hg]
  simpa using e
theorem OwnB.below {w w' : World} {base B : Nat} {v : Value} {ys : List UInt8} (h : OwnB w base v ys) (hb : Below B w w') (hB : w.heap.size ≤ B) : OwnB w' base v ys := by
 obtain ⟨h1, ⟨rfl, h0⟩ | ⟨g, cap, cur, rfl, hbg, hg, r⟩⟩ := h
 ·exact ⟨h1, .inl ⟨rfl, h0⟩⟩
 ·exact ⟨h1, .inr ⟨g, cap, cur, rfl, hbg, (hb.block g (Nat.lt_of_lt_of_le (lt_of_heap hg) hB)).trans hg, r⟩⟩
theorem OwnB.drewN {w : World} {base : Nat} {v : Value} {ys : List UInt8} (h : OwnB w base v ys) (m : Nat) : OwnB (w.drewN m) base v ys := h
theorem OwnB.low {w : World} {base base' : Nat} {v : Value} {ys : List UInt8} (h : OwnB w base v ys) (hb : base' ≤ base) : OwnB w base' v ys := by
 obtain ⟨h1, ⟨rfl, h0⟩ | ⟨g, cap, cur, rfl, hbg, r⟩⟩ := h
 ·exact ⟨h1, .inl ⟨rfl, h0⟩⟩
 ·exact ⟨h1, .inr ⟨g, cap, cur, rfl, Nat.le_trans hb hbg, r⟩⟩
theorem OwnB.grown {w w' : World} {base : Nat} {v : Value} {ys : List UInt8} {row : Option Nat} (h : OwnB w base v ys) (hg : w.grownBy w' row) (hr : ∀ g, v.ownBlock = some g → row ≠ some g) : OwnB w' base v ys := by
 obtain ⟨h1, ⟨rfl, h0⟩ | ⟨g, cap, cur, rfl, hbg, hh, r⟩⟩ := h
 ·exact ⟨h1, .inl ⟨rfl, h0⟩⟩
 ·exact ⟨h1, .inr ⟨g, cap, cur, rfl, hbg, (hg.block g (lt_of_heap hh) (fun e => hr g rfl e.symm)).trans hh, r⟩⟩
theorem OwnB.nil (w : World) (base : Nat) : OwnB w base (.slice none 0 0) [] := ⟨rfl, .inl ⟨rfl, rfl⟩⟩
theorem blw_drewN {B : Nat} {a w : World} (h : Below B a w) (n : Nat) : Below B a (w.drewN n) := ⟨h.os, h.tape, h.output, h.size, h.block⟩
theorem string_of_bs {w : World} {v : Value} {xs : List UInt8} (h : Bs w v xs) : (convert 54 9 v).run Tryz.prog w = .ok (.string ⟨xs.toArray⟩) w := by
 obtain ⟨hm, A, c, rfl, hc, hcell⟩ := h
 rcases Nat.eq_zero_or_pos xs.length with h0 | h0
 ·obtain rfl : xs = [] := List.eq_nil_of_length_eq_zero h0
  rw [run_convert_bytes_string w 54 9 5 A _ c Tryz.underlying54 Tryz.underlying5 Tryz.underlying9]
  cases A with
  | none => simp [Conv.bytesToString]; rfl
  | some a => simp [Conv.bytesToString, loadCells, loadCellsFrom]; rfl
 ·obtain ⟨b, o, rfl, hcl⟩ := hcell h0
  refine run_convert_bytes_back w 54 9 5 ⟨b, o, none⟩ c xs Tryz.underlying54 Tryz.underlying5 Tryz.underlying9 fun j hj => ?_
  have := hcl j hj
  unfold Addr.add
  split
  ·rename_i h; subst h; simpa [byteAt, List.getElem?_eq_getElem hj] using this
  ·simpa [byteAt, List.getElem?_eq_getElem hj] using this
theorem bs_lit {W : World} {g c : Nat} {z : Nat × Nat} (xs : List UInt8) (hm : xs.length ≤ 9223372036854775807) (hc : xs.length ≤ c) (hg : W.heap[g]? = some (.cells (bvs xs).toArray 5 z)) : Bs W (.slice (some ⟨g, 0, none⟩) xs.length c) xs := by
 refine ⟨hm, _, c, rfl, hc, fun _ => ⟨g, 0, rfl, fun i hi => ?_⟩⟩
 have := bvs_get xs i hi
 simp only [World.cell?, hg, Nat.zero_add]
 simpa using this
theorem alloc_below (w : World) (o : Obj) : Below w.heap.size w (w.alloc o) := (Below.refl _ _).alloc (Nat.le_refl _) _
structure ElemOk (t e : TypeId) (z : Value) (B : Nat) : Prop where
 ht : Tryz.prog.underlying t = some (.slice e)
 hi : (Tryz.prog.info? e).map (fun i => (i.zero, i.size, i.bytes)) = some (some z, 1, B)
 hz : z.cells.size = 1
theorem setRow_grown (w : World) (g : Nat) (cs : Array Value) : w.grownBy (w.setRow g cs) (some g) :=
 ⟨rfl, rfl, rfl, by simp, fun k _ hk => setRow_other w g k cs (fun e => hk (by simp [e]))⟩
end Go.Proofs.YthhnmpkgleelfaaGreatDoor
