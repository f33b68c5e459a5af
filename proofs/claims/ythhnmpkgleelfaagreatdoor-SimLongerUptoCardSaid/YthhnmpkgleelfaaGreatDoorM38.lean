import Derived.Test.YthhnmpkgleelfaaGreatDoorM37
import Derived.Shelf.SlSortCmp.WholeK
import Derived.Shelf.SlicesE.Clone
import Derived.Laws.Cover4
import Derived.Deep.Cut
import Derived.Deep.CutBlock
set_option linter.unusedVariables false
set_option linter.unusedSimpArgs false
namespace Go.Proofs.YthhnmpkgleelfaaGreatDoor
open Go.RowKit Go.Shelf Go.Lib Go.Sort
abbrev Spn := {p : Int × Int // 0 ≤ p.1 ∧ p.1 ≤ 1114111}
instance : Inhabited Spn := ⟨⟨(0, 0), by decide⟩⟩
def encS (p : Spn) : List Value := [.int .i32 p.1.1, .int .i32 p.1.2]
def cfS (x y : Spn) : Int := x.1.1 - y.1.1
theorem ltS (x y : Spn) : ltOf cfS x y = decide (x.1.1 < y.1.1) := by
 unfold ltOf cfS
 by_cases h : x.1.1 < y.1.1
 ·rw [decide_eq_true h, decide_eq_true (by omega)]
 ·rw [decide_eq_false h, decide_eq_false (by omega)]
theorem swoS : SWO (ltOf cfS) where
 irrefl x := by rw [ltS]; simp
 trans x y z h1 h2 := by rw [ltS] at *; simp at *; omega
 ntrans x y z h1 h2 := by rw [ltS] at *; simp at *; omega
set_option maxHeartbeats 1000000 in
theorem cmpS_any (x y : Spn) (w : World) : Calls Tryz.prog 168 #[.agg #[.int .i32 x.1.1, .int .i32 x.1.2], .agg #[.int .i32 y.1.1, .int .i32 y.1.2]] w fun e w' => e = .returned (.int .i64 (cfS x y)) ∧ ∃ q os', w' = grow (w.drewN q) os' := by
 obtain ⟨⟨x1, x2⟩, hx1, hx2⟩ := x
 obtain ⟨⟨y1, y2⟩, hy1, hy2⟩ := y
 have hc : cfS ⟨(x1, x2), hx1, hx2⟩ ⟨(y1, y2), hy1, hy2⟩ = x1 - y1 := rfl
 rw [hc]
 clear hc
 dsimp only at *
 go_enter Tryz.func168, Tryz.ntmps168
 go_wp2_with fail
 go_ret
 exact ⟨rfl, 0, _, by rw [alloc_eq_grow, alloc_eq_grow, grow_grow]; rfl⟩
theorem cmpLaysS (blk off size : Nat) (w : World) : CmpLays Tryz.prog 168 #[] encS 2 cfS blk off size w := fun _ _ _ _ x y => cmpS_any x y _
def laysSort_ren : Go.Shelf.Ren := ⟨fun | 6 => 167 | 15 => 177 | 14 => 176 | 28 => 192 | 29 => 193 | 20 => 184 | 21 => 185 | 22 => 186 | 23 => 187 | 24 => 188 | 25 => 189 | 26 => 190 | 27 => 191 | 46 => 199 | 47 => 200 | 48 => 201 | 49 => 202 | 50 => 203 | 57 => 209 | n => n, fun | 22 => 209 | 24 => 236 | 25 => 246 | 3 => 3 | 39 => 176 | 0 => 0 | 53 => 258 | 55 => 138 | 4 => 4 | 46 => 262 | 45 => 261 | 50 => 205 | 5 => 5 | 9 => 9 | 66 => 273 | 70 => 277 | 76 => 282 | 77 => 192 | n => n, fun | n => n⟩
theorem laysSort : Go.Proofs.SlLaysF0.n6 Tryz.prog laysSort_ren := {
 mixed := by kernel_rfl
 f6 := ⟨"slices.SortFunc[[]wicket/rex.span,wicket/rex.span]", by decide, Tryz.func167.trans (congrArg some (by kernel_rfl))⟩
 f14 := ⟨"slices.pdqsortCmpFunc[wicket/rex.span]", by decide, Tryz.func176.trans (congrArg some (by kernel_rfl))⟩
 f15 := Tryz.func177.trans (congrArg some (by kernel_rfl))
 f20 := ⟨"slices.insertionSortCmpFunc[wicket/rex.span]", by decide, Tryz.func184.trans (congrArg some (by kernel_rfl))⟩
 f21 := ⟨"slices.heapSortCmpFunc[wicket/rex.span]", by decide, Tryz.func185.trans (congrArg some (by kernel_rfl))⟩
 f22 := ⟨"slices.breakPatternsCmpFunc[wicket/rex.span]", by decide, Tryz.func186.trans (congrArg some (by kernel_rfl))⟩
 f23 := ⟨"slices.choosePivotCmpFunc[wicket/rex.span]", by decide, Tryz.func187.trans (congrArg some (by kernel_rfl))⟩
 f24 := ⟨"slices.reverseRangeCmpFunc[wicket/rex.span]", by decide, Tryz.func188.trans (congrArg some (by kernel_rfl))⟩
 f25 := ⟨"slices.partialInsertionSortCmpFunc[wicket/rex.span]", by decide, Tryz.func189.trans (congrArg some (by kernel_rfl))⟩
 f26 := ⟨"slices.partitionEqualCmpFunc[wicket/rex.span]", by decide, Tryz.func190.trans (congrArg some (by kernel_rfl))⟩
 f27 := ⟨"slices.partitionCmpFunc[wicket/rex.span]", by decide, Tryz.func191.trans (congrArg some (by kernel_rfl))⟩
 f28 := Tryz.func192.trans (congrArg some (by kernel_rfl))
 f29 := Tryz.func193.trans (congrArg some (by kernel_rfl))
 f46 := ⟨"slices.siftDownCmpFunc[wicket/rex.span]", by decide, Tryz.func199.trans (congrArg some (by kernel_rfl))⟩
 f47 := Tryz.func200.trans (congrArg some (by kernel_rfl))
 f48 := Tryz.func201.trans (congrArg some (by kernel_rfl))
 f49 := ⟨"slices.medianAdjacentCmpFunc[wicket/rex.span]", by decide, Tryz.func202.trans (congrArg some (by kernel_rfl))⟩
 f50 := ⟨"slices.medianCmpFunc[wicket/rex.span]", by decide, Tryz.func203.trans (congrArg some (by kernel_rfl))⟩
 f57 := ⟨"slices.order2CmpFunc[wicket/rex.span]", by decide, Tryz.func209.trans (congrArg some (by kernel_rfl))⟩
 t0 := Tryz.underlying0
 a0 := Tryz.isAgg0
 z0 := Tryz.sizeOf0
 v0 := Tryz.zeroValue0
 t3 := Tryz.underlying3
 a3 := Tryz.isAgg3
 z3 := Tryz.sizeOf3
 v3 := Tryz.zeroValue3
 t4 := Tryz.underlying4
 a4 := Tryz.isAgg4
 z4 := Tryz.sizeOf4
 v4 := Tryz.zeroValue4
 t5 := Tryz.underlying5
 a5 := Tryz.isAgg5
 z5 := Tryz.sizeOf5
 v5 := Tryz.zeroValue5
 t9 := Tryz.underlying9
 a9 := Tryz.isAgg9
 z9 := Tryz.sizeOf9
 v9 := Tryz.zeroValue9
 t22 := Tryz.underlying209
 a22 := Tryz.isAgg209
 z22 := Tryz.sizeOf209
 v22 := Tryz.zeroValue209
 t25 := Tryz.underlying246
 a25 := Tryz.isAgg246
 z25 := Tryz.sizeOf246
 v25 := Tryz.zeroValue246
 t39 := Tryz.underlying176
 a39 := Tryz.isAgg176
 z39 := Tryz.sizeOf176
 v39 := Tryz.zeroValue176
 t45 := Tryz.underlying261
 a45 := Tryz.isAgg261
 z45 := Tryz.sizeOf261
 v45 := Tryz.zeroValue261
 t46 := Tryz.underlying262
 a46 := Tryz.isAgg262
 z46 := Tryz.sizeOf262
 v46 := Tryz.zeroValue262
 t50 := Tryz.underlying205
 a50 := Tryz.isAgg205
 z50 := Tryz.sizeOf205
 v50 := Tryz.zeroValue205
 t53 := Tryz.underlying258
 a53 := Tryz.isAgg258
 z53 := Tryz.sizeOf258
 v53 := Tryz.zeroValue258
 t55 := Tryz.underlying138
 a55 := Tryz.isAgg138
 z55 := Tryz.sizeOf138
 v55 := Tryz.zeroValue138
 t66 := Tryz.underlying273
 a66 := Tryz.isAgg273
 z66 := Tryz.sizeOf273
 v66 := Tryz.zeroValue273
 t70 := Tryz.underlying277
 a70 := Tryz.isAgg277
 z70 := Tryz.sizeOf277
 v70 := Tryz.zeroValue277
 t76 := Tryz.underlying282
 a76 := Tryz.isAgg282
 z76 := Tryz.sizeOf282
 v76 := Tryz.zeroValue282
 t77 := Tryz.underlying192
 a77 := Tryz.isAgg192
 z77 := Tryz.sizeOf192
 v77 := Tryz.zeroValue192 }
def laysClone_ren : Go.Shelf.Ren := ⟨fun | 41 => 155 | n => n, fun | 22 => 209 | 23 => 236 | 4 => 4 | n => n, fun | n => n⟩
theorem laysClone : Go.Proofs.SlLaysE0.n41 Tryz.prog laysClone_ren := {
 mixed := by kernel_rfl
 f41 := ⟨"slices.Clone[[]wicket/rex.span,wicket/rex.span]", by decide, Tryz.func155.trans (congrArg some (by kernel_rfl))⟩
 t4 := Tryz.underlying4
 a4 := Tryz.isAgg4
 z4 := Tryz.sizeOf4
 v4 := Tryz.zeroValue4
 t22 := Tryz.underlying209
 a22 := Tryz.isAgg209
 z22 := Tryz.sizeOf209
 v22 := Tryz.zeroValue209 }
theorem flatS_at : ∀ (L : Spans) (i : Nat) (p : Int × Int), L[i]? = some p → (flatS L)[2 * i]? = some p.1 ∧ (flatS L)[2 * i + 1]? = some p.2
 | [], i, p, h => by simp at h
 | (a, b) :: L, 0, p, h => by simp at h; subst h; exact ⟨rfl, rfl⟩
 | (a, b) :: L, i + 1, p, h => by
  have ih := flatS_at L i p (by simpa using h)
  rw [show 2 * (i + 1) = 2 * i + 2 by omega]
  exact ih
def RdSp (w : World) (g : Nat) (L : Spans) : Prop := ∀ (i : Nat) (p : Int × Int), L[i]? = some p → w.cell? ⟨g, 2 * i, none⟩ = some (.int .i32 p.1) ∧ w.cell? ⟨g, 2 * i + 1, none⟩ = some (.int .i32 p.2)
theorem SpR.read {w : World} {base g q n : Nat} {L : Spans} (h : SpR w base (.slice (some ⟨g, 0, none⟩) n q) L) : RdSp w g L := by
 intro i p hp
 have hi := (List.getElem?_eq_some_iff.1 hp).1
 obtain ⟨_, _, e, _, _, _⟩ := ownsRow_slice h
 obtain ⟨_, rfl, _⟩ := Value.slice.inj e
 obtain ⟨f1, f2⟩ := flatS_at L i p hp
 constructor
 ·rw [ownsRow_cell h rfl (2 * i) (by omega), List.getElem?_map, f1]; rfl
 ·rw [ownsRow_cell h rfl (2 * i + 1) (by omega), List.getElem?_map, f2]; rfl
theorem RdSp.below {w w' : World} {g : Nat} {L : Spans} (h : RdSp w g L) (hb : Below w.heap.size w w') : RdSp w' g L := fun i p hp => ⟨cell_later hb (h i p hp).1, cell_later hb (h i p hp).2⟩
def toS (p : Int × Int) : Spn := if h : 0 ≤ p.1 ∧ p.1 ≤ 1114111 then ⟨p, h⟩ else default
theorem toS_val {p : Int × Int} (h : 0 ≤ p.1 ∧ p.1 ≤ 1114111) : (toS p).1 = p := by unfold toS; rw [dif_pos h]
def SoP (w : World) (base g : Nat) (L : Spans) (e : Ending) (w' : World) : Prop := ∃ S : Spans, SortedS S ∧ S.Perm L ∧ e = .returned (.tuple #[]) ∧ RdSp w' g S ∧ Below base w w'
theorem get_toS {L : Spans} (hb : BdS L) {i : Nat} {p : Int × Int} (hp : L[i]? = some p) : (((L.map toS).toArray)[i]!).1 = p := by
 have hi := (List.getElem?_eq_some_iff.1 hp).1
 have h0 := hb p (List.mem_of_getElem? hp)
 have e : ((L.map toS).toArray)[i]! = toS p := by
  rw [getElem!_pos _ i (by simpa using hi)]
  simp only [List.getElem_toArray, List.getElem_map]
  congr 1
  have := List.getElem?_eq_getElem hi
  rw [hp] at this
  exact (Option.some.inj this).symm
 rw [e]
 exact toS_val ⟨h0.1, by omega⟩
set_option maxHeartbeats 1000000 in
theorem sort_any {w : World} {base g q : Nat} {L : Spans} (h : SpR w base (.slice (some ⟨g, 0, none⟩) L.length q) L) (hb : BdS L) (hB : base ≤ w.heap.size) (hl : L.length ≤ 1000000) : Calls Tryz.prog 167 #[.slice (some ⟨g, 0, none⟩) L.length q, .func (.func 168) #[] #[]] w fun e w' => SoP w base g L e w' := by
 obtain ⟨d, hd⟩ : ∃ d : Array Spn, (L.map toS).toArray = d := ⟨_, rfl⟩
 have hds : d.size = L.length := by rw [← hd]; simp
 have hdv : ∀ (i : Nat) (p : Int × Int), L[i]? = some p → (d[i]!).1 = p := fun i p hp => by rw [← hd]; exact get_toS hb hp
 obtain ⟨hbg, cur, hcur⟩ := ownsRow_block h rfl
 have hbg : base ≤ g := hbg
 have hrd := h.read
 have hH : HoldsK encS 2 w g 0 d := by
  intro j hj
  rw [size_flatK, hds] at hj
  obtain ⟨p, hp⟩ : ∃ p, L[j / 2]? = some p := ⟨_, List.getElem?_eq_getElem (by omega)⟩
  obtain ⟨c1, c2⟩ := hrd _ _ hp
  refine ⟨?_, row_frozen hcur _⟩
  rw [get_flatK encS 2 d j (by rw [hds]; exact hj)]
  have hv := hdv _ _ hp
  rw [Nat.zero_add]
  rcases Nat.mod_two_eq_zero_or_one j with hm | hm
  ·rw [hm, show j = 2 * (j / 2) by omega]
   rw [show 2 * (j / 2) / 2 = j / 2 by omega, c1]
   unfold encS
   rw [hv]; rfl
  ·rw [hm, show j = 2 * (j / 2) + 1 by omega]
   rw [show (2 * (j / 2) + 1) / 2 = j / 2 by omega, c2]
   unfold encS
   rw [hv]; rfl
 have eg : ∀ args w, (callFunc 168 args).run Tryz.prog w = .ok (.enter 168 args) w := enters_of Tryz.func168 (by kernel_rfl) rfl
 have hcon := AnyQ.slices_SortFunc laysSort 2 Tryz.isAgg236 Tryz.sizeOf236 encS (fun _ => rfl) (fun x v hv => by simp [encS] at hv; rcases hv with rfl | rfl <;> rfl) cfS swoS 168 #[] g 0 q d w eg (cmpLaysS g 0 d.size w) hH (lt_of_heap hcur) (by rw [hds]; omega)
 change Calls Tryz.prog 167 _ _ _ at hcon
 rw [hds] at hcon
 refine hcon.mono ?_
 rintro e w' ⟨rfl, d', n, os, hp, hs, rfl⟩
 have hds' : d'.size = L.length := by rw [hp.1, hds]
 refine ⟨d'.toList.map (·.1), ?_, ?_, rfl, ?_, ?_⟩
 ·unfold SortedS
  rw [List.pairwise_map, List.pairwise_iff_getElem]
  intro i j hi hj hij
  have h1 := hs i j (Nat.zero_le _) hij (by simpa [hds'] using hj)
  rw [ltS] at h1
  rw [getElem!_pos d' i (by simpa using hi), getElem!_pos d' j (by simpa using hj)] at h1
  simp only [Array.getElem_toList]
  simp only [decide_eq_false_iff_not] at h1
  omega
 ·have h1 := hp.2.2
  rw [← hds] at h1
  have e1 : d.extract 0 d.size = d := by simp
  have e2 : d'.extract 0 d.size = d' := by rw [← hp.1]; simp
  rw [e1, e2] at h1
  have h2 := h1.map (·.1)
  have e3 : d.toList.map (·.1) = L := by
   apply List.ext_getElem?
   intro i
   rw [List.getElem?_map]
   by_cases hi : i < L.length
   ·obtain ⟨p, hpi⟩ : ∃ p, L[i]? = some p := ⟨_, List.getElem?_eq_getElem hi⟩
    have hv := hdv i p hpi
    rw [getElem!_pos d i (by omega)] at hv
    rw [hpi, List.getElem?_eq_getElem (by simpa [hds] using hi)]
    simp only [Array.getElem_toList, Option.map_some, hv]
   ·rw [List.getElem?_eq_none (by simpa [hds] using hi), List.getElem?_eq_none (by omega)]
    rfl
  rw [e3] at h2
  exact h2
 ·have hsz : (putRowK encS 2 (Sort.ahead w n) g 0 d').heap.size = w.heap.size := by unfold putRowK putRow mapBlock Sort.ahead; simp
  have hK := holdsK_grow encS 2 (putRowK encS 2 (Sort.ahead w n) g 0 d') os g 0 d' (by rw [hsz]; exact lt_of_heap hcur) (holdsK_putRowK encS 2 (Sort.ahead w n) g 0 d d' (holdsK_ahead encS 2 w n g 0 d hH) hp.1)
  intro i p hpi
  rw [List.getElem?_map] at hpi
  have hi : i < d'.size := by
   have := (List.getElem?_eq_some_iff.1 (show (d'.toList.map (·.1))[i]? = some p by rw [List.getElem?_map]; exact hpi)).1
   simpa using this
  have hv : (d'[i]!).1 = p := by
   rw [List.getElem?_eq_getElem (by simpa using hi)] at hpi
   rw [getElem!_pos d' i hi]
   simpa using hpi
  have k1 := hK.cell hi (show 0 < 2 by decide)
  have k2 := hK.cell hi (show 1 < 2 by decide)
  have e1 : ((encS d'[i]!)[0]! : Value) = .int .i32 p.1 := by unfold encS; rw [hv]; rfl
  have e2 : ((encS d'[i]!)[1]! : Value) = .int .i32 p.2 := by unfold encS; rw [hv]; rfl
  have k3 := k1.1
  have k4 := k2.1
  rw [e1, show 0 + i * 2 + 0 = 2 * i by omega] at k3
  rw [e2, show 0 + i * 2 + 1 = 2 * i + 1 by omega] at k4
  exact ⟨k3, k4⟩
 ·have hg : ∀ k, k < base → (sortWorldK encS 2 w g 0 n d' os).heap[k]? = w.heap[k]? := by
   intro k hk
   unfold sortWorldK
   rw [heap_grow_old _ os (by unfold putRowK putRow mapBlock Sort.ahead; simp; omega)]
   unfold putRowK putRow mapBlock Sort.ahead
   simp only
   rw [Array.getElem?_modify, if_neg (by omega)]
  refine ⟨rfl, rfl, rfl, ?_, hg⟩
  unfold sortWorldK grow putRowK putRow mapBlock Sort.ahead
  simp
theorem infoSpan : (Tryz.prog.info? 236).map (fun i => (i.zero, i.size, i.bytes)) = some (some (.agg #[.int .i32 0, .int .i32 0]), 2, 8) := by kernel_rfl
theorem flatS_one : ∀ (L : Spans), ∀ u ∈ (flatS L).map runeV, u.oneCell' = true := by
 intro L u hu
 obtain ⟨c, _, rfl⟩ := List.mem_map.1 hu
 rfl
theorem flatS_back : ∀ (L : Spans) (j : Nat) (c : Int), (flatS L)[j]? = some c → ∃ p, L[j / 2]? = some p ∧ ((j % 2 = 0 ∧ c = p.1) ∨ (j % 2 = 1 ∧ c = p.2))
 | [], j, c, h => by simp [flatS] at h
 | (a, b) :: L, 0, c, h => by simp [flatS] at h; exact ⟨(a, b), rfl, .inl ⟨rfl, h.symm⟩⟩
 | (a, b) :: L, 1, c, h => by simp [flatS] at h; exact ⟨(a, b), rfl, .inr ⟨rfl, h.symm⟩⟩
 | (a, b) :: L, j + 2, c, h => by
  obtain ⟨p, h1, h2⟩ := flatS_back L j c (by simpa [flatS] using h)
  refine ⟨p, ?_, ?_⟩
  ·rw [show (j + 2) / 2 = j / 2 + 1 by omega]; simpa using h1
  ·rw [show (j + 2) % 2 = j % 2 by omega]; exact h2
theorem RdSp.cells {w : World} {g : Nat} {L : Spans} (h : RdSp w g L) : ∀ j u, ((flatS L).map runeV)[j]? = some u → w.cell? ⟨g, j, none⟩ = some u := by
 intro j u hu
 rw [List.getElem?_map] at hu
 cases hc : (flatS L)[j]? with
 | none => rw [hc] at hu; cases hu
 | some c =>
  rw [hc] at hu
  obtain ⟨p, hp, h2⟩ := flatS_back L j c hc
  obtain ⟨c1, c2⟩ := h _ _ hp
  have hu : runeV c = u := Option.some.inj hu
  subst hu
  rcases h2 with ⟨hm, rfl⟩ | ⟨hm, rfl⟩
  ·rw [show j = 2 * (j / 2) by omega]; exact c1
  ·rw [show j = 2 * (j / 2) + 1 by omega]; exact c2
def CsP (w : World) (L : Spans) (e : Ending) (w' : World) : Prop := ∃ g q : Nat, e = .returned (.slice (some ⟨g, 0, none⟩) L.length q) ∧ SpR w' w.heap.size (.slice (some ⟨g, 0, none⟩) L.length q) L ∧ Below w.heap.size w w'
theorem pclone_any {w : World} {g q : Nat} {L : Spans} (h : RdSp w g L) (hl : L.length ≤ 1000000) : Calls Tryz.prog 155 #[.slice (some ⟨g, 0, none⟩) L.length q] w fun e w' => CsP w L e w' := by
 obtain ⟨i0, hi, hz0, hz1, hz2⟩ := info_parts infoSpan
 have hcon := AnyE.slices_Clone laysClone i0 (.agg #[.int .i32 0, .int .i32 0]) 2 8 hi hz0 hz1 hz2 rfl (by decide) Tryz.sizeOf236 g 0 L.length q ((flatS L).map runeV) w (by rw [List.length_map, flatS_len]; omega) (by unfold maxLen; omega) (by omega) (fun j u hu => by rw [Nat.zero_add]; exact h.cells j u hu) (flatS_one L)
 change Calls Tryz.prog 155 _ _ _ at hcon
 refine hcon.mono ?_
 rintro e w' ⟨v', rfl, ho, hne, hb⟩
 rcases ownsRow_form ho with ⟨e1, _⟩ | ⟨g', q', e1, _⟩
 ·exact absurd e1 hne
 ·subst e1
  exact ⟨g', q', rfl, ho, hb⟩
theorem pclone_nil (w : World) (n c : Nat) : Calls Tryz.prog 155 #[.slice none n c] w fun e w' => e = .returned (.slice none 0 0) ∧ w' = w := AnyE.slices_Clone_nil laysClone n c w
end Go.Proofs.YthhnmpkgleelfaaGreatDoor
namespace Go.Proofs.YthhnmpkgleelfaaGreatDoor
open Go.RowKit Go.Shelf
def OpP (w : World) (L : Spans) (e : Ending) (w' : World) : Prop := ∃ (S : Spans) (A : Option Addr) (q : Nat), SortedS S ∧ S.Perm L ∧ e = .returned (.slice A (othP 0 S).length q) ∧ SpR w' w.heap.size (.slice A (othP 0 S).length q) (othP 0 S) ∧ Below w.heap.size w w'
def OtRl (w : World) (S : Spans) (s3 s4 s13 : Value) (wr : World) : Prop := ∃ (k : Nat) (O : Spans) (nx : Int) (A : Option Addr) (q : Nat), k ≤ S.length ∧ s13 = .int .i64 k ∧ s4 = .int .i32 nx ∧ s3 = .slice A O.length q ∧ Below w.heap.size w wr ∧ SpR wr w.heap.size (.slice A O.length q) O ∧ othP 0 S = O ++ othP nx (S.drop k) ∧ 0 ≤ nx ∧ nx ≤ 1114112 ∧ O.length ≤ k
theorem SpR.snoc {w : World} {base : Nat} {v : Value} {O : Spans} {a b : Int} (h : w.ownsRow base 236 2 v (O.length + 1) ((flatS O).map runeV ++ [.int .i32 a, .int .i32 b])) : SpR w base v (O ++ [(a, b)]) := by
 unfold SpR
 rw [List.length_append, flatS_append, List.map_append]
 exact h
theorem own_fresh {w : World} {base k n : Nat} {e : TypeId} {v : Value} {us : List Value} (h : w.ownsRow base e k v n us) : v.ownBlock ≠ some w.heap.size := by
 intro hb
 obtain ⟨_, cur, hc⟩ := ownsRow_block h hb
 exact Nat.lt_irrefl _ (lt_of_heap hc)
set_option maxHeartbeats 8000000 in
set_option maxRecDepth 100000 in
theorem pothers_any {w : World} {g q : Nat} {L : Spans} (h : RdSp w g L) (hb : BdS L) (hl : L.length ≤ 100000) : Calls Tryz.prog 152 #[.slice (some ⟨g, 0, none⟩) L.length q] w fun e w' => OpP w L e w' := by
 have Hcl := Lib.hid (pclone_any (q := q) h (by omega))
 have HB := Lib.hid hb
 clear h hb
 go_enter Tryz.func152, Tryz.ntmps152
 go_wp2_with fail
 (with_reducible refine Hcl.out.mono ?_)
 rintro e w1 ⟨g1, q1, rfl, hs1, hb1⟩
 have Hs1 := Lib.hid hs1
 have Hb1 := Lib.hid hb1
 clear hs1 hb1
 go_wp2_with fail
 (with_reducible refine (sort_any Hs1.out HB.out Hb1.out.size (by omega)).mono ?_)
 rintro e w2 ⟨S, hS, hP, rfl, hr, hb2⟩
 have Hb2 := Lib.hid (Hb1.out.trans hb2)
 have Hr := Lib.hid hr
 have HS := Lib.hid hS
 have HP := Lib.hid hP
 have HBS := Lib.hid (HB.out.perm hP)
 have hlen := hP.length_eq
 have hl1 : S.length ≤ L.length := by omega
 have hl2 : L.length ≤ S.length := by omega
 clear hS hP hr hb2
 go_wp2_with fail
 clear hlen
 obtain ⟨wo, hwo⟩ : ∃ wo : World, w2 = wo := ⟨_, rfl⟩
 subst hwo
 have hs2 := Hb2.out.size
 go_loopw [3, 4, 13] (fun s3 s4 s13 wr => OtRl w2 S s3 s4 s13 wr) (fun _ _ v _ => S.length - (intOf v).toNat)
 case atStart => exact ⟨0, [], 0, none, 0, Nat.zero_le _, rfl, rfl, rfl, Below.refl _ _, SpR.nil _ _, rfl, by decide, by decide, Nat.le_refl _⟩
 case round =>
  obtain ⟨k, O, nx, A3, q3, hk, rfl, rfl, rfl, hb, ho, he, n0, n1, hlo⟩ := hrel
  have Hb := Lib.hid hb
  have Ho := Lib.hid ho
  have He := Lib.hid he
  have hbs := hb.size
  by_cases hlt : k < S.length
  ·have hltL : k < L.length := by omega
   obtain ⟨⟨a, b⟩, hab⟩ : ∃ p, S[k]? = some p := ⟨_, List.getElem?_eq_getElem hlt⟩
   obtain ⟨c0, c1⟩ := (Hr.out.below hb) k _ hab
   rw [Nat.mul_comm] at c0 c1
   dsimp only at c0 c1
   have hbd := HBS.out _ (List.mem_of_getElem? hab)
   obtain ⟨a0, ab, b1⟩ := hbd
   dsimp only at a0 ab b1
   have hdr : S.drop k = (a, b) :: S.drop (k + 1) := by
    rw [List.drop_eq_getElem_cons hlt]
    congr 1
    rw [List.getElem?_eq_getElem hlt] at hab
    exact Option.some.inj hab
   have Hdr := Lib.hid hdr
   have hmx : max nx (b + 1) = (if nx ≤ b + 1 then b + 1 else nx) := by omega
   clear hb ho he hab hdr
   by_cases hn : nx < a
   ·have Hst := Lib.hid (show othP 0 S = (O ++ [(nx, a - 1)]) ++ othP (max nx (b + 1)) (S.drop (k + 1)) by
     rw [He.out, Hdr.out, othP, if_pos hn, List.append_assoc])
    have hi1 : IntKind.i32.wrap (a - 1) = a - 1 := by simp [IntKind.wrap, IntKind.bits, IntKind.signed]; omega
    have hi2 : IntKind.i32.wrap (b + 1) = b + 1 := by simp [IntKind.wrap, IntKind.bits, IntKind.signed]; omega
    clear hmx
    have Hal1 := Lib.hid (alloc_below wr (.cells #[.int .i32 a, .int .i32 b] 236))
    obtain ⟨w5, hw5⟩ : ∃ w5, wr.alloc (.cells #[.int .i32 a, .int .i32 b] 236) = w5 := ⟨_, rfl⟩
    rw [hw5] at Hal1
    have hw5s : w5.heap.size = wr.heap.size + 1 := by rw [← hw5, World.size_alloc]
    have Hal2 := Lib.hid (alloc_below w5 (.cells #[.int .i32 nx, .int .i32 (a - 1)] 236))
    have Hoa := Lib.hid ((Ho.out.below Hal1.out).below Hal2.out)
    have Hxb := Lib.hid (show (w5.alloc (.cells #[.int .i32 nx, .int .i32 (a - 1)] 236)).heap[wr.heap.size]? = some (.cells #[.int .i32 a, .int .i32 b] 236 (0, 0)) from quiet_heap (by rw [← hw5]; exact heap_alloc_new wr _) Hal2.out)
    have Hof := Lib.hid (own_fresh Ho.out)
    have hcn := cells_new w5 [.int .i32 nx, .int .i32 (a - 1)] 236
    rw [hw5s] at hcn
    have Hcn := Lib.hid hcn
    have Hba := Lib.hid (Hb.out.alloc hbs (.cells #[.int .i32 a, .int .i32 b] 236))
    rw [hw5] at Hba
    have Hbb := Lib.hid (Hba.out.alloc (by rw [hw5s]; omega) (.cells #[.int .i32 nx, .int .i32 (a - 1)] 236))
    have Hw5 := Lib.hid hw5
    have Hw5s := Lib.hid hw5s
    clear hcn hw5 hw5s
    go_wp2_with (at_builtin; rw [Hw5.out]; refine wpList_append_k elSpan rfl (.tmp 21) (.tmp 27) rfl w2.heap.size (.slice A3 O.length q3) O.length (wr.heap.size + 1) 1 1 ((flatS O).map runeV) [.int .i32 nx, .int .i32 (a - 1)] (by simp [Act.eval]) Hoa.out (by simp [Act.eval]) rfl Hcn.out (by simp [Value.oneCell']) (by unfold maxLen; omega) (by omega) (by rw [World.size_alloc, Hw5s.out]; omega) ?_; intro v' w6 h1 h2 h3; have Hp := Lib.hid h1; have Hg := Lib.hid h2; obtain ⟨A5, q5, rfl, -, -, -⟩ := ownsRow_slice h1; have e1 := row_cell ((h2.block wr.heap.size (by rw [World.size_alloc, Hw5s.out]; omega) (Ne.symm Hof.out)).trans Hxb.out) (j := 1) (u := .int .i32 b) rfl; clear h1 h2 h3)
    have hlo' : (O ++ [(nx, a - 1)]).length = O.length + 1 := by simp
    refine ⟨⟨k + 1, O ++ [(nx, a - 1)], max nx (b + 1), A5, q5, by omega, by go_num, ?_, by rw [hlo'], own_below Hbb.out Hoa.out Hbb.out.size Hg.out, ?_, Hst.out, by omega, by omega, by rw [hlo']; omega⟩, by simp [intOf]; omega⟩
    ·rfl
    ·rw [hlo']; exact SpR.snoc Hp.out
   ·have Hst := Lib.hid (show othP 0 S = O ++ othP (max nx (b + 1)) (S.drop (k + 1)) by
     rw [He.out, Hdr.out, othP, if_neg hn, List.nil_append])
    have hi2 : IntKind.i32.wrap (b + 1) = b + 1 := by simp [IntKind.wrap, IntKind.bits, IntKind.signed]; omega
    clear hmx
    have Hal1 := Lib.hid (alloc_below wr (.cells #[.int .i32 a, .int .i32 b] 236))
    have Hba := Lib.hid (Hb.out.alloc hbs (.cells #[.int .i32 a, .int .i32 b] 236))
    go_wp2_with fail
    refine ⟨⟨k + 1, O, max nx (b + 1), A3, q3, by omega, by go_num, ?_, rfl, Hba.out, Ho.out.below Hal1.out, Hst.out, by omega, by omega, by omega⟩, by simp [intOf]; omega⟩
    rfl
  ·have hltL : ¬ k < L.length := by omega
   obtain rfl : k = S.length := by omega
   have Hst := Lib.hid (show othP 0 S = O ++ othP nx [] by rw [He.out, List.drop_length])
   clear hb ho he
   by_cases hn : nx ≤ 1114111
   ·have Hst2 := Lib.hid (show othP 0 S = O ++ [(nx, 1114111)] by rw [Hst.out, othP, if_pos hn])
    have Hal2 := Lib.hid (alloc_below wr (.cells #[.int .i32 nx, .int .i32 1114111] 236))
    have Hoa := Lib.hid (Ho.out.below Hal2.out)
    have Hcn := Lib.hid (cells_new wr [.int .i32 nx, .int .i32 1114111] 236)
    have Hbb := Lib.hid (Hb.out.alloc hbs (.cells #[.int .i32 nx, .int .i32 1114111] 236))
    go_wp2_with (at_builtin; refine wpList_append_k elSpan rfl (.tmp 37) (.tmp 40) rfl w2.heap.size (.slice A3 O.length q3) O.length wr.heap.size 1 1 ((flatS O).map runeV) [.int .i32 nx, .int .i32 1114111] (by simp [Act.eval]) Hoa.out (by simp [Act.eval]) rfl Hcn.out (by simp [Value.oneCell']) (by unfold maxLen; omega) (by omega) (by simp; omega) ?_; intro v' w6 h1 h2 h3; have Hp := Lib.hid h1; have Hg := Lib.hid h2; obtain ⟨A5, q5, rfl, -, -, -⟩ := ownsRow_slice h1; clear h1 h2 h3)
    go_ret
    have hlo' : (othP 0 S).length = O.length + 1 := by rw [Hst2.out]; simp
    refine ⟨S, A5, q5, HS.out, HP.out, by rw [hlo']; rfl, ?_, Hb2.out.trans ((own_below Hbb.out Hoa.out Hbb.out.size Hg.out).mono hs2)⟩
    rw [hlo', Hst2.out]
    exact ownsRow_low (SpR.snoc Hp.out) hs2
   ·have Hst2 := Lib.hid (show othP 0 S = O by rw [Hst.out, othP, if_neg hn, List.append_nil])
    go_wp2_with fail
    go_ret
    refine ⟨S, A3, q3, HS.out, HP.out, by rw [Hst2.out]; rfl, ?_, Hb2.out.trans (Hb.out.mono hs2)⟩
    rw [Hst2.out]
    exact ownsRow_low Ho.out hs2
theorem enc_1 (n : Nat) (hv : Utf8.valid (n : Int) = true) (h1 : n < 128) : Utf8.encode (n : Int) = ⟨#[UInt8.ofNat n]⟩ := by
 unfold Utf8.encode
 simp only [hv, if_true, Int.toNat_natCast, h1]
theorem enc_2 (n : Nat) (hv : Utf8.valid (n : Int) = true) (h1 : ¬ n < 128) (h2 : n < 2048) : Utf8.encode (n : Int) = ⟨#[UInt8.ofNat (192 + n / 64), UInt8.ofNat (128 + n % 64)]⟩ := by
 unfold Utf8.encode
 simp only [hv, if_true, Int.toNat_natCast, h1, h2, if_false]
theorem enc_3 (n : Nat) (hv : Utf8.valid (n : Int) = true) (h1 : ¬ n < 128) (h2 : ¬ n < 2048) (h3 : n < 65536) : Utf8.encode (n : Int) = ⟨#[UInt8.ofNat (224 + n / 4096), UInt8.ofNat (128 + n / 64 % 64), UInt8.ofNat (128 + n % 64)]⟩ := by
 unfold Utf8.encode
 simp only [hv, if_true, Int.toNat_natCast, h1, h2, h3, if_false]
theorem enc_4 (n : Nat) (hv : Utf8.valid (n : Int) = true) (h1 : ¬ n < 128) (h2 : ¬ n < 2048) (h3 : ¬ n < 65536) : Utf8.encode (n : Int) = ⟨#[UInt8.ofNat (240 + n / 262144), UInt8.ofNat (128 + n / 4096 % 64), UInt8.ofNat (128 + n / 64 % 64), UInt8.ofNat (128 + n % 64)]⟩ := by
 unfold Utf8.encode
 simp only [hv, if_true, Int.toNat_natCast, h1, h2, h3, if_false]
theorem enc_frm {c : Int} (hc : isR c = true) : (Utf8.encode c).data.toList = frm c := by
 obtain ⟨n, rfl⟩ : ∃ n : Nat, c = n := ⟨c.toNat, by have := isR_pos hc; omega⟩
 have hr := (isR_iff (n : Int)).1 hc
 have hv : Utf8.valid (n : Int) = true := by rw [valid_iff]; omega
 by_cases h1 : n < 128
 ·rw [frm_1 n h1, enc_1 n hv h1]
 ·by_cases h2 : n < 2048
  ·rw [frm_2 n ⟨by omega, h2⟩, enc_2 n hv h1 h2]
  ·by_cases h3 : n < 65536
   ·rw [frm_3 n ⟨by omega, h3⟩ (by omega), enc_3 n hv h1 h2 h3]
   ·rw [frm_4 n ⟨by omega, by omega⟩, enc_4 n hv h1 h2 h3]
theorem runesB_rng {cs : List Int} (hc : ∀ c ∈ cs, isR c = true) : runesBytes cs = rngB cs := by
 have key : ∀ (l : List Int) (s : ByteArray), (∀ c ∈ l, isR c = true) → (l.foldl (fun r n => r ++ Utf8.encode n) s).data.toList = s.data.toList ++ l.flatMap frm := by
  intro l
  induction l with
  | nil => intro s _; simp
  | cons c l ih =>
   intro s h
   rw [List.foldl_cons, ih _ (fun c hm => h c (List.mem_cons_of_mem _ hm)), ByteArray.data_append, Array.toList_append, enc_frm (h c (by simp)), List.flatMap_cons, List.append_assoc]
 have h := key cs ByteArray.empty hc
 unfold runesBytes rngB
 have e : (cs.foldl (fun r n => r ++ Utf8.encode n) ByteArray.empty).data = (cs.flatMap frm).toArray := by
  apply Array.ext'
  rw [h]; simp
 cases hx : cs.foldl (fun r n => r ++ Utf8.encode n) ByteArray.empty with
 | mk d => rw [hx] at e; simp only at e; rw [e]
theorem conv_rng {w : World} {base q : Nat} {A : Option Addr} {cs : List Int} (h : Rns w base (.slice A cs.length q) cs) (hc : ∀ c ∈ cs, isR c = true) : (convert 37 9 (.slice A cs.length q)).run Tryz.prog w = .ok (.string (rngB cs)) w := by
 rw [← runesB_rng hc]
 obtain ⟨A', q', e, _, _, hA⟩ := ownsRow_slice h
 obtain ⟨rfl, _, rfl⟩ := Value.slice.inj e
 by_cases h0 : 0 < cs.length
 ·obtain ⟨g, rfl⟩ := hA h0
  have := run_convert_runes (P := Tryz.prog) w 37 9 21 ⟨g, 0, none⟩ cs.length q cs (Nat.le_refl _) Tryz.underlying37 Tryz.underlying21 Tryz.underlying9 (fun j hj => by
   rw [Addr.add_lit, Nat.zero_add, ownsRow_cell h rfl j (by omega), List.getElem?_map, getD_of cs j hj]; rfl)
  rw [List.take_length] at this
  exact this
 ·obtain rfl : cs = [] := List.eq_nil_of_length_eq_zero (by omega)
  cases A with
  | none => exact run_convert_runes_nil (P := Tryz.prog) w 37 9 21 _ _ Tryz.underlying37 Tryz.underlying21 Tryz.underlying9
  | some a =>
   have := run_convert_runes (P := Tryz.prog) w 37 9 21 a 0 q [] (Nat.le_refl _) Tryz.underlying37 Tryz.underlying21 Tryz.underlying9 (fun j hj => by simp at hj)
   simpa using this
def CsA (w : World) (L : Spans) (e : Ending) (w' : World) : Prop := ∃ (A : Option Addr) (q : Nat), e = .returned (.slice A L.length q) ∧ SpR w' w.heap.size (.slice A L.length q) L ∧ Below w.heap.size w w'
def StP2 (w : World) (L : Spans) (but : Bool) (e : Ending) (w' : World) : Prop := ∃ cs : List Int, e = .returned (.agg #[.string (rngB cs)]) ∧ SetOf (butP L but) cs ∧ Below w.heap.size w w'
def StCut (w1 : World) (L : Spans) (but : Bool) (s0 : Value) (wx : World) : Prop := ∃ (M : Spans) (g q : Nat), s0 = .slice (some ⟨g, 0, none⟩) M.length q ∧ RdSp wx g M ∧ Below w1.heap.size w1 wx ∧ BdS M ∧ M.length ≤ 60000 ∧ (∀ S, SortedS S → S.Perm M → SetOf (butP L but) (flatS (othP 0 S)))
def SrRel (w : World) (O : Spans) (s5 s28 : Value) (wr : World) : Prop := ∃ (k : Nat) (A : Option Addr) (q : Nat), k ≤ O.length ∧ s28 = .int .i64 k ∧ s5 = .slice A (flatS (O.take k)).length q ∧ Below w.heap.size w wr ∧ Rns wr w.heap.size (.slice A (flatS (O.take k)).length q) (flatS (O.take k))
set_option maxHeartbeats 8000000 in
set_option maxRecDepth 100000 in
theorem prset_core {w : World} {L : Spans} {but : Bool} {A : Option Addr} {q : Nat} (hcl : Calls Tryz.prog 155 #[.slice A L.length q] (w.alloc (.cells #[.string ⟨#[]⟩] 213)) fun e w' => CsA (w.alloc (.cells #[.string ⟨#[]⟩] 213)) L e w') (hb : BdS L) (hl : L.length ≤ 50000) : Calls Tryz.prog 128 #[.slice A L.length q, .bool but] w fun e w' => StP2 w L but e w' := by
 have hal := alloc_below w (.cells #[.string ⟨#[]⟩] 213)
 have Hal := Lib.hid hal
 have Hx := Lib.hid (heap_alloc_new w (.cells #[.string ⟨#[]⟩] 213))
 have Hcl := Lib.hid hcl
 have HB := Lib.hid hb
 clear hcl hb hal
 go_enter Tryz.func128, Tryz.ntmps128
 go_wp2_with fail
 generalize w.alloc (.cells #[.string ⟨#[]⟩] 213) = w1 at *
 have hs1 := Hal.out.size
 (with_reducible refine Hcl.out.mono ?_)
 rintro e w2 ⟨A1, q1, rfl, ho2, hb2⟩
 have Hb2 := Lib.hid hb2
 have Ho2 := Lib.hid (ho2.below (alloc_below w2 (.cells #[.int .i32 55296, .int .i32 57343] 236)))
 have Hcn := Lib.hid (cells_new w2 [.int .i32 55296, .int .i32 57343] 236)
 have Hba := Lib.hid (hb2.alloc hb2.size (.cells #[.int .i32 55296, .int .i32 57343] 236))
 have hs2 := hb2.size
 clear hb2 ho2
 go_upto_if 14 with (at_builtin; refine wpList_append_k elSpan rfl (.tmp 9) (.tmp 11) rfl w1.heap.size (.slice A1 L.length q1) L.length w2.heap.size 1 1 ((flatS L).map runeV) [.int .i32 55296, .int .i32 57343] (by simp [Act.eval]) Ho2.out (by simp [Act.eval]) rfl Hcn.out (by simp [Value.oneCell']) (by unfold maxLen; omega) (by omega) (by simp; omega) ?_; intro v' w3 h1 h2 h3; have Hp := Lib.hid h1; have Hg := Lib.hid h2; obtain ⟨A5, q5, rfl, hq5, -, hA5⟩ := ownsRow_slice h1; clear h1 h2 h3)
 obtain ⟨g5, rfl⟩ := hA5 (by omega)
 have hq5' : (L.length : Int) ≤ q5 := by omega
 clear hA5 hq5
 have Hb3 := Lib.hid (own_below Hba.out Ho2.out Hba.out.size Hg.out)
 have Hs3 := Lib.hid (SpR.snoc (O := L) Hp.out)
 have hs3 := Hb3.out.size
 have Hlen3 := Lib.hid (show (L ++ [sur]).length = L.length + 1 by simp)
 clear Hp Hg Ho2 Hcn Hba
 go_cut [0] (fun s0 wx => StCut w1 L but s0 wx)
 case first =>
  cases but with
  | true =>
   go_wp2_with fail
   go_meet
   case rel => exact ⟨L ++ [sur], g5, q5, by rw [Hlen3.out], Hs3.out.read, Hb3.out, HB.out.sur, by rw [Hlen3.out]; omega, fun S hS hP => by
    have := set_neg HB.out hS hP
    unfold butP
    simpa using this⟩
  | false =>
   have hpre : RdSp w3 g5 L := fun i p hp => Hs3.out.read i p (by rw [List.getElem?_append_left (List.getElem?_eq_some_iff.1 hp).1]; exact hp)
   have Ho3 := Lib.hid (fun (q : Nat) => pothers_any (q := q) hpre HB.out (by omega))
   clear hpre
   go_wp2_with fail
   (with_reducible refine (Ho3.out _).mono ?_)
   rintro e w4 ⟨S1, A4, q4, hS1, hP1, rfl, ho4, hb4⟩
   have HS1 := Lib.hid hS1
   have HP1 := Lib.hid hP1
   have hbo : BdS (othP 0 S1) := BdS.oth hS1 (HB.out.perm hP1)
   have Hbo := Lib.hid hbo
   have hol := othP_len S1 0
   rw [hP1.length_eq] at hol
   obtain ⟨O, hO⟩ : ∃ O, othP 0 S1 = O := ⟨_, rfl⟩
   rw [hO] at ho4 Hbo hol
   have HO := Lib.hid hO
   have Hba := Lib.hid ((Hb3.out.trans (hb4.mono hs3)).alloc (Nat.le_trans hs3 hb4.size) (.cells #[.int .i32 55296, .int .i32 57343] 236))
   have Ho4 := Lib.hid ((SpR.below (ownsRow_low ho4 hs3) (alloc_below w4 (.cells #[.int .i32 55296, .int .i32 57343] 236))))
   have Hcn := Lib.hid (cells_new w4 [.int .i32 55296, .int .i32 57343] 236)
   have hs4 := hb4.size
   rw [hO]
   clear hS1 hP1 hbo hO ho4 hb4
   go_wp2_with (at_builtin; refine wpList_append_k elSpan rfl (.tmp 21) (.tmp 23) rfl w1.heap.size (.slice A4 O.length q4) O.length w4.heap.size 1 1 ((flatS O).map runeV) [.int .i32 55296, .int .i32 57343] (by simp [Act.eval]) Ho4.out (by simp [Act.eval]) rfl Hcn.out (by simp [Value.oneCell']) (by unfold maxLen; omega) (by omega) (by simp; omega) ?_; intro v' w5 h1 h2 h3; have Hp := Lib.hid h1; have Hg := Lib.hid h2; obtain ⟨A6, q6, rfl, -, -, hA6⟩ := ownsRow_slice h1; clear h1 h2 h3)
   obtain ⟨g6, rfl⟩ := hA6 (by omega)
   have Hs5 := Lib.hid (SpR.snoc (O := O) Hp.out)
   have hlo : (O ++ [sur]).length = O.length + 1 := by simp
   go_meet
   case rel => exact ⟨O ++ [sur], g6, q6, by rw [hlo], SpR.read (n := O.length + 1) Hs5.out, own_below Hba.out Ho4.out Hba.out.size Hg.out, Hbo.out.sur, by rw [hlo]; omega, fun S hS hP => by
    rw [← HO.out] at hP
    have := set_pos HB.out HS1.out HP1.out hS hP
    unfold butP
    simpa using this⟩
 case rest =>
  obtain ⟨M, g6, q6, rfl, hr, hb5, hbM, hlM, hspec⟩ := hcut
  have Hr := Lib.hid hr
  have Hb5 := Lib.hid hb5
  have HbM := Lib.hid hbM
  have Hspec := Lib.hid hspec
  have hs5 := hb5.size
  have Hot := Lib.hid (pothers_any (q := q6) hr hbM (by omega))
  clear hr hb5 hbM hspec Hb3 Hs3
  go_wp2_with fail
  (with_reducible refine Hot.out.mono ?_)
  rintro e w6 ⟨S, A7, q7, hS, hP, rfl, ho6, hb6⟩
  have Hset := Lib.hid (Hspec.out S hS hP)
  have hol := othP_len S 0
  rw [hP.length_eq] at hol
  have Hb6 := Lib.hid (Hb5.out.trans (hb6.mono hs5))
  have hs6 := Hb6.out.size
  obtain ⟨O, hO⟩ : ∃ O, othP 0 S = O := ⟨_, rfl⟩
  rw [hO] at ho6 Hset hol ⊢
  have Ho6 := Lib.hid ho6
  clear hS hP hO ho6 hb6
  obtain ⟨wo, hwo⟩ : ∃ wo : World, w6 = wo := ⟨_, rfl⟩
  subst hwo
  go_wp2_with fail
  go_loopw [5, 28] (fun s5 s28 wr => SrRel w6 O s5 s28 wr) (fun _ v _ => O.length - (intOf v).toNat)
  case atStart => exact ⟨0, none, 0, Nat.zero_le _, rfl, rfl, Below.refl _ _, Rns.nil _ _⟩
  case round =>
   obtain ⟨k, A3, q3, hk, rfl, rfl, hb, ho⟩ := hrel
   have Hb := Lib.hid hb
   have Ho := Lib.hid ho
   have hbs := hb.size
   have hfl : (flatS (O.take k)).length = 2 * k := by rw [flatS_len, List.length_take]; omega
   have Hfl := Lib.hid hfl
   rw [hfl]
   by_cases hlt : k < O.length
   ·obtain ⟨A', q', e', -, -, hA'⟩ := ownsRow_slice Ho6.out
    obtain ⟨g7, hg7⟩ := hA' (by omega)
    obtain ⟨e1, -, -⟩ := Value.slice.inj e'
    obtain rfl : A7 = some ⟨g7, 0, none⟩ := e1.trans hg7
    clear e' hA' hg7 e1
    obtain ⟨⟨a, b⟩, hab⟩ : ∃ p, O[k]? = some p := ⟨_, List.getElem?_eq_getElem hlt⟩
    obtain ⟨c0, c1⟩ := ((SpR.read Ho6.out).below hb) k _ hab
    rw [Nat.mul_comm] at c0 c1
    dsimp only at c0 c1
    have Htk := Lib.hid (show flatS (O.take (k + 1)) = flatS (O.take k) ++ [a, b] by
     rw [List.take_add_one, hab, flatS_append]; rfl)
    rw [Hfl.out] at Ho
    have Hal1 := Lib.hid (alloc_below wr (.cells #[.int .i32 a, .int .i32 b] 236))
    obtain ⟨w8, hw8⟩ : ∃ w8, wr.alloc (.cells #[.int .i32 a, .int .i32 b] 236) = w8 := ⟨_, rfl⟩
    rw [hw8] at Hal1
    have hw8s : w8.heap.size = wr.heap.size + 1 := by rw [← hw8, World.size_alloc]
    have Hal2 := Lib.hid (alloc_below w8 (.cells #[.int .i32 a, .int .i32 b] 21))
    have ho8 := (ho.below Hal1.out).below Hal2.out
    unfold Rns at ho8
    rw [Hfl.out] at ho8
    have Hoa := Lib.hid ho8
    have hcn := cells_new w8 [.int .i32 a, .int .i32 b] 21
    rw [hw8s] at hcn
    have Hcn := Lib.hid hcn
    have Hba := Lib.hid (Hb.out.alloc hbs (.cells #[.int .i32 a, .int .i32 b] 236))
    rw [hw8] at Hba
    have Hbb := Lib.hid (Hba.out.alloc (by rw [hw8s]; omega) (.cells #[.int .i32 a, .int .i32 b] 21))
    have Hw8 := Lib.hid hw8
    have Hw8s := Lib.hid hw8s
    clear hcn hw8 hw8s ho8 hb ho hfl hab
    go_wp2_with (at_builtin; rw [Hw8.out]; refine wpList_append_k elRune rfl (.tmp 32) (.tmp 37) rfl w6.heap.size (.slice A3 (2 * k) q3) (2 * k) (wr.heap.size + 1) 2 2 ((flatS (O.take k)).map runeV) [.int .i32 a, .int .i32 b] (by simp [Act.eval]) Hoa.out (by simp [Act.eval]) rfl Hcn.out (by simp [Value.oneCell']) (by unfold maxLen; omega) (by omega) (by rw [World.size_alloc, Hw8s.out]; omega) ?_; intro v' w9 h1 h2 h3; have Hp := Lib.hid h1; have Hg := Lib.hid h2; obtain ⟨A5, q5, rfl, -, -, -⟩ := ownsRow_slice h1; clear h1 h2 h3)
    have hfl2 : (flatS (O.take (k + 1))).length = 2 * k + 2 := by rw [Htk.out, List.length_append, Hfl.out]; rfl
    refine ⟨⟨k + 1, A5, q5, by omega, by go_num, by rw [hfl2], own_below Hbb.out Hoa.out Hbb.out.size Hg.out, ?_⟩, by simp [intOf]; omega⟩
    rw [hfl2]
    unfold Rns
    rw [hfl2, Htk.out, List.map_append]
    exact Hp.out
   ·obtain rfl : k = O.length := by omega
    rw [List.take_length] at ho Hfl
    have hcv := conv_rng ho (Hset.out).chars
    rw [Hfl.out] at hcv
    have hx := quiet_heap (quiet_heap Hx.out Hb6.out) hb
    have Hxr := Lib.hid hx
    have d0 := row_cell hx (j := 0) rfl
    have f0 := row_frozen hx 0
    have Hbw := Lib.hid (Hal.out.trans ((Hb6.out.trans (hb.mono hs6)).mono hs1))
    clear hb ho hfl hx
    go_wp2_with fail
    refine bodyPost_ret (results_cell_row Tryz.results128 _ _ w.heap.size 213 #[.string (rngB (flatS O))] (0, 0) _ (by simp) ?_ Tryz.underlying213 rfl (by kernel_rfl)) rfl ⟨flatS O, rfl, Hset.out, ?_⟩
    ·exact row_set Hxr.out 0 _
    ·exact Hbw.out.setCell (p := ⟨w.heap.size, 0, none⟩) (Nat.le_refl _) _
theorem prset_any {w : World} {L : Spans} {but : Bool} {g q : Nat} (h : RdSp w g L) (hb : BdS L) (hl : L.length ≤ 50000) : Calls Tryz.prog 128 #[.slice (some ⟨g, 0, none⟩) L.length q, .bool but] w fun e w' => StP2 w L but e w' := by
 refine prset_core ?_ hb hl
 refine (pclone_any (q := q) (h.below (alloc_below w _)) (by omega)).mono ?_
 rintro e w' ⟨g1, q1, rfl, h1, h2⟩
 exact ⟨_, _, rfl, h1, h2⟩
theorem prset_nil {w : World} {but : Bool} {q : Nat} : Calls Tryz.prog 128 #[.slice none 0 q, .bool but] w fun e w' => StP2 w [] but e w' := by
 refine prset_core (L := []) ?_ (fun p hp => by simp at hp) (by decide)
 refine (pclone_nil _ _ _).mono ?_
 rintro e w' ⟨rfl, rfl⟩
 exact ⟨none, 0, rfl, SpR.nil _ _, Below.refl _ _⟩
theorem prset_own {w : World} {base q : Nat} {A : Option Addr} {L : Spans} {but : Bool} (h : SpR w base (.slice A L.length q) L) (hb : BdS L) (hl : L.length ≤ 50000) : Calls Tryz.prog 128 #[.slice A L.length q, .bool but] w fun e w' => StP2 w L but e w' := by
 cases A with
 | some a =>
  rcases ownsRow_form h with ⟨e, _⟩ | ⟨g, q', e, _⟩
  ·cases e
  ·injection e with e1 _ e3
   injection e1 with e1
   subst e1 e3
   exact prset_any (SpR.read h) hb hl
 | none =>
  rcases ownsRow_form h with ⟨e, e2⟩ | ⟨g, q', e, _⟩
  ·obtain rfl : L = [] := List.eq_nil_of_length_eq_zero e2.1
   exact prset_nil
  ·cases e
end Go.Proofs.YthhnmpkgleelfaaGreatDoor
