import Derived.Test.YthhnmpkgleelfaaGreatDoorK47
import Derived.Shelf.SlSortCmp.WholeK
import Derived.Shelf.SlicesE.Clone
set_option linter.unusedVariables false
set_option linter.unusedSimpArgs false
namespace Go.Proofs.YthhnmpkgleelfaaGreatDoor
open Go.RowKit Go.Shelf Go.Lib Go.Sort
abbrev Spn := {p : Int × Int // 0 ≤ p.1 ∧ p.1 ≤ 1114111}
instance : Inhabited Spn := ⟨⟨(0, 0), by decide⟩⟩
def encS (p : Spn) : List Value := [.int .i32 p.1.1, .int .i32 p.1.2]
def cfS (x y : Spn) : Int := x.1.1 - y.1.1
theorem ltS (x y : Spn) : ltOf cfS x y = decide (x.1.1 < y.1.1) := by
 unfold ltOf cfS
 by_cases h : x.1.1 < y.1.1
 ·rw [decide_eq_true h, decide_eq_true (by omega)]
 ·rw [decide_eq_false h, decide_eq_false (by omega)]
theorem swoS : SWO (ltOf cfS) where
 irrefl x := by rw [ltS]; simp
 trans x y z h1 h2 := by rw [ltS] at *; simp at *; omega
 ntrans x y z h1 h2 := by rw [ltS] at *; simp at *; omega
set_option maxHeartbeats 1000000 in
theorem cmpS_any (x y : Spn) (w : World) : Calls Tryz.prog 168 #[.agg #[.int .i32 x.1.1, .int .i32 x.1.2], .agg #[.int .i32 y.1.1, .int .i32 y.1.2]] w fun e w' => e = .returned (.int .i64 (cfS x y)) ∧ ∃ q os', w' = grow (w.drewN q) os' := by
 obtain ⟨⟨x1, x2⟩, hx1, hx2⟩ := x
 obtain ⟨⟨y1, y2⟩, hy1, hy2⟩ := y
 have hc : cfS ⟨(x1, x2), hx1, hx2⟩ ⟨(y1, y2), hy1, hy2⟩ = x1 - y1 := rfl
 rw [hc]
 clear hc
 dsimp only at *
 go_enter Tryz.func168, Tryz.ntmps168
 go_wp2_with fail
 go_ret
 exact ⟨rfl, 0, _, by rw [alloc_eq_grow, alloc_eq_grow, grow_grow]; rfl⟩
theorem cmpLaysS (blk off size : Nat) (w : World) : CmpLays Tryz.prog 168 #[] encS 2 cfS blk off size w := fun _ _ _ _ x y => cmpS_any x y _
def laysSort_ren : Go.Shelf.Ren := ⟨fun | 6 => 167 | 15 => 177 | 14 => 176 | 28 => 192 | 29 => 193 | 20 => 184 | 21 => 185 | 22 => 186 | 23 => 187 | 24 => 188 | 25 => 189 | 26 => 190 | 27 => 191 | 46 => 199 | 47 => 200 | 48 => 201 | 49 => 202 | 50 => 203 | 57 => 209 | n => n, fun | 22 => 209 | 24 => 236 | 25 => 246 | 3 => 3 | 39 => 176 | 0 => 0 | 53 => 258 | 55 => 138 | 4 => 4 | 46 => 262 | 45 => 261 | 50 => 205 | 5 => 5 | 9 => 9 | 66 => 273 | 70 => 277 | 76 => 282 | 77 => 192 | n => n, fun | n => n⟩
theorem laysSort : Go.Proofs.SlLaysF0.n6 Tryz.prog laysSort_ren := {
 mixed := by kernel_rfl
 f6 := ⟨"slices.SortFunc[[]wicket/rex.span,wicket/rex.span]", by decide, Tryz.func167.trans (congrArg some (by kernel_rfl))⟩
 f14 := ⟨"slices.pdqsortCmpFunc[wicket/rex.span]", by decide, Tryz.func176.trans (congrArg some (by kernel_rfl))⟩
 f15 := Tryz.func177.trans (congrArg some (by kernel_rfl))
 f20 := ⟨"slices.insertionSortCmpFunc[wicket/rex.span]", by decide, Tryz.func184.trans (congrArg some (by kernel_rfl))⟩
 f21 := ⟨"slices.heapSortCmpFunc[wicket/rex.span]", by decide, Tryz.func185.trans (congrArg some (by kernel_rfl))⟩
 f22 := ⟨"slices.breakPatternsCmpFunc[wicket/rex.span]", by decide, Tryz.func186.trans (congrArg some (by kernel_rfl))⟩
 f23 := ⟨"slices.choosePivotCmpFunc[wicket/rex.span]", by decide, Tryz.func187.trans (congrArg some (by kernel_rfl))⟩
 f24 := ⟨"slices.reverseRangeCmpFunc[wicket/rex.span]", by decide, Tryz.func188.trans (congrArg some (by kernel_rfl))⟩
 f25 := ⟨"slices.partialInsertionSortCmpFunc[wicket/rex.span]", by decide, Tryz.func189.trans (congrArg some (by kernel_rfl))⟩
 f26 := ⟨"slices.partitionEqualCmpFunc[wicket/rex.span]", by decide, Tryz.func190.trans (congrArg some (by kernel_rfl))⟩
 f27 := ⟨"slices.partitionCmpFunc[wicket/rex.span]", by decide, Tryz.func191.trans (congrArg some (by kernel_rfl))⟩
 f28 := Tryz.func192.trans (congrArg some (by kernel_rfl))
 f29 := Tryz.func193.trans (congrArg some (by kernel_rfl))
 f46 := ⟨"slices.siftDownCmpFunc[wicket/rex.span]", by decide, Tryz.func199.trans (congrArg some (by kernel_rfl))⟩
 f47 := Tryz.func200.trans (congrArg some (by kernel_rfl))
 f48 := Tryz.func201.trans (congrArg some (by kernel_rfl))
 f49 := ⟨"slices.medianAdjacentCmpFunc[wicket/rex.span]", by decide, Tryz.func202.trans (congrArg some (by kernel_rfl))⟩
 f50 := ⟨"slices.medianCmpFunc[wicket/rex.span]", by decide, Tryz.func203.trans (congrArg some (by kernel_rfl))⟩
 f57 := ⟨"slices.order2CmpFunc[wicket/rex.span]", by decide, Tryz.func209.trans (congrArg some (by kernel_rfl))⟩
 t0 := Tryz.underlying0
 a0 := Tryz.isAgg0
 z0 := Tryz.sizeOf0
 v0 := Tryz.zeroValue0
 t3 := Tryz.underlying3
 a3 := Tryz.isAgg3
 z3 := Tryz.sizeOf3
 v3 := Tryz.zeroValue3
 t4 := Tryz.underlying4
 a4 := Tryz.isAgg4
 z4 := Tryz.sizeOf4
 v4 := Tryz.zeroValue4
 t5 := Tryz.underlying5
 a5 := Tryz.isAgg5
 z5 := Tryz.sizeOf5
 v5 := Tryz.zeroValue5
 t9 := Tryz.underlying9
 a9 := Tryz.isAgg9
 z9 := Tryz.sizeOf9
 v9 := Tryz.zeroValue9
 t22 := Tryz.underlying209
 a22 := Tryz.isAgg209
 z22 := Tryz.sizeOf209
 v22 := Tryz.zeroValue209
 t25 := Tryz.underlying246
 a25 := Tryz.isAgg246
 z25 := Tryz.sizeOf246
 v25 := Tryz.zeroValue246
 t39 := Tryz.underlying176
 a39 := Tryz.isAgg176
 z39 := Tryz.sizeOf176
 v39 := Tryz.zeroValue176
 t45 := Tryz.underlying261
 a45 := Tryz.isAgg261
 z45 := Tryz.sizeOf261
 v45 := Tryz.zeroValue261
 t46 := Tryz.underlying262
 a46 := Tryz.isAgg262
 z46 := Tryz.sizeOf262
 v46 := Tryz.zeroValue262
 t50 := Tryz.underlying205
 a50 := Tryz.isAgg205
 z50 := Tryz.sizeOf205
 v50 := Tryz.zeroValue205
 t53 := Tryz.underlying258
 a53 := Tryz.isAgg258
 z53 := Tryz.sizeOf258
 v53 := Tryz.zeroValue258
 t55 := Tryz.underlying138
 a55 := Tryz.isAgg138
 z55 := Tryz.sizeOf138
 v55 := Tryz.zeroValue138
 t66 := Tryz.underlying273
 a66 := Tryz.isAgg273
 z66 := Tryz.sizeOf273
 v66 := Tryz.zeroValue273
 t70 := Tryz.underlying277
 a70 := Tryz.isAgg277
 z70 := Tryz.sizeOf277
 v70 := Tryz.zeroValue277
 t76 := Tryz.underlying282
 a76 := Tryz.isAgg282
 z76 := Tryz.sizeOf282
 v76 := Tryz.zeroValue282
 t77 := Tryz.underlying192
 a77 := Tryz.isAgg192
 z77 := Tryz.sizeOf192
 v77 := Tryz.zeroValue192 }
def laysClone_ren : Go.Shelf.Ren := ⟨fun | 41 => 155 | n => n, fun | 22 => 209 | 23 => 236 | 4 => 4 | n => n, fun | n => n⟩
theorem laysClone : Go.Proofs.SlLaysE0.n41 Tryz.prog laysClone_ren := {
 mixed := by kernel_rfl
 f41 := ⟨"slices.Clone[[]wicket/rex.span,wicket/rex.span]", by decide, Tryz.func155.trans (congrArg some (by kernel_rfl))⟩
 t4 := Tryz.underlying4
 a4 := Tryz.isAgg4
 z4 := Tryz.sizeOf4
 v4 := Tryz.zeroValue4
 t22 := Tryz.underlying209
 a22 := Tryz.isAgg209
 z22 := Tryz.sizeOf209
 v22 := Tryz.zeroValue209 }
theorem flatS_at : ∀ (L : Spans) (i : Nat) (p : Int × Int), L[i]? = some p → (flatS L)[2 * i]? = some p.1 ∧ (flatS L)[2 * i + 1]? = some p.2
 | [], i, p, h => by simp at h
 | (a, b) :: L, 0, p, h => by simp at h; subst h; exact ⟨rfl, rfl⟩
 | (a, b) :: L, i + 1, p, h => by
  have ih := flatS_at L i p (by simpa using h)
  rw [show 2 * (i + 1) = 2 * i + 2 by omega]
  exact ih
def RdSp (w : World) (g : Nat) (L : Spans) : Prop := ∀ (i : Nat) (p : Int × Int), L[i]? = some p → w.cell? ⟨g, 2 * i, none⟩ = some (.int .i32 p.1) ∧ w.cell? ⟨g, 2 * i + 1, none⟩ = some (.int .i32 p.2)
theorem SpR.read {w : World} {base g q n : Nat} {L : Spans} (h : SpR w base (.slice (some ⟨g, 0, none⟩) n q) L) : RdSp w g L := by
 intro i p hp
 have hi := (List.getElem?_eq_some_iff.1 hp).1
 obtain ⟨_, _, e, _, _, _⟩ := ownsRow_slice h
 obtain ⟨_, rfl, _⟩ := Value.slice.inj e
 obtain ⟨f1, f2⟩ := flatS_at L i p hp
 constructor
 ·rw [ownsRow_cell h rfl (2 * i) (by omega), List.getElem?_map, f1]; rfl
 ·rw [ownsRow_cell h rfl (2 * i + 1) (by omega), List.getElem?_map, f2]; rfl
theorem RdSp.below {w w' : World} {g : Nat} {L : Spans} (h : RdSp w g L) (hb : Below w.heap.size w w') : RdSp w' g L := fun i p hp => ⟨cell_later hb (h i p hp).1, cell_later hb (h i p hp).2⟩
def toS (p : Int × Int) : Spn := if h : 0 ≤ p.1 ∧ p.1 ≤ 1114111 then ⟨p, h⟩ else default
theorem toS_val {p : Int × Int} (h : 0 ≤ p.1 ∧ p.1 ≤ 1114111) : (toS p).1 = p := by unfold toS; rw [dif_pos h]
def SoP (w : World) (base g : Nat) (L : Spans) (e : Ending) (w' : World) : Prop := ∃ S : Spans, SortedS S ∧ S.Perm L ∧ e = .returned (.tuple #[]) ∧ RdSp w' g S ∧ Below base w w'
theorem get_toS {L : Spans} (hb : BdS L) {i : Nat} {p : Int × Int} (hp : L[i]? = some p) : (((L.map toS).toArray)[i]!).1 = p := by
 have hi := (List.getElem?_eq_some_iff.1 hp).1
 have h0 := hb p (List.mem_of_getElem? hp)
 have e : ((L.map toS).toArray)[i]! = toS p := by
  rw [getElem!_pos _ i (by simpa using hi)]
  simp only [List.getElem_toArray, List.getElem_map]
  congr 1
  have := List.getElem?_eq_getElem hi
  rw [hp] at this
  exact (Option.some.inj this).symm
 rw [e]
 exact toS_val ⟨h0.1, by omega⟩
set_option maxHeartbeats 1000000 in
theorem sort_any {w : World} {base g q : Nat} {L : Spans} (h : SpR w base (.slice (some ⟨g, 0, none⟩) L.length q) L) (hb : BdS L) (hB : base ≤ w.heap.size) (hl : L.length ≤ 1000000) : Calls Tryz.prog 167 #[.slice (some ⟨g, 0, none⟩) L.length q, .func (.func 168) #[] #[]] w fun e w' => SoP w base g L e w' := by
 obtain ⟨d, hd⟩ : ∃ d : Array Spn, (L.map toS).toArray = d := ⟨_, rfl⟩
 have hds : d.size = L.length := by rw [← hd]; simp
 have hdv : ∀ (i : Nat) (p : Int × Int), L[i]? = some p → (d[i]!).1 = p := fun i p hp => by rw [← hd]; exact get_toS hb hp
 obtain ⟨hbg, cur, hcur⟩ := ownsRow_block h rfl
 have hbg : base ≤ g := hbg
 have hrd := h.read
 have hH : HoldsK encS 2 w g 0 d := by
  intro j hj
  rw [size_flatK, hds] at hj
  obtain ⟨p, hp⟩ : ∃ p, L[j / 2]? = some p := ⟨_, List.getElem?_eq_getElem (by omega)⟩
  obtain ⟨c1, c2⟩ := hrd _ _ hp
  refine ⟨?_, row_frozen hcur _⟩
  rw [get_flatK encS 2 d j (by rw [hds]; exact hj)]
  have hv := hdv _ _ hp
  rw [Nat.zero_add]
  rcases Nat.mod_two_eq_zero_or_one j with hm | hm
  ·rw [hm, show j = 2 * (j / 2) by omega]
   rw [show 2 * (j / 2) / 2 = j / 2 by omega, c1]
   unfold encS
   rw [hv]; rfl
  ·rw [hm, show j = 2 * (j / 2) + 1 by omega]
   rw [show (2 * (j / 2) + 1) / 2 = j / 2 by omega, c2]
   unfold encS
   rw [hv]; rfl
 have eg : ∀ args w, (callFunc 168 args).run Tryz.prog w = .ok (.enter 168 args) w := enters_of Tryz.func168 (by kernel_rfl) rfl
 have hcon := AnyQ.slices_SortFunc laysSort 2 Tryz.isAgg236 Tryz.sizeOf236 encS (fun _ => rfl) (fun x v hv => by simp [encS] at hv; rcases hv with rfl | rfl <;> rfl) cfS swoS 168 #[] g 0 q d w eg (cmpLaysS g 0 d.size w) hH (lt_of_heap hcur) (by rw [hds]; omega)
 change Calls Tryz.prog 167 _ _ _ at hcon
 rw [hds] at hcon
 refine hcon.mono ?_
 rintro e w' ⟨rfl, d', n, os, hp, hs, rfl⟩
 have hds' : d'.size = L.length := by rw [hp.1, hds]
 refine ⟨d'.toList.map (·.1), ?_, ?_, rfl, ?_, ?_⟩
 ·unfold SortedS
  rw [List.pairwise_map, List.pairwise_iff_getElem]
  intro i j hi hj hij
  have h1 := hs i j (Nat.zero_le _) hij (by simpa [hds'] using hj)
  rw [ltS] at h1
  rw [getElem!_pos d' i (by simpa using hi), getElem!_pos d' j (by simpa using hj)] at h1
  simp only [Array.getElem_toList]
  simp only [decide_eq_false_iff_not] at h1
  omega
 ·have h1 := hp.2.2
  rw [← hds] at h1
  have e1 : d.extract 0 d.size = d := by simp
  have e2 : d'.extract 0 d.size = d' := by rw [← hp.1]; simp
  rw [e1, e2] at h1
  have h2 := h1.map (·.1)
  have e3 : d.toList.map (·.1) = L := by
   apply List.ext_getElem?
   intro i
   rw [List.getElem?_map]
   by_cases hi : i < L.length
   ·obtain ⟨p, hpi⟩ : ∃ p, L[i]? = some p := ⟨_, List.getElem?_eq_getElem hi⟩
    have hv := hdv i p hpi
    rw [getElem!_pos d i (by omega)] at hv
    rw [hpi, List.getElem?_eq_getElem (by simpa [hds] using hi)]
    simp only [Array.getElem_toList, Option.map_some, hv]
   ·rw [List.getElem?_eq_none (by simpa [hds] using hi), List.getElem?_eq_none (by omega)]
    rfl
  rw [e3] at h2
  exact h2
 ·have hsz : (putRowK encS 2 (Sort.ahead w n) g 0 d').heap.size = w.heap.size := by unfold putRowK putRow mapBlock Sort.ahead; simp
  have hK := holdsK_grow encS 2 (putRowK encS 2 (Sort.ahead w n) g 0 d') os g 0 d' (by rw [hsz]; exact lt_of_heap hcur) (holdsK_putRowK encS 2 (Sort.ahead w n) g 0 d d' (holdsK_ahead encS 2 w n g 0 d hH) hp.1)
  intro i p hpi
  rw [List.getElem?_map] at hpi
  have hi : i < d'.size := by
   have := (List.getElem?_eq_some_iff.1 (show (d'.toList.map (·.1))[i]? = some p by rw [List.getElem?_map]; exact hpi)).1
   simpa using this
  have hv : (d'[i]!).1 = p := by
   rw [List.getElem?_eq_getElem (by simpa using hi)] at hpi
   rw [getElem!_pos d' i hi]
   simpa using hpi
  have k1 := hK.cell hi (show 0 < 2 by decide)
  have k2 := hK.cell hi (show 1 < 2 by decide)
  have e1 : ((encS d'[i]!)[0]! : Value) = .int .i32 p.1 := by unfold encS; rw [hv]; rfl
  have e2 : ((encS d'[i]!)[1]! : Value) = .int .i32 p.2 := by unfold encS; rw [hv]; rfl
  have k3 := k1.1
  have k4 := k2.1
  rw [e1, show 0 + i * 2 + 0 = 2 * i by omega] at k3
  rw [e2, show 0 + i * 2 + 1 = 2 * i + 1 by omega] at k4
  exact ⟨k3, k4⟩
 ·have hg : ∀ k, k < base → (sortWorldK encS 2 w g 0 n d' os).heap[k]? = w.heap[k]? := by
   intro k hk
   unfold sortWorldK
   rw [heap_grow_old _ os (by unfold putRowK putRow mapBlock Sort.ahead; simp; omega)]
   unfold putRowK putRow mapBlock Sort.ahead
   simp only
   rw [Array.getElem?_modify, if_neg (by omega)]
  refine ⟨rfl, rfl, rfl, ?_, hg⟩
  unfold sortWorldK grow putRowK putRow mapBlock Sort.ahead
  simp
theorem infoSpan : (Tryz.prog.info? 236).map (fun i => (i.zero, i.size, i.bytes)) = some (some (.agg #[.int .i32 0, .int .i32 0]), 2, 8) := by kernel_rfl
theorem flatS_one : ∀ (L : Spans), ∀ u ∈ (flatS L).map runeV, u.oneCell' = true := by
 intro L u hu
 obtain ⟨c, _, rfl⟩ := List.mem_map.1 hu
 rfl
theorem flatS_back : ∀ (L : Spans) (j : Nat) (c : Int), (flatS L)[j]? = some c → ∃ p, L[j / 2]? = some p ∧ ((j % 2 = 0 ∧ c = p.1) ∨ (j % 2 = 1 ∧ c = p.2))
 | [], j, c, h => by simp [flatS] at h
 | (a, b) :: L, 0, c, h => by simp [flatS] at h; exact ⟨(a, b), rfl, .inl ⟨rfl, h.symm⟩⟩
 | (a, b) :: L, 1, c, h => by simp [flatS] at h; exact ⟨(a, b), rfl, .inr ⟨rfl, h.symm⟩⟩
 | (a, b) :: L, j + 2, c, h => by
  obtain ⟨p, h1, h2⟩ := flatS_back L j c (by simpa [flatS] using h)
  refine ⟨p, ?_, ?_⟩
  ·rw [show (j + 2) / 2 = j / 2 + 1 by omega]; simpa using h1
  ·rw [show (j + 2) % 2 = j % 2 by omega]; exact h2
theorem RdSp.cells {w : World} {g : Nat} {L : Spans} (h : RdSp w g L) : ∀ j u, ((flatS L).map runeV)[j]? = some u → w.cell? ⟨g, j, none⟩ = some u := by
 intro j u hu
 rw [List.getElem?_map] at hu
 cases hc : (flatS L)[j]? with
 | none => rw [hc] at hu; cases hu
 | some c =>
  rw [hc] at hu
  obtain ⟨p, hp, h2⟩ := flatS_back L j c hc
  obtain ⟨c1, c2⟩ := h _ _ hp
  have hu : runeV c = u := Option.some.inj hu
  subst hu
  rcases h2 with ⟨hm, rfl⟩ | ⟨hm, rfl⟩
  ·rw [show j = 2 * (j / 2) by omega]; exact c1
  ·rw [show j = 2 * (j / 2) + 1 by omega]; exact c2
def CsP (w : World) (L : Spans) (e : Ending) (w' : World) : Prop := ∃ g q : Nat, e = .returned (.slice (some ⟨g, 0, none⟩) L.length q) ∧ SpR w' w.heap.size (.slice (some ⟨g, 0, none⟩) L.length q) L ∧ Below w.heap.size w w'
theorem pclone_any {w : World} {g q : Nat} {L : Spans} (h : RdSp w g L) (hl : L.length ≤ 1000000) : Calls Tryz.prog 155 #[.slice (some ⟨g, 0, none⟩) L.length q] w fun e w' => CsP w L e w' := by
 obtain ⟨i0, hi, hz0, hz1, hz2⟩ := info_parts infoSpan
 have hcon := AnyE.slices_Clone laysClone i0 (.agg #[.int .i32 0, .int .i32 0]) 2 8 hi hz0 hz1 hz2 rfl (by decide) Tryz.sizeOf236 g 0 L.length q ((flatS L).map runeV) w (by rw [List.length_map, flatS_len]; omega) (by unfold maxLen; omega) (by omega) (fun j u hu => by rw [Nat.zero_add]; exact h.cells j u hu) (flatS_one L)
 change Calls Tryz.prog 155 _ _ _ at hcon
 refine hcon.mono ?_
 rintro e w' ⟨v', rfl, ho, hne, hb⟩
 rcases ownsRow_form ho with ⟨e1, _⟩ | ⟨g', q', e1, _⟩
 ·exact absurd e1 hne
 ·subst e1
  exact ⟨g', q', rfl, ho, hb⟩
theorem pclone_nil (w : World) (n c : Nat) : Calls Tryz.prog 155 #[.slice none n c] w fun e w' => e = .returned (.slice none 0 0) ∧ w' = w := AnyE.slices_Clone_nil laysClone n c w
end Go.Proofs.YthhnmpkgleelfaaGreatDoor
namespace Go.Proofs.YthhnmpkgleelfaaGreatDoor
open Go.RowKit Go.Shelf
def OpP (w : World) (L : Spans) (e : Ending) (w' : World) : Prop := ∃ (S : Spans) (A : Option Addr) (q : Nat), SortedS S ∧ S.Perm L ∧ e = .returned (.slice A (othP 0 S).length q) ∧ SpR w' w.heap.size (.slice A (othP 0 S).length q) (othP 0 S) ∧ Below w.heap.size w w'
def OtRl (w : World) (S : Spans) (s3 s4 s13 : Value) (wr : World) : Prop := ∃ (k : Nat) (O : Spans) (nx : Int) (A : Option Addr) (q : Nat), k ≤ S.length ∧ s13 = .int .i64 k ∧ s4 = .int .i32 nx ∧ s3 = .slice A O.length q ∧ Below w.heap.size w wr ∧ SpR wr w.heap.size (.slice A O.length q) O ∧ othP 0 S = O ++ othP nx (S.drop k) ∧ 0 ≤ nx ∧ nx ≤ 1114112 ∧ O.length ≤ k
theorem SpR.snoc {w : World} {base : Nat} {v : Value} {O : Spans} {a b : Int} (h : w.ownsRow base 236 2 v (O.length + 1) ((flatS O).map runeV ++ [.int .i32 a, .int .i32 b])) : SpR w base v (O ++ [(a, b)]) := by
 unfold SpR
 rw [List.length_append, flatS_append, List.map_append]
 exact h
theorem own_fresh {w : World} {base k n : Nat} {e : TypeId} {v : Value} {us : List Value} (h : w.ownsRow base e k v n us) : v.ownBlock ≠ some w.heap.size := by
 intro hb
 obtain ⟨_, cur, hc⟩ := ownsRow_block h hb
 exact Nat.lt_irrefl _ (lt_of_heap hc)
set_option maxHeartbeats 8000000 in
set_option maxRecDepth 100000 in
theorem pothers_any {w : World} {g q : Nat} {L : Spans} (h : RdSp w g L) (hb : BdS L) (hl : L.length ≤ 100000) : Calls Tryz.prog 152 #[.slice (some ⟨g, 0, none⟩) L.length q] w fun e w' => OpP w L e w' := by
 have Hcl := Lib.hid (pclone_any (q := q) h (by omega))
 have HB := Lib.hid hb
 clear h hb
 go_enter Tryz.func152, Tryz.ntmps152
 go_wp2_with fail
 (with_reducible refine Hcl.out.mono ?_)
 rintro e w1 ⟨g1, q1, rfl, hs1, hb1⟩
 have Hs1 := Lib.hid hs1
 have Hb1 := Lib.hid hb1
 clear hs1 hb1
 go_wp2_with fail
 (with_reducible refine (sort_any Hs1.out HB.out Hb1.out.size (by omega)).mono ?_)
 rintro e w2 ⟨S, hS, hP, rfl, hr, hb2⟩
 have Hb2 := Lib.hid (Hb1.out.trans hb2)
 have Hr := Lib.hid hr
 have HS := Lib.hid hS
 have HP := Lib.hid hP
 have HBS := Lib.hid (HB.out.perm hP)
 have hlen := hP.length_eq
 have hl1 : S.length ≤ L.length := by omega
 have hl2 : L.length ≤ S.length := by omega
 clear hS hP hr hb2
 go_wp2_with fail
 clear hlen
 obtain ⟨wo, hwo⟩ : ∃ wo : World, w2 = wo := ⟨_, rfl⟩
 subst hwo
 have hs2 := Hb2.out.size
 go_loopw [3, 4, 13] (fun s3 s4 s13 wr => OtRl w2 S s3 s4 s13 wr) (fun _ _ v _ => S.length - (intOf v).toNat)
 case atStart => exact ⟨0, [], 0, none, 0, Nat.zero_le _, rfl, rfl, rfl, Below.refl _ _, SpR.nil _ _, rfl, by decide, by decide, Nat.le_refl _⟩
 case round =>
  obtain ⟨k, O, nx, A3, q3, hk, rfl, rfl, rfl, hb, ho, he, n0, n1, hlo⟩ := hrel
  have Hb := Lib.hid hb
  have Ho := Lib.hid ho
  have He := Lib.hid he
  have hbs := hb.size
  by_cases hlt : k < S.length
  ·have hltL : k < L.length := by omega
   obtain ⟨⟨a, b⟩, hab⟩ : ∃ p, S[k]? = some p := ⟨_, List.getElem?_eq_getElem hlt⟩
   obtain ⟨c0, c1⟩ := (Hr.out.below hb) k _ hab
   rw [Nat.mul_comm] at c0 c1
   dsimp only at c0 c1
   have hbd := HBS.out _ (List.mem_of_getElem? hab)
   obtain ⟨a0, ab, b1⟩ := hbd
   dsimp only at a0 ab b1
   have hdr : S.drop k = (a, b) :: S.drop (k + 1) := by
    rw [List.drop_eq_getElem_cons hlt]
    congr 1
    rw [List.getElem?_eq_getElem hlt] at hab
    exact Option.some.inj hab
   have Hdr := Lib.hid hdr
   have hmx : max nx (b + 1) = (if nx ≤ b + 1 then b + 1 else nx) := by omega
   clear hb ho he hab hdr
   by_cases hn : nx < a
   ·have Hst := Lib.hid (show othP 0 S = (O ++ [(nx, a - 1)]) ++ othP (max nx (b + 1)) (S.drop (k + 1)) by
     rw [He.out, Hdr.out, othP, if_pos hn, List.append_assoc])
    have hi1 : IntKind.i32.wrap (a - 1) = a - 1 := by simp [IntKind.wrap, IntKind.bits, IntKind.signed]; omega
    have hi2 : IntKind.i32.wrap (b + 1) = b + 1 := by simp [IntKind.wrap, IntKind.bits, IntKind.signed]; omega
    clear hmx
    have Hal1 := Lib.hid (alloc_below wr (.cells #[.int .i32 a, .int .i32 b] 236))
    obtain ⟨w5, hw5⟩ : ∃ w5, wr.alloc (.cells #[.int .i32 a, .int .i32 b] 236) = w5 := ⟨_, rfl⟩
    rw [hw5] at Hal1
    have hw5s : w5.heap.size = wr.heap.size + 1 := by rw [← hw5, World.size_alloc]
    have Hal2 := Lib.hid (alloc_below w5 (.cells #[.int .i32 nx, .int .i32 (a - 1)] 236))
    have Hoa := Lib.hid ((Ho.out.below Hal1.out).below Hal2.out)
    have Hxb := Lib.hid (show (w5.alloc (.cells #[.int .i32 nx, .int .i32 (a - 1)] 236)).heap[wr.heap.size]? = some (.cells #[.int .i32 a, .int .i32 b] 236 (0, 0)) from quiet_heap (by rw [← hw5]; exact heap_alloc_new wr _) Hal2.out)
    have Hof := Lib.hid (own_fresh Ho.out)
    have hcn := cells_new w5 [.int .i32 nx, .int .i32 (a - 1)] 236
    rw [hw5s] at hcn
    have Hcn := Lib.hid hcn
    have Hba := Lib.hid (Hb.out.alloc hbs (.cells #[.int .i32 a, .int .i32 b] 236))
    rw [hw5] at Hba
    have Hbb := Lib.hid (Hba.out.alloc (by rw [hw5s]; omega) (.cells #[.int .i32 nx, .int .i32 (a - 1)] 236))
    have Hw5 := Lib.hid hw5
    have Hw5s := Lib.hid hw5s
    clear hcn hw5 hw5s
    go_wp2_with (at_builtin; rw [Hw5.out]; refine wpList_append_k elSpan rfl (.tmp 21) (.tmp 27) rfl w2.heap.size (.slice A3 O.length q3) O.length (wr.heap.size + 1) 1 1 ((flatS O).map runeV) [.int .i32 nx, .int .i32 (a - 1)] (by simp [Act.eval]) Hoa.out (by simp [Act.eval]) rfl Hcn.out (by simp [Value.oneCell']) (by unfold maxLen; omega) (by omega) (by rw [World.size_alloc, Hw5s.out]; omega) ?_; intro v' w6 h1 h2 h3; have Hp := Lib.hid h1; have Hg := Lib.hid h2; obtain ⟨A5, q5, rfl, -, -, -⟩ := ownsRow_slice h1; have e1 := row_cell ((h2.block wr.heap.size (by rw [World.size_alloc, Hw5s.out]; omega) (Ne.symm Hof.out)).trans Hxb.out) (j := 1) (u := .int .i32 b) rfl; clear h1 h2 h3)
    have hlo' : (O ++ [(nx, a - 1)]).length = O.length + 1 := by simp
    refine ⟨⟨k + 1, O ++ [(nx, a - 1)], max nx (b + 1), A5, q5, by omega, by go_num, ?_, by rw [hlo'], own_below Hbb.out Hoa.out Hbb.out.size Hg.out, ?_, Hst.out, by omega, by omega, by rw [hlo']; omega⟩, by simp [intOf]; omega⟩
    ·rfl
    ·rw [hlo']; exact SpR.snoc Hp.out
   ·have Hst := Lib.hid (show othP 0 S = O ++ othP (max nx (b + 1)) (S.drop (k + 1)) by
     rw [He.out, Hdr.out, othP, if_neg hn, List.nil_append])
    have hi2 : IntKind.i32.wrap (b + 1) = b + 1 := by simp [IntKind.wrap, IntKind.bits, IntKind.signed]; omega
    clear hmx
    have Hal1 := Lib.hid (alloc_below wr (.cells #[.int .i32 a, .int .i32 b] 236))
    have Hba := Lib.hid (Hb.out.alloc hbs (.cells #[.int .i32 a, .int .i32 b] 236))
    go_wp2_with fail
    refine ⟨⟨k + 1, O, max nx (b + 1), A3, q3, by omega, by go_num, ?_, rfl, Hba.out, Ho.out.below Hal1.out, Hst.out, by omega, by omega, by omega⟩, by simp [intOf]; omega⟩
    rfl
  ·have hltL : ¬ k < L.length := by omega
   obtain rfl : k = S.length := by omega
   have Hst := Lib.hid (show othP 0 S = O ++ othP nx [] by rw [He.out, List.drop_length])
   clear hb ho he
   by_cases hn : nx ≤ 1114111
   ·have Hst2 := Lib.hid (show othP 0 S = O ++ [(nx, 1114111)] by rw [Hst.out, othP, if_pos hn])
    have Hal2 := Lib.hid (alloc_below wr (.cells #[.int .i32 nx, .int .i32 1114111] 236))
    have Hoa := Lib.hid (Ho.out.below Hal2.out)
    have Hcn := Lib.hid (cells_new wr [.int .i32 nx, .int .i32 1114111] 236)
    have Hbb := Lib.hid (Hb.out.alloc hbs (.cells #[.int .i32 nx, .int .i32 1114111] 236))
    go_wp2_with (at_builtin; refine wpList_append_k elSpan rfl (.tmp 37) (.tmp 40) rfl w2.heap.size (.slice A3 O.length q3) O.length wr.heap.size 1 1 ((flatS O).map runeV) [.int .i32 nx, .int .i32 1114111] (by simp [Act.eval]) Hoa.out (by simp [Act.eval]) rfl Hcn.out (by simp [Value.oneCell']) (by unfold maxLen; omega) (by omega) (by simp; omega) ?_; intro v' w6 h1 h2 h3; have Hp := Lib.hid h1; have Hg := Lib.hid h2; obtain ⟨A5, q5, rfl, -, -, -⟩ := ownsRow_slice h1; clear h1 h2 h3)
    go_ret
    have hlo' : (othP 0 S).length = O.length + 1 := by rw [Hst2.out]; simp
    refine ⟨S, A5, q5, HS.out, HP.out, by rw [hlo']; rfl, ?_, Hb2.out.trans ((own_below Hbb.out Hoa.out Hbb.out.size Hg.out).mono hs2)⟩
    rw [hlo', Hst2.out]
    exact ownsRow_low (SpR.snoc Hp.out) hs2
   ·have Hst2 := Lib.hid (show othP 0 S = O by rw [Hst.out, othP, if_neg hn, List.append_nil])
    go_wp2_with fail
    go_ret
    refine ⟨S, A3, q3, HS.out, HP.out, by rw [Hst2.out]; rfl, ?_, Hb2.out.trans (Hb.out.mono hs2)⟩
    rw [Hst2.out]
    exact ownsRow_low Ho.out hs2
end Go.Proofs.YthhnmpkgleelfaaGreatDoor
