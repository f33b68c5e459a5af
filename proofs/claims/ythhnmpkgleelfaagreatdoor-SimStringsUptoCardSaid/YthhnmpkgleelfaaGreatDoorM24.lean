import Derived.Test.YthhnmpkgleelfaaGreatDoorM23
import Derived.Test.YthhnmpkgleelfaaGreatDoorM6
import Derived.Shelf.Lay
import Derived.Shelf.Small.Utf8
import Derived.Shelf.Slices.Turned
import Derived.Shelf.Slices.Clone
import Derived.Laws.IdiomStrings
set_option linter.unusedVariables false
set_option linter.unusedSimpArgs false
namespace Go.Proofs.YthhnmpkgleelfaaGreatDoor
open Go.RowKit Go.Shelf
def nodeV : Rx → Value
 | .emp => .iface 182 (.agg #[])
 | .chr c => .iface 216 (.agg #[.int .i32 c])
 | .any => .iface 208 (.agg #[])
 | .set cs => .iface 213 (.agg #[.string (rngB cs)])
 | .beg => .iface 170 (.agg #[])
 | .fin => .iface 171 (.agg #[])
 | .cat a b => .iface 172 (.agg #[nodeV a, nodeV b])
 | .alt a b => .iface 159 (.agg #[nodeV a, nodeV b])
 | .rep x mn mx => .iface 174 (.agg #[nodeV x, .int .i64 mn, .int .i64 mx])
def stV : St → Value
 | .done => .iface 118 (.agg #[])
 | .eat a t => .iface 130 (.agg #[nodeV a, .int .i64 t])
 | .here b t => .iface 145 (.agg #[.bool b, .int .i64 t])
 | .fork a b => .iface 143 (.agg #[.int .i64 a, .int .i64 b])
def Mch (w : World) (g : Nat) (M : List St) (st : Nat) : Prop := ∃ (A : Option Addr) (q : Nat), w.heap[g]? = some (.cells #[.slice A M.length q, .int .i64 st] 121 (0, 0)) ∧ Sl w (.slice A M.length q) (M.map stV)
theorem Mch.below {w w' : World} {g st : Nat} {M : List St} (h : Mch w g M st) (hb : Below w.heap.size w w') : Mch w' g M st := by
 obtain ⟨A, q, h1, h2⟩ := h
 exact ⟨A, q, (hb.block _ (lt_of_heap h1)).trans h1, h2.below hb⟩
theorem Mch.lt {w : World} {g st : Nat} {M : List St} (h : Mch w g M st) : g < w.heap.size := by obtain ⟨A, q, h1, h2⟩ := h; exact lt_of_heap h1
theorem Mch.cells {w : World} {g st : Nat} {M : List St} (h : Mch w g M st) : ∃ (A : Option Addr) (q : Nat), w.cell? ⟨g, 0, none⟩ = some (.slice A M.length q) ∧ w.cell? ⟨g, 1, none⟩ = some (.int .i64 st) ∧ Sl w (.slice A M.length q) (M.map stV) := by
 obtain ⟨A, q, h1, h2⟩ := h
 exact ⟨A, q, row_cell h1 (j := 0) rfl, row_cell h1 (j := 1) rfl, h2⟩
theorem st_cell {w : World} {A : Option Addr} {n q k : Nat} {M : List St} {z : St} (h : Sl w (.slice A n q) (M.map stV)) (hz : M[k]? = some z) : ∃ g o, A = some ⟨g, o, none⟩ ∧ w.cell? ⟨g, o + k, none⟩ = some (stV z) := by
 obtain ⟨_, A', c, e, _, hA⟩ := h
 obtain ⟨rfl, _, _⟩ := Value.slice.inj e
 have hlt := (List.getElem?_eq_some_iff.1 hz).1
 obtain ⟨g, o, rfl, hcl⟩ := hA (by rw [List.length_map]; omega)
 exact ⟨g, o, rfl, hcl k _ (by rw [List.getElem?_map, hz]; rfl)⟩
def lays119_ren : Go.Shelf.Ren := ⟨fun | 119 => 132 | n => n, fun | 21 => 21 | 4 => 4 | n => n, fun | n => n⟩
theorem lays119 : Go.Proofs.Lays.n119 Tryz.prog lays119_ren := {
 mixed := by kernel_rfl
 f119 := Tryz.func132.trans (congrArg some (by kernel_rfl))
 t4 := Tryz.underlying4
 a4 := Tryz.isAgg4
 z4 := Tryz.sizeOf4
 v4 := Tryz.zeroValue4
 t21 := Tryz.underlying21
 a21 := Tryz.isAgg21
 z21 := Tryz.sizeOf21
 v21 := Tryz.zeroValue21 }
theorem validrune_any (c : Int) (w : World) : Calls Tryz.prog 132 #[.int .i32 c] w fun e w' => e = .returned (.bool (Lib.validRune c)) ∧ w' = w := Any.utf8_ValidRune lays119 c w
def lays107_ren : Go.Shelf.Ren := ⟨fun | 107 => 53 | 108 => 78 | n => n, fun | 28 => 30 | 3 => 3 | 4 => 4 | 0 => 0 | n => n, fun | n => n⟩
theorem lays107 : Go.Proofs.Lays.n107 Tryz.prog lays107_ren := {
 mixed := by kernel_rfl
 f107 := Tryz.func53.trans (congrArg some (by kernel_rfl))
 f108 := Tryz.func78.trans (congrArg some (by kernel_rfl))
 t0 := Tryz.underlying0
 a0 := Tryz.isAgg0
 z0 := Tryz.sizeOf0
 v0 := Tryz.zeroValue0
 t3 := Tryz.underlying3
 a3 := Tryz.isAgg3
 z3 := Tryz.sizeOf3
 v3 := Tryz.zeroValue3
 t4 := Tryz.underlying4
 a4 := Tryz.isAgg4
 z4 := Tryz.sizeOf4
 v4 := Tryz.zeroValue4
 t28 := Tryz.underlying30
 a28 := Tryz.isAgg30
 z28 := Tryz.sizeOf30
 v28 := Tryz.zeroValue30 }
def lays15_ren : Go.Shelf.Ren := ⟨fun | 15 => 50 | n => n, fun | 22 => 30 | 3 => 3 | 4 => 4 | n => n, fun | n => n⟩
theorem lays15 : Go.Proofs.Lays2.n15 Tryz.prog lays15_ren := {
 mixed := by kernel_rfl
 f15 := Tryz.func50.trans (congrArg some (by kernel_rfl))
 t3 := Tryz.underlying3
 a3 := Tryz.isAgg3
 z3 := Tryz.sizeOf3
 v3 := Tryz.zeroValue3
 t4 := Tryz.underlying4
 a4 := Tryz.isAgg4
 z4 := Tryz.sizeOf4
 v4 := Tryz.zeroValue4
 t22 := Tryz.underlying30
 a22 := Tryz.isAgg30
 z22 := Tryz.sizeOf30
 v22 := Tryz.zeroValue30
 i3 := by kernel_rfl }
theorem getD_of (l : List Int) (j : Nat) (hj : j < l.length) : l[j]? = some (l.getD j 0) := by
 rw [List.getD_eq_getElem?_getD, List.getElem?_eq_getElem hj]; rfl
theorem sl_cells {w : World} {A : Option Addr} {n q : Nat} {l : List Int} (h : Sl w (.slice A n q) (l.map intV)) (h0 : 0 < l.length) : ∃ g o, A = some ⟨g, o, none⟩ ∧ n = l.length ∧ ∀ j, j < l.length → w.cell? ⟨g, o + j, none⟩ = some (.int .i64 (l.getD j 0)) := by
 obtain ⟨_, A', c, e, _, hA⟩ := h
 obtain ⟨rfl, rfl, _⟩ := Value.slice.inj e
 obtain ⟨g, o, rfl, hcl⟩ := hA (by rw [List.length_map]; omega)
 exact ⟨g, o, rfl, by rw [List.length_map], fun j hj => hcl j _ (by rw [List.getElem?_map, getD_of l j hj]; rfl)⟩
theorem sl_len {w : World} {A : Option Addr} {n q : Nat} {l : List Int} (h : Sl w (.slice A n q) (l.map intV)) : n = l.length := by
 obtain ⟨_, A', c, e, _, hA⟩ := h
 obtain ⟨_, rfl, _⟩ := Value.slice.inj e
 rw [List.length_map]
theorem contains_any {w : World} {A : Option Addr} {n q : Nat} {l : List Int} (h : Sl w (.slice A n q) (l.map intV)) (hl : l.length ≤ 10000000) (x : Int) : Calls Tryz.prog 53 #[.slice A n q, .int .i64 x] w fun e w' => e = .returned (.bool (decide (x ∈ l))) ∧ w' = w := by
 obtain rfl := sl_len h
 by_cases h0 : 0 < l.length
 ·obtain ⟨g, o, rfl, _, hcl⟩ := sl_cells h h0
  refine (Any.slices_Contains_int lays107 g o l.length q l x w (Nat.le_refl _) (by omega) hcl).mono ?_
  rintro e w' ⟨rfl, rfl⟩
  exact ⟨by rw [List.take_length, List.contains_eq_mem], rfl⟩
 ·obtain rfl : l = [] := List.eq_nil_of_length_eq_zero (by omega)
  refine (Any.slices_Contains_int_empty lays107 A q x w).mono ?_
  rintro e w' ⟨rfl, rfl⟩
  exact ⟨rfl, rfl⟩
theorem clone_any {w : World} {A : Option Addr} {n q : Nat} {l : List Int} (h : Sl w (.slice A n q) (l.map intV)) (hl : l.length ≤ 10000000) : Calls Tryz.prog 50 #[.slice A n q] w fun e w' => IntsP w l e w' := by
 obtain rfl := sl_len h
 cases A with
 | none =>
  have h0 : l.length = 0 := by
   apply Classical.byContradiction
   intro hne
   obtain ⟨g, o, e, _⟩ := sl_cells h (by omega)
   cases e
  obtain rfl : l = [] := List.eq_nil_of_length_eq_zero h0
  refine (Any.slices_Clone_int_nil lays15 0 q w).mono ?_
  rintro e w' ⟨rfl, rfl⟩
  exact ⟨none, 0, rfl, Below.refl _ _, ⟨rfl, .inl ⟨rfl, rfl⟩⟩⟩
 | some a =>
  by_cases h0 : 0 < l.length
  ·obtain ⟨g, o, e, _, hcl⟩ := sl_cells h h0
   cases e
   refine (Any.slices_Clone_int lays15 g o l.length q l w (Nat.le_refl _) (by omega) hcl).mono ?_
   rintro e w' ⟨v', rfl, ho, _, hb⟩
   rw [List.take_length] at ho
   obtain ⟨A', q', rfl, _, _, _⟩ := ownsRow_slice ho
   exact ⟨A', q', rfl, hb, ho⟩
  ·obtain rfl : l = [] := List.eq_nil_of_length_eq_zero (by omega)
   refine (Any.slices_Clone_int_zero lays15 a q w).mono ?_
   rintro e w' ⟨v', rfl, ho, _, hb⟩
   obtain ⟨A', q', rfl, _, _, _⟩ := ownsRow_slice ho
   exact ⟨A', q', rfl, hb, ho⟩
set_option maxHeartbeats 4000000 in
theorem pset_any {w : World} {v : Value} {y : List Bool} (hy : Fls w 0 v y) (hl : y.length ≤ 1000000) : Calls Tryz.prog 68 #[v] w fun e w' => IntsP w (idx 0 y) e w' := by
 obtain ⟨A, q, rfl, hA⟩ := hy.form
 have H := Lib.hid hy
 have HA := Lib.hid hA
 clear hy hA
 go_enter Tryz.func68, Tryz.ntmps68
 go_wp2_with fail
 go_loopw [3, 8] (fun s3 s8 wr => LiRel w y s3 s8 wr) (fun _ v _ => y.length - (intOf v).toNat)
 case atStart => exact ⟨0, [], none, 0, Nat.zero_le _, rfl, rfl, Below.refl _ _, ⟨rfl, .inl ⟨rfl, rfl⟩⟩, rfl, Nat.le_refl _⟩
 case round =>
  obtain ⟨k, pre, A3, q3, hk, rfl, rfl, hb, ho, he, hp⟩ := hrel
  have Hb := Lib.hid hb
  have Ho := Lib.hid ho
  have He := Lib.hid he
  have hbs := hb.size
  by_cases hlt : k < y.length
  ·obtain ⟨g, rfl⟩ := HA.out (by omega)
   obtain ⟨b, hbk⟩ : ∃ b, y[k]? = some b := ⟨_, List.getElem?_eq_getElem hlt⟩
   have c1 := (H.out.below hb).cell hbk
   have Hd := Lib.hid (drop_at hbk)
   have hki : (k : Int) < y.length := by omega
   clear hb ho he hbk
   cases b
   ·have Hst := Lib.hid (show idx 0 y = pre ++ idx (k + 1) (y.drop (k + 1)) by rw [He.out, Hd.out]; rfl)
    go_wp2_with fail
    exact ⟨⟨k + 1, pre, A3, q3, by omega, rfl, by go_num, Hb.out, Ho.out, Hst.out, by omega⟩, by simp [intOf]; omega⟩
   ·have Hst := Lib.hid (show idx 0 y = (pre ++ [(k : Int)]) ++ idx (k + 1) (y.drop (k + 1)) by rw [He.out, Hd.out, List.append_assoc]; rfl)
    have Hoa := Lib.hid (ownsRow_below Ho.out (alloc_below wr (.cells #[.int .i64 (k : Int)] 3)) (Nat.le_refl _))
    have Hcn := Lib.hid (cells_new wr [intV k] 3)
    go_wp2_with (at_builtin; refine wpList_append_k elInt rfl (.tmp 14) (.tmp 16) rfl w.heap.size (.slice A3 pre.length q3) pre.length wr.heap.size 1 1 (pre.map intV) [intV k] (by simp [Act.eval]) Hoa.out (by simp [Act.eval]) rfl Hcn.out (by simp [intV, Value.oneCell']) (by unfold maxLen; omega) (by omega) (by simp; omega) ?_; intro v' w5 h1 h2 h3; have Hp := Lib.hid h1; have Hg := Lib.hid h2; clear h1 h2 h3)
    obtain ⟨A5, q5, rfl, -, -, -⟩ := ownsRow_slice Hp.out
    have hb2 : Below w.heap.size w (wr.alloc (.cells #[.int .i64 (k : Int)] 3)) := Hb.out.alloc hbs _
    refine ⟨⟨k + 1, pre ++ [(k : Int)], A5, q5, by omega, by simp, by go_num, own_below hb2 Hoa.out hb2.size Hg.out, ?_, Hst.out, by simp; omega⟩, by simp [intOf]; omega⟩
    unfold Ints
    rw [List.length_append, List.map_append]
    exact Hp.out
  ·obtain rfl : k = y.length := by omega
   have Hst := Lib.hid (show idx 0 y = pre by rw [He.out, List.drop_length]; simp [idx])
   clear hb ho he
   go_wp2_with fail
   go_ret
   rw [Hst.out]
   exact ⟨A3, q3, rfl, Hb.out, Ho.out⟩
theorem valid_isR (c : Int) : Lib.validRune c = isR c := by
 unfold Lib.validRune YthhnmpkgleelfaaGreatDoor.isR
 rw [Bool.eq_iff_iff]
 simp
 omega
theorem vr_any (c : Int) (w : World) : Calls Tryz.prog 132 #[.int .i32 c] w fun e w' => e = .returned (.bool (isR c)) ∧ w' = w := by
 refine (validrune_any c w).mono ?_
 rintro e w' ⟨rfl, rfl⟩
 rw [valid_isR]
 exact ⟨rfl, rfl⟩
set_option maxHeartbeats 2000000 in
theorem pchr_any {d c : Int} (hd : isR d = true) (w : World) : Calls Tryz.prog 249 #[.agg #[.int .i32 d], .int .i32 c] w fun e w' => TkP (atomT (.chr d) (kn c)) w e w' := by
 rw [kn_chr hd]
 go_enter Tryz.func249, Tryz.ntmps249
 by_cases h : c = d
 ·subst h
  go_wp2_with fail
  (with_reducible refine (vr_any c _).mono ?_)
  rintro e w' ⟨rfl, rfl⟩
  go_wp2_with fail
  go_ret
  exact ⟨by simp, alloc_below _ _⟩
 ·have h' : (c == d) = false := by simpa using h
  go_wp2_with fail
  go_ret
  exact ⟨by simp [h], alloc_below _ _⟩
set_option maxHeartbeats 2000000 in
theorem pany_any {c : Int} (w : World) : Calls Tryz.prog 245 #[.agg #[], .int .i32 c] w fun e w' => TkP (atomT .any (kn c)) w e w' := by
 rw [kn_any]
 go_enter Tryz.func245, Tryz.ntmps245
 by_cases h1 : c = 10
 ·subst h1
  go_wp2_with fail
  go_ret
  exact ⟨by simp, alloc_below _ _⟩
 by_cases h2 : c = 13
 ·subst h2
  go_wp2_with fail
  go_ret
  exact ⟨by simp, alloc_below _ _⟩
 by_cases h3 : c = 8232
 ·subst h3
  go_wp2_with fail
  go_ret
  exact ⟨by simp, alloc_below _ _⟩
 by_cases h4 : c = 8233
 ·subst h4
  go_wp2_with fail
  go_ret
  exact ⟨by simp, alloc_below _ _⟩
 have k1 : (c == 10) = false := by simpa using h1
 have k2 : (c == 13) = false := by simpa using h2
 have k3 : (c == 8232) = false := by simpa using h3
 have k4 : (c == 8233) = false := by simpa using h4
 have hv := Lib.hid (show (isR c && (decide (c ≠ 10) && decide (c ≠ 13) && decide (c ≠ 8232) && decide (c ≠ 8233))) = isR c by simp [h1, h2, h3, h4])
 go_wp2_with fail
 (with_reducible refine (vr_any c _).mono ?_)
 rintro e w' ⟨rfl, rfl⟩
 go_wp2_with fail
 go_ret
 exact ⟨by rw [hv.out]; rfl, alloc_below _ _⟩
theorem conv_runes (w : World) {cs : List Int} (hc : ∀ c ∈ cs, isR c = true) (hn : cs.length ≤ 1200000) : ∃ (q : Nat) (w' : World), (convert 9 37 (.string (rngB cs))).run Tryz.prog w = .ok (.slice (some ⟨w.heap.size, 0, none⟩) cs.length q) w' ∧ Below w.heap.size w w' ∧ Rns w' w.heap.size (.slice (some ⟨w.heap.size, 0, none⟩) cs.length q) cs := by
 have hlen : ∀ l : List Int, (∀ c ∈ l, isR c = true) → l.length ≤ (l.flatMap frm).length := by
  intro l
  induction l with
  | nil => intro _; simp
  | cons c l ih =>
   intro h
   have h1 := ih (fun c hm => h c (List.mem_cons_of_mem _ hm))
   have hc := h c (by simp)
   obtain ⟨n, rfl⟩ : ∃ n : Nat, c = n := ⟨c.toNat, by have := isR_pos hc; omega⟩
   have hd := dec_of_frm n hc []
   have hp := dec_pos (xs := frm (n : Int) ++ []) (by rw [hd])
   rw [hd] at hp
   simp only [List.flatMap_cons, List.length_append, List.length_cons]
   simp only at hp
   omega
 have hbd : cs.length ≤ (rngB cs).size := by
  have h1 := hlen cs hc
  have h2 : (rngB cs).size = (cs.flatMap frm).length := by simp [rngB, ByteArray.size]
  omega
 have hr : Conv.runesFrom (rngB cs) (rngB cs).size 0 #[] = (cs.map runeV).toArray := by
  rw [runes_frm (rngB cs) cs (rngB cs).size 0 #[] hc (by simp [rngB]) hbd, Array.empty_append]
  rfl
 have hsz : (Conv.runesFrom (rngB cs) (rngB cs).size 0 #[]).size = cs.length := by rw [hr]; simp
 have hrun := run_runes_of_string (P := Tryz.prog) w 9 37 21 (rngB cs) Tryz.underlying9 Tryz.underlying37 Tryz.underlying21 (by rw [hsz]; omega)
 rw [hsz, hr] at hrun
 refine ⟨_, _, hrun, (Below.refl _ _).drew.alloc (Nat.le_refl _) _, ?_⟩
 have hg := grownCap_ge w cs.length 0 21
 refine ⟨by simp, .inr ⟨w.heap.size, _, _, rfl, Nat.le_refl _, heap_alloc_new w.drew _, hg, ?_, ?_, ?_⟩⟩
 ·exact grownCap_le_maxLen w cs.length 0 21 (by unfold maxLen; omega)
 ·simp; omega
 ·simp
set_option maxHeartbeats 4000000 in
theorem pset_takes {cs : List Int} {c : Int} (hg : Gaps cs) (hc : ∀ c ∈ cs, isR c = true) (w : World) : Calls Tryz.prog 247 #[.agg #[.string (rngB cs)], .int .i32 c] w fun e w' => TkP (atomT (.set cs) (kn c)) w e w' := by
 rw [kn_set]
 obtain ⟨hsz, hev, hcl⟩ := rng_size hg hc
 obtain ⟨q, w2, hconv, hb1, hr1⟩ := conv_runes (w.alloc (.cells #[.string (rngB cs)] 213)) hc hcl
 have Hb := Lib.hid ((alloc_below w (.cells #[.string (rngB cs)] 213)).trans (hb1.mono (by simp)))
 have Hrow := Lib.hid hr1
 rw [World.size_alloc] at hconv Hrow
 clear hb1 hr1 hg hc
 generalize hB : rngB cs = B at *
 clear hB hsz
 go_enter Tryz.func247, Tryz.ntmps247
 go_wp2_with fail
 clear hconv
 go_loopw [6] (fun s6 wr => TkRel w2 cs c s6 wr) (fun v _ => cs.length - (intOf v).toNat)
 case atStart => exact ⟨0, by omega, rfl, by simp, rfl⟩
 case round =>
  obtain ⟨k, hk, rfl, hin, hw⟩ := hrel
  subst hw
  have Hin := Lib.hid hin
  clear hin
  by_cases hlt : 2 * k + 1 < cs.length
  ·obtain ⟨a, b, ga, gb, hd⟩ := drop_two hlt
   have ca := ownsRow_cell Hrow.out rfl (2 * k) (by omega)
   have cb := ownsRow_cell Hrow.out rfl (2 * k + 1) (by omega)
   rw [List.getElem?_map, ga] at ca
   rw [List.getElem?_map, gb] at cb
   simp only [Option.map_some, runeV] at ca cb
   have Hd := Lib.hid hd
   have hw0 : (2 * (k : Int)).toNat = 2 * k := by omega
   have hw1 : IntKind.i64.wrap (2 * (k : Int) + 1) = 2 * (k : Int) + 1 := IntWalk.i64_in _ (by omega)
   have hw2 : (2 * (k : Int) + 1).toNat = 2 * k + 1 := by omega
   have hlt' : 2 * (k : Int) + 1 < cs.length := by omega
   have hst : inB cs c = ((decide (a ≤ c) && decide (c ≤ b)) || inB (cs.drop (2 * (k + 1))) c) := by rw [Hin.out, Hd.out]; rfl
   have Hst := Lib.hid hst
   clear ga gb hd hst
   by_cases h1 : a ≤ c
   ·by_cases h2 : c ≤ b
    ·have e := Lib.hid (show (inB cs c && isR c) = isR c by rw [Hst.out]; simp [h1, h2])
     go_wp2_with fail
     (with_reducible refine (vr_any c _).mono ?_)
     rintro e' w' ⟨rfl, rfl⟩
     go_wp2_with fail
     go_ret
     exact ⟨by rw [e.out]; rfl, Hb.out⟩
    ·have e := Lib.hid (show inB cs c = inB (cs.drop (2 * (k + 1))) c by rw [Hst.out]; simp [h2])
     go_wp2_with fail
     exact ⟨⟨k + 1, by omega, by go_num, e.out, rfl⟩, by simp [intOf]; omega⟩
   ·have e := Lib.hid (show inB cs c = inB (cs.drop (2 * (k + 1))) c by rw [Hst.out]; simp [h1])
    go_wp2_with fail
    exact ⟨⟨k + 1, by omega, by go_num, e.out, rfl⟩, by simp [intOf]; omega⟩
  ·have hlt' : ¬ 2 * (k : Int) + 1 < cs.length := by omega
   have e := Lib.hid (show inB cs c = false by rw [Hin.out, List.drop_of_length_le (by omega)]; rfl)
   go_wp2_with fail
   go_ret
   exact ⟨by rw [e.out]; rfl, Hb.out⟩
set_option maxHeartbeats 2000000 in
theorem len_any {w : World} {g st : Nat} {M : List St} (h : Mch w g M st) : Calls Tryz.prog 52 #[.pointer (some ⟨g, 0, none⟩)] w fun e w' => IntP M.length w e w' := by
 obtain ⟨A, q, c0, c1, -⟩ := h.cells
 go_enter Tryz.func52, Tryz.ntmps52
 go_wp2_with fail
 go_ret
 exact ⟨rfl, rfl⟩
set_option maxHeartbeats 2000000 in
theorem start_any {w : World} {g st : Nat} {M : List St} (h : Mch w g M st) : Calls Tryz.prog 69 #[.pointer (some ⟨g, 0, none⟩)] w fun e w' => IntP st w e w' := by
 obtain ⟨A, q, c0, c1, -⟩ := h.cells
 go_enter Tryz.func69, Tryz.ntmps69
 go_wp2_with fail
 go_ret
 exact ⟨rfl, rfl⟩
set_option maxHeartbeats 2000000 in
theorem state_any {w : World} {g st k : Nat} {M : List St} {z : St} (h : Mch w g M st) (hz : M[k]? = some z) (hl : M.length ≤ 1000000) : Calls Tryz.prog 67 #[.pointer (some ⟨g, 0, none⟩), .int .i64 k] w fun e w' => e = .returned (.tuple #[stV z, .bool true]) ∧ w' = w := by
 obtain ⟨A, q, c0, c1, hs⟩ := h.cells
 have hk := (List.getElem?_eq_some_iff.1 hz).1
 obtain ⟨gs, o, rfl, hc⟩ := st_cell hs hz
 clear hs h hz
 generalize stV z = u at *
 have k1 : ¬ (k : Int) < 0 := by omega
 have k2 : ¬ (M.length : Int) ≤ k := by omega
 go_enter Tryz.func67, Tryz.ntmps67
 go_wp2_with fail
 go_ret2
 exact ⟨rfl, rfl⟩
theorem ta_hit {x t : TypeId} {d : TypeDesc} (hu : Tryz.prog.underlying t = some d) (hd : ∀ m, d ≠ .interface m) (v : Value) (w : World) : (Instr.typeAssert (.iface t v) x t true).run Tryz.prog w = .ok (.tuple #[v, .bool true]) w := by
 unfold Instr.typeAssert
 cases d <;> simp_all [run_underlying hu]
theorem ta_miss {x t u : TypeId} {d : TypeDesc} {z : Value} (hu : Tryz.prog.underlying t = some d) (hd : ∀ m, d ≠ .interface m) (hne : u ≠ t) (hz : ∀ w, (zeroValue t).run Tryz.prog w = .ok z w) (v : Value) (w : World) : (Instr.typeAssert (.iface u v) x t true).run Tryz.prog w = .ok (.tuple #[z, .bool false]) w := by
 unfold Instr.typeAssert
 cases d <;> simp_all [run_underlying hu]
def falses (g : Nat) (w : World) : Nat := match w.heap[g]? with
 | some (.cells cs _ _) => cs.toList.countP (fun v => match v with | .bool false => true | _ => false)
 | _ => 0
theorem Fls.falses {w : World} {base g n : Nat} {sn : List Bool} (h : Fls w base (.slice (some ⟨g, 0, none⟩) n n) sn) : YthhnmpkgleelfaaGreatDoor.falses g w = sn.count false := by
 obtain ⟨hl, hf⟩ := h
 rcases hf with ⟨e, _⟩ | ⟨g', cap, cur, e, _, hg, _, _, hs, ht⟩
 ·cases e
 ·injection e with e1 e2 e3
  injection e1 with e1
  injection e1 with e1 _
  subst e1 e2 e3
  unfold YthhnmpkgleelfaaGreatDoor.falses
  rw [hg]
  simp only
  have hc : cur.toList = sn.map boolV := by
   rw [← ht, List.take_of_length_le]
   rw [Array.length_toList, hs, Nat.mul_one]
   omega
  rw [hc, List.countP_map, List.count]
  apply List.countP_congr
  intro b _
  cases b <;> simp [boolV]
theorem Ints.take {w : World} {base q : Nat} {A : Option Addr} {l : List Int} (h : Ints w base (.slice A l.length q) l) (m : Nat) (h0 : 0 < l.length) (hm : m ≤ l.length) : Ints w base (.slice A m q) (l.take m) := by
 have hm' : (l.take m).length = m := by rw [List.length_take]; omega
 obtain ⟨hl, hf⟩ := h
 rcases hf with ⟨_, e⟩ | ⟨g', cap, cur, e, hb, hg, hc, hmx, hs, ht⟩
 ·omega
 ·injection e with e1 e2 e3
  subst e1 e3
  refine ⟨by rw [List.length_map, Nat.mul_one], .inr ⟨g', _, cur, by rw [hm'], hb, hg, by omega, hmx, hs, ?_⟩⟩
  rw [hm', Nat.mul_one, List.map_take, ← ht, List.take_take]
  congr 1
  omega
theorem fls_kept {w w' : World} {base base2 n2 : Nat} {v v2 : Value} {sn : List Bool} {us2 : List Value} (h : Fls w base v sn) (ho : w.ownsRow base2 3 1 v2 n2 us2) (hg : w.grownBy w' v2.ownBlock) : Fls w' base v sn := by
 refine World.ownsRow.kept h hg ?_
 cases hb : v.ownBlock with
 | none => exact .inl rfl
 | some g' =>
  refine .inr (fun e' => ?_)
  obtain ⟨_, cur, h1⟩ := ownsRow_block h hb
  obtain ⟨_, cur2, h2⟩ := ownsRow_block ho e'.symm
  rw [h1] at h2
  injection h2 with h2
  injection h2 with _ h2 _
  cases h2
theorem ints_kept {w w' : World} {base base2 n2 : Nat} {v v2 : Value} {l : List Int} {us2 : List Value} (h : Ints w base v l) (ho : w.ownsRow base2 4 1 v2 n2 us2) (hg : w.grownBy w' v2.ownBlock) : Ints w' base v l := by
 refine World.ownsRow.kept h hg ?_
 cases hb : v.ownBlock with
 | none => exact .inl rfl
 | some g' =>
  refine .inr (fun e' => ?_)
  obtain ⟨_, cur, h1⟩ := ownsRow_block h hb
  obtain ⟨_, cur2, h2⟩ := ownsRow_block ho e'.symm
  rw [h1] at h2
  injection h2 with h2
  injection h2 with _ h2 _
  cases h2
def sLen : Value → Nat
 | .slice _ n _ => n
 | _ => 0
def StRel (w : World) (M : List St) (first last : Bool) (l : List Int) (s10 : Value) (wr : World) : Prop := ∃ (sn : List Bool) (td : List Int) (A : Option Addr) (q : Nat), s10 = .slice A td.length q ∧ Below w.heap.size w wr ∧ Fls wr w.heap.size (.slice (some ⟨w.heap.size, 0, none⟩) M.length M.length) sn ∧ Ints wr w.heap.size (.slice A td.length q) td ∧ StI M first last l sn td ∧ td.length + 3 * sn.count false ≤ l.length + 3 * M.length
def StillP (w : World) (M : List St) (first last : Bool) (l : List Int) (e : Ending) (w' : World) : Prop := ∃ y : List Bool, StillY M first last l y ∧ IntsP w (idx 0 y) e w'
theorem snoc_of {td : List Int} (h : 0 < td.length) : ∃ (m : Nat) (t : List Int) (i : Int), td = t ++ [i] ∧ t.length = m ∧ td.length = m + 1 ∧ td.take m = t := by
 have hne : td ≠ [] := List.ne_nil_of_length_pos h
 refine ⟨td.length - 1, td.dropLast, td.getLast hne, (List.dropLast_concat_getLast hne).symm, by simp, by omega, ?_⟩
 rw [List.dropLast_eq_take]
set_option maxHeartbeats 32000000 in
set_option maxRecDepth 100000 in
theorem still_any {w : World} {g st : Nat} {M : List St} {A0 : Option Addr} {n0 q0 : Nat} {l : List Int} (first last : Bool) (h : Mch w g M st) (hl : Sl w (.slice A0 n0 q0) (l.map intV)) (hw : Wf M) (hM : M.length ≤ 100000) (hll : l.length ≤ 100000) (hin : ∀ i ∈ l, ∃ q : Nat, i = q ∧ q < M.length) :
  Calls Tryz.prog 54 #[.pointer (some ⟨g, 0, none⟩), .slice A0 n0 q0, .bool first, .bool last] w fun e w' => StillP w M first last l e w' := by
 have hmk := run_make_flags M.length (by omega)
 have Hal := Lib.hid (alloc_below w (.cells (Array.replicate M.length (.bool false)) 4))
 have Hfl := Lib.hid (fls_made w M.length (by omega) (Nat.le_refl w.heap.size))
 have hgl := h.lt
 have Hm := Lib.hid h
 have Hl := Lib.hid hl
 have Hw := Lib.hid hw
 have Hin := Lib.hid hin
 obtain ⟨A, q, c0, c1, -⟩ := h.cells
 clear h hl hw hin
 go_enter Tryz.func54, Tryz.ntmps54
 go_wp2_with fail
 (with_reducible refine (clone_any (Hl.out.below Hal.out) (by omega)).mono ?_)
 rintro e w1 ⟨A1, q1, rfl, hb1, ho1⟩
 have Hb1 := Lib.hid (Hal.out.trans (hb1.mono Hal.out.size))
 have Hf1 := Lib.hid (Hfl.out.below hb1)
 have Ho1 := Lib.hid (ho1.low Hal.out.size)
 clear hb1 ho1 c0 c1 hmk
 go_wp2_with fail
 go_loopw [10] (fun s10 wr => StRel w M first last l s10 wr) (fun v wr => sLen v + 3 * falses w.heap.size wr)
 case atStart => exact ⟨List.replicate M.length false, l, A1, q1, rfl, Hb1.out, Hf1.out, Ho1.out, StI.start Hin.out, by simp⟩
 case round =>
  obtain ⟨sn, td, A3, q3, rfl, hb, hf, ho, hi, hms⟩ := hrel
  have Hb := Lib.hid hb
  have Hf := Lib.hid hf
  have Ho := Lib.hid ho
  have Hi := Lib.hid hi
  have hbs := hb.size
  clear hb hf ho hi
  by_cases hlt : 0 < td.length
  ·obtain ⟨m, t, i, rfl, htm, htl, htk⟩ := snoc_of hlt
   obtain ⟨iq, rfl, hiq⟩ := Hi.out.rng i (by simp)
   obtain ⟨gt, rfl⟩ : ∃ gt, A3 = some ⟨gt, 0, none⟩ := by
    obtain ⟨_, _, e, _, _, hA⟩ := ownsRow_slice Ho.out
    obtain ⟨g', e'⟩ := hA hlt
    exact ⟨g', (Value.slice.inj e).1.trans e'⟩
   have hq3 : m + 1 ≤ q3 := by
    obtain ⟨_, _, e, hc, _⟩ := ownsRow_slice Ho.out
    rw [(Value.slice.inj e).2.2, ← htl]; exact hc
   have cl : wr.cell? ⟨gt, m, none⟩ = some (.int .i64 (iq : Int)) := by
    have h1 := ownsRow_cell Ho.out rfl m (by omega)
    rw [h1, List.getElem?_map, List.getElem?_append_right (by omega), htm, Nat.sub_self]
    rfl
   have ht := Ho.out.take m hlt (by omega)
   rw [htk] at ht
   have Ht := Lib.hid ht
   obtain ⟨n, hn⟩ : ∃ n, (t ++ [(iq : Int)]).length = n := ⟨_, rfl⟩
   have hnm : n = m + 1 := by omega
   rw [hn] at hms
   have Hn := Lib.hid hn
   have Hnm := Lib.hid hnm
   have hmm : (m : Int) ≤ 400000 := by omega
   have hsub : (n : Int) - 1 = m := by omega
   have hpos : 0 < (n : Int) := by omega
   have hmn : (m : Int) < n := by omega
   have hmq : (m : Int) ≤ q3 := by omega
   have hiq1 : ¬ (M.length : Int) ≤ iq := by omega
   have Htm := Lib.hid htm
   rw [hn]
   clear ht hn hnm htl htk htm Ho hlt hq3
   obtain ⟨b, hbs2⟩ : ∃ b, sn[iq]? = some b := ⟨_, List.getElem?_eq_getElem (by rw [Hi.out.len]; exact hiq)⟩
   have cs := Hf.out.cell hbs2
   have Hbs2 := Lib.hid hbs2
   clear hbs2
   cases b with
   | true =>
    go_wp2_with fail
    exact ⟨⟨sn, t, some ⟨gt, 0, none⟩, q3, by rw [Htm.out], Hb.out, Hf.out, by rw [Htm.out]; exact Ht.out, Hi.out.pop Hbs2.out, by rw [Htm.out]; omega⟩, by simp only [sLen]; omega⟩
   | false =>
    have hfz := Hf.out.frozen iq
    obtain ⟨z, hz⟩ : ∃ z, M[iq]? = some z := ⟨_, List.getElem?_eq_getElem hiq⟩
    obtain ⟨A, q, c0, -, hs⟩ := Hm.out.cells
    obtain ⟨g2, o2, rfl, cz⟩ := st_cell hs hz
    have hg2 := Lib.lt_of_cell cz
    have hst := Hf.out.set iq true
    have d0 := hst.2.cell (cell_later Hb.out c0) (fun e => by have e2 : g = w.heap.size := Option.some.inj e; omega)
    have dz := hst.2.cell (cell_later Hb.out cz) (fun e => by have e2 : g2 = w.heap.size := Option.some.inj e; have hg3 : g2 < w.heap.size := hg2; omega)
    have Hst := Lib.hid hst.1
    have Htk := Lib.hid (ints_kept Ht.out Hf.out hst.2)
    have Hbw := Lib.hid (below_set (k := iq) (u := .bool true) Hb.out (Nat.le_refl _) hbs)
    have hcnt := count_set Hbs2.out
    have Hfm := Lib.hid (show falses w.heap.size (wr.setCell ⟨w.heap.size, iq, none⟩ (.bool true)) + 1 = falses w.heap.size wr by rw [hst.1.falses, Hf.out.falses]; exact hcnt)
    have Hwz := Lib.hid (Hw.out _ (List.mem_of_getElem? hz))
    have Hz := Lib.hid hz
    clear hs c0 cz hst hz
    obtain ⟨ws, hws⟩ : ∃ ws, wr.setCell ⟨w.heap.size, iq, none⟩ (.bool true) = ws := ⟨_, rfl⟩
    have hwsz : ws.heap.size = wr.heap.size := by rw [← hws]; simp
    have Hwsz := Lib.hid hwsz
    rw [hws] at Hst Htk Hbw Hfm
    have Hws := Lib.hid hws
    clear hwsz hws
    cases z with
    | done =>
     have Hmk := Lib.hid (Hi.out.mark (N := []) (fun r => ⟨fun h => by simp at h, fun h => by
      rcases h with ⟨_, h, _⟩ | ⟨_, _, h, _⟩ <;> (rw [Hz.out] at h; cases h)⟩) (fun i h => by simp at h))
     rw [List.append_nil] at Hmk
     simp only [stV] at dz
     have T1 := ta_miss (x := 124) (u := 118) Tryz.underlying143 (fun m h => by cases h) (by decide) Tryz.zeroValue143
     have T2 := ta_miss (x := 124) (u := 118) Tryz.underlying145 (fun m h => by cases h) (by decide) Tryz.zeroValue145
     go_wp2_with fail
     rw [Hws.out]
     exact ⟨⟨sn.set iq true, t, some ⟨gt, 0, none⟩, q3, by rw [Htm.out], Hbw.out, Hst.out, by rw [Htm.out]; exact Htk.out, Hmk.out, by rw [Htm.out]; omega⟩, by have := Hfm.out; simp only [sLen]; omega⟩
    | eat r tt =>
     have Hmk := Lib.hid (Hi.out.mark (N := []) (fun r => ⟨fun h => by simp at h, fun h => by
      rcases h with ⟨_, h, _⟩ | ⟨_, _, h, _⟩ <;> (rw [Hz.out] at h; cases h)⟩) (fun i h => by simp at h))
     rw [List.append_nil] at Hmk
     simp only [stV] at dz
     have T1 := ta_miss (x := 124) (u := 130) Tryz.underlying143 (fun m h => by cases h) (by decide) Tryz.zeroValue143
     have T2 := ta_miss (x := 124) (u := 130) Tryz.underlying145 (fun m h => by cases h) (by decide) Tryz.zeroValue145
     go_wp2_with fail
     rw [Hws.out]
     exact ⟨⟨sn.set iq true, t, some ⟨gt, 0, none⟩, q3, by rw [Htm.out], Hbw.out, Hst.out, by rw [Htm.out]; exact Htk.out, Hmk.out, by rw [Htm.out]; omega⟩, by have := Hfm.out; simp only [sLen]; omega⟩
    | fork a b =>
     have ha : a < M.length ∧ b < M.length := Hwz.out
     have Hmk := Lib.hid (Hi.out.mark (N := [(a : Int), (b : Int)]) (fun r => ⟨fun h => .inr ⟨a, b, Hz.out, by simp at h; omega⟩, fun h => by
      rcases h with ⟨_, h, _⟩ | ⟨_, _, h, h2⟩
      ·rw [Hz.out] at h; cases h
      ·rw [Hz.out] at h; cases h
       rcases h2 with rfl | rfl <;> simp⟩) (fun i h => by
      simp at h
      rcases h with rfl | rfl
      ·exact ⟨a, rfl, ha.1⟩
      ·exact ⟨b, rfl, ha.2⟩))
     simp only [stV] at dz
     have T1 := ta_hit (x := 124) Tryz.underlying143 (fun m h => by cases h)
     have Hal1 := Lib.hid (alloc_below ws (.cells #[.int .i64 a, .int .i64 b] 143))
     obtain ⟨w5, hw5⟩ : ∃ w5, ws.alloc (.cells #[.int .i64 a, .int .i64 b] 143) = w5 := ⟨_, rfl⟩
     rw [hw5] at Hal1
     have hw5s : w5.heap.size = wr.heap.size + 1 := by rw [← hw5, World.size_alloc, Hwsz.out]
     have Hal2 := Lib.hid (alloc_below w5 (.cells #[.int .i64 a, .int .i64 b] 3))
     have h9 := (Htk.out.below Hal1.out).below Hal2.out
     unfold Ints at h9
     rw [Htm.out] at h9
     have Hoa := Lib.hid h9
     clear h9
     have Hfa := Lib.hid ((Hst.out.below Hal1.out).below Hal2.out)
     have hcn := cells_new w5 [intV a, intV b] 3
     rw [hw5s] at hcn
     have Hcn := Lib.hid hcn
     have Hba := Lib.hid ((Hbw.out.alloc (by rw [Hwsz.out]; exact hbs) (.cells #[.int .i64 a, .int .i64 b] 143)))
     rw [hw5] at Hba
     have Hbb := Lib.hid (Hba.out.alloc (by rw [hw5s]; omega) (.cells #[.int .i64 a, .int .i64 b] 3))
     have Hw5 := Lib.hid hw5
     have Hw5s := Lib.hid hw5s
     clear hcn hw5 hw5s
     go_wp2_with (at_builtin; rw [Hws.out, Hw5.out]; refine wpList_append_k elInt rfl (.tmp 63) (.tmp 68) rfl w.heap.size (.slice (some ⟨gt, 0, none⟩) m q3) m (wr.heap.size + 1) 2 2 (t.map intV) [intV a, intV b] (by simp [Act.eval]) Hoa.out (by simp [Act.eval]) rfl Hcn.out (by simp [intV, Value.oneCell']) (by unfold maxLen; omega) (by omega) (by rw [World.size_alloc, Hw5s.out]; omega) ?_; intro v' w6 h1 h2 h3; have Hp := Lib.hid h1; have Hg := Lib.hid h2; clear h1 h2 h3)
     obtain ⟨A5, q5, rfl, -, -, -⟩ := ownsRow_slice Hp.out
     have hf6 := fls_kept Hfa.out Hoa.out Hg.out
     refine ⟨⟨sn.set iq true, t ++ [(a : Int), (b : Int)], A5, q5, by rw [List.length_append, Htm.out]; rfl, own_below Hbb.out Hoa.out Hbb.out.size Hg.out, hf6, ?_, Hmk.out, by rw [List.length_append, Htm.out]; simp; omega⟩, ?_⟩
     ·unfold Ints
      rw [List.length_append, List.map_append, Htm.out]
      exact Hp.out
     ·rw [hf6.falses, Hf.out.falses]
      have := hcnt
      simp only [sLen]; omega
    | here bb tt =>
     have ha : tt < M.length := Hwz.out
     simp only [stV] at dz
     have T1 := ta_miss (x := 124) (u := 145) Tryz.underlying143 (fun m h => by cases h) (by decide) Tryz.zeroValue143
     have T2 := ta_hit (x := 124) Tryz.underlying145 (fun m h => by cases h)
     by_cases hc : (bb = false ∧ first = true) ∨ (bb = true ∧ last = true)
     ·have Hmk := Lib.hid (Hi.out.mark (N := [(tt : Int)]) (fun r => ⟨fun h => .inl ⟨bb, (by simp at h; rw [show r = tt by omega]; exact Hz.out), hc⟩, fun h => by
       rcases h with ⟨_, h, _⟩ | ⟨_, _, h, _⟩
       ·rw [Hz.out] at h; cases h; simp
       ·rw [Hz.out] at h; cases h⟩) (fun i h => by simp at h; exact ⟨tt, h, ha⟩))
      rcases hc with ⟨rfl, rfl⟩ | ⟨rfl, rfl⟩
      ·skip
       have Hal1 := Lib.hid (alloc_below ws (.cells #[.bool false, .int .i64 tt] 145))
       obtain ⟨w5, hw5⟩ : ∃ w5, ws.alloc (.cells #[.bool false, .int .i64 tt] 145) = w5 := ⟨_, rfl⟩
       rw [hw5] at Hal1
       have hw5s : w5.heap.size = wr.heap.size + 1 := by rw [← hw5, World.size_alloc, Hwsz.out]
       have Hal2 := Lib.hid (alloc_below w5 (.cells #[.int .i64 tt] 3))
       have h9 := (Htk.out.below Hal1.out).below Hal2.out
       unfold Ints at h9
       rw [Htm.out] at h9
       have Hoa := Lib.hid h9
       clear h9
       have Hfa := Lib.hid ((Hst.out.below Hal1.out).below Hal2.out)
       have hcn := cells_new w5 [intV tt] 3
       rw [hw5s] at hcn
       have Hcn := Lib.hid hcn
       have Hba := Lib.hid ((Hbw.out.alloc (by rw [Hwsz.out]; exact hbs) (.cells #[.bool false, .int .i64 tt] 145)))
       rw [hw5] at Hba
       have Hbb := Lib.hid (Hba.out.alloc (by rw [hw5s]; omega) (.cells #[.int .i64 tt] 3))
       have Hw5 := Lib.hid hw5
       have Hw5s := Lib.hid hw5s
       clear hcn hw5 hw5s
       go_wp2_with (at_builtin; rw [Hws.out, Hw5.out]; refine wpList_append_k elInt rfl (.tmp 86) (.tmp 89) rfl w.heap.size (.slice (some ⟨gt, 0, none⟩) m q3) m (wr.heap.size + 1) 1 1 (t.map intV) [intV tt] (by simp [Act.eval]) Hoa.out (by simp [Act.eval]) rfl Hcn.out (by simp [intV, Value.oneCell']) (by unfold maxLen; omega) (by omega) (by rw [World.size_alloc, Hw5s.out]; omega) ?_; intro v' w6 h1 h2 h3; have Hp := Lib.hid h1; have Hg := Lib.hid h2; clear h1 h2 h3)
       obtain ⟨A5, q5, rfl, -, -, -⟩ := ownsRow_slice Hp.out
       have hf6 := fls_kept Hfa.out Hoa.out Hg.out
       refine ⟨⟨sn.set iq true, t ++ [(tt : Int)], A5, q5, by rw [List.length_append, Htm.out]; rfl, own_below Hbb.out Hoa.out Hbb.out.size Hg.out, hf6, ?_, Hmk.out, by rw [List.length_append, Htm.out]; simp; omega⟩, ?_⟩
       ·unfold Ints
        rw [List.length_append, List.map_append, Htm.out]
        exact Hp.out
       ·rw [hf6.falses, Hf.out.falses]
        have := hcnt
        simp only [sLen]; omega
      ·skip
       have Hal1 := Lib.hid (alloc_below ws (.cells #[.bool true, .int .i64 tt] 145))
       obtain ⟨w5, hw5⟩ : ∃ w5, ws.alloc (.cells #[.bool true, .int .i64 tt] 145) = w5 := ⟨_, rfl⟩
       rw [hw5] at Hal1
       have hw5s : w5.heap.size = wr.heap.size + 1 := by rw [← hw5, World.size_alloc, Hwsz.out]
       have Hal2 := Lib.hid (alloc_below w5 (.cells #[.int .i64 tt] 3))
       have h9 := (Htk.out.below Hal1.out).below Hal2.out
       unfold Ints at h9
       rw [Htm.out] at h9
       have Hoa := Lib.hid h9
       clear h9
       have Hfa := Lib.hid ((Hst.out.below Hal1.out).below Hal2.out)
       have hcn := cells_new w5 [intV tt] 3
       rw [hw5s] at hcn
       have Hcn := Lib.hid hcn
       have Hba := Lib.hid ((Hbw.out.alloc (by rw [Hwsz.out]; exact hbs) (.cells #[.bool true, .int .i64 tt] 145)))
       rw [hw5] at Hba
       have Hbb := Lib.hid (Hba.out.alloc (by rw [hw5s]; omega) (.cells #[.int .i64 tt] 3))
       have Hw5 := Lib.hid hw5
       have Hw5s := Lib.hid hw5s
       clear hcn hw5 hw5s
       go_wp2_with (at_builtin; rw [Hws.out, Hw5.out]; refine wpList_append_k elInt rfl (.tmp 86) (.tmp 89) rfl w.heap.size (.slice (some ⟨gt, 0, none⟩) m q3) m (wr.heap.size + 1) 1 1 (t.map intV) [intV tt] (by simp [Act.eval]) Hoa.out (by simp [Act.eval]) rfl Hcn.out (by simp [intV, Value.oneCell']) (by unfold maxLen; omega) (by omega) (by rw [World.size_alloc, Hw5s.out]; omega) ?_; intro v' w6 h1 h2 h3; have Hp := Lib.hid h1; have Hg := Lib.hid h2; clear h1 h2 h3)
       obtain ⟨A5, q5, rfl, -, -, -⟩ := ownsRow_slice Hp.out
       have hf6 := fls_kept Hfa.out Hoa.out Hg.out
       refine ⟨⟨sn.set iq true, t ++ [(tt : Int)], A5, q5, by rw [List.length_append, Htm.out]; rfl, own_below Hbb.out Hoa.out Hbb.out.size Hg.out, hf6, ?_, Hmk.out, by rw [List.length_append, Htm.out]; simp; omega⟩, ?_⟩
       ·unfold Ints
        rw [List.length_append, List.map_append, Htm.out]
        exact Hp.out
       ·rw [hf6.falses, Hf.out.falses]
        have := hcnt
        simp only [sLen]; omega
     ·have hcf : ∀ b f l : Bool, b = bb → f = first → l = last → ((b = false ∧ f = false) ∨ (b = true ∧ l = false)) := by
       rintro b f l rfl rfl rfl
       cases b <;> cases f <;> cases l <;> simp at hc ⊢
      rcases hcf bb first last rfl rfl rfl with ⟨rfl, rfl⟩ | ⟨rfl, rfl⟩
      ·skip
       have Hal1 := Lib.hid (alloc_below ws (.cells #[.bool false, .int .i64 tt] 145))
       have Hba := Lib.hid (Hbw.out.alloc (by rw [Hwsz.out]; exact hbs) (.cells #[.bool false, .int .i64 tt] 145))
       have Hmk := Lib.hid (Hi.out.mark (N := []) (fun r => ⟨fun h => by simp at h, fun h => by
        rcases h with ⟨_, h, h2⟩ | ⟨_, _, h, _⟩
        ·rw [Hz.out] at h; cases h; simp at h2
        ·rw [Hz.out] at h; cases h⟩) (fun i h => by simp at h))
       rw [List.append_nil] at Hmk
       go_wp2_with fail
       rw [Hws.out]
       refine ⟨⟨sn.set iq true, t, some ⟨gt, 0, none⟩, q3, by rw [Htm.out], Hba.out, Hst.out.below Hal1.out, by rw [Htm.out]; exact Htk.out.below Hal1.out, Hmk.out, by rw [Htm.out]; omega⟩, ?_⟩
       rw [(Hst.out.below Hal1.out).falses, Hf.out.falses]
       have := hcnt
       simp only [sLen]; omega
      ·skip
       have Hal1 := Lib.hid (alloc_below ws (.cells #[.bool true, .int .i64 tt] 145))
       have Hba := Lib.hid (Hbw.out.alloc (by rw [Hwsz.out]; exact hbs) (.cells #[.bool true, .int .i64 tt] 145))
       have Hmk := Lib.hid (Hi.out.mark (N := []) (fun r => ⟨fun h => by simp at h, fun h => by
        rcases h with ⟨_, h, h2⟩ | ⟨_, _, h, _⟩
        ·rw [Hz.out] at h; cases h; simp at h2
        ·rw [Hz.out] at h; cases h⟩) (fun i h => by simp at h))
       rw [List.append_nil] at Hmk
       go_wp2_with fail
       rw [Hws.out]
       refine ⟨⟨sn.set iq true, t, some ⟨gt, 0, none⟩, q3, by rw [Htm.out], Hba.out, Hst.out.below Hal1.out, by rw [Htm.out]; exact Htk.out.below Hal1.out, Hmk.out, by rw [Htm.out]; omega⟩, ?_⟩
       rw [(Hst.out.below Hal1.out).falses, Hf.out.falses]
       have := hcnt
       simp only [sLen]; omega
  ·obtain rfl : td = [] := List.eq_nil_of_length_eq_zero (by omega)
   have Hdn := Lib.hid Hi.out.done
   have Hfl2 := Lib.hid (Hf.out.low (Nat.zero_le _))
   have hsl : sn.length = M.length := Hi.out.len
   rw [← hsl] at Hfl2
   go_wp2_with fail
   rw [← hsl]
   (with_reducible refine (pset_any Hfl2.out (by omega)).mono ?_)
   rintro e w4 ⟨A4, q4, rfl, hb4, ho4⟩
   have Hb4 := Lib.hid (Hb.out.trans (hb4.mono Hb.out.size))
   have Ho4 := Lib.hid (ho4.low Hb.out.size)
   clear hb4 ho4
   go_wp2_with fail
   go_ret
   exact ⟨sn, Hdn.out, A4, q4, rfl, Hb4.out, Ho4.out⟩
end Go.Proofs.YthhnmpkgleelfaaGreatDoor
