import Derived.Test.YthhnmpkgleelfaaGreatDoorM29
import Derived.Test.YthhnmpkgleelfaaGreatDoorM15
set_option linter.unusedVariables false
set_option linter.unusedSimpArgs false
namespace Go.Proofs.YthhnmpkgleelfaaGreatDoor
open Go.RowKit Go.Shelf
theorem cell_kept {w w' : World} {g o : Nat} {x : Obj} (h : w.heap[g]? = some x) (k : w'.heap[g]? = some x) : w'.cell? ⟨g, o, none⟩ = w.cell? ⟨g, o, none⟩ := by
 unfold World.cell?; simp [h, k]
def SwRel (w : World) (B b n : Nat) (cs : List Int) (g : Nat) (cur : Array Value) (z : Nat × Nat) (s10 : Value) (wr : World) : Prop :=
 ∃ k : Nat, 2 * k ≤ cs.length ∧ s10 = .int .i64 (2 * (k : Int)) ∧ BdP w B b (n + 1 + 25 * k) wr ∧ wr.heap[g]? = some (.cells cur 21 z)
theorem quiet_heap {w w' : World} {g : Nat} {x : Obj} (h : w.heap[g]? = some x) (hb : Below w.heap.size w w') : w'.heap[g]? = some x := (hb.block _ (lt_of_heap h)).trans h
set_option maxHeartbeats 8000000 in
set_option maxRecDepth 100000 in
theorem pwr_set {cs : List Int} (hg : Gaps cs) (hc : ∀ c ∈ cs, isR c = true) : PWr (.set cs) := by
 intro w B b n h hT hn
 have hB := hT.size
 show Calls Tryz.prog 116 #[.pointer (some ⟨b, 0, none⟩), .iface 213 (.agg #[.string (rngB cs)])] w _
 obtain ⟨hsz, hev, hcl⟩ := rng_size hg hc
 have Hcv := Lib.hid (fun w1 => conv_runes w1 hc hcl)
 have Hr := Lib.hid (fun (i : Nat) (c : Int) (h : cs[i]? = some c) => (isR_iff c).1 (hc c (List.mem_of_getElem? h)))
 have hwl : wlen (.set cs) = 2 + 25 * cs.length := rfl
 rw [hwl] at hn ⊢
 have Hne := Lib.hid (show w.heap.size ≠ b by have := h.lt; omega)
 have Hbl := Lib.hid h.lt
 clear hg hc hwl hT
 generalize rngB cs = S at *
 clear hsz
 have T0 := ta_miss (x := 71) (u := 213) Tryz.underlying216 (fun m h => by cases h) (by decide) Tryz.zeroValue216
 have T1 := ta_miss (x := 71) (u := 213) Tryz.underlying208 (fun m h => by cases h) (by decide) Tryz.zeroValue208
 have T2 := ta_miss (x := 71) (u := 213) Tryz.underlying170 (fun m h => by cases h) (by decide) Tryz.zeroValue170
 have T3 := ta_miss (x := 71) (u := 213) Tryz.underlying171 (fun m h => by cases h) (by decide) Tryz.zeroValue171
 have T4 := ta_hit (x := 71) Tryz.underlying213 (fun m h => by cases h)
 have Hbx := Lib.hid (heap_alloc_new w (.cells #[.string S] 213))
 have Hb1 := Lib.hid ((BdP.start h).quiet (alloc_below w (.cells #[.string S] 213)) hB)
 clear h
 go_enter Tryz.func116, Tryz.ntmps116
 go_wp2_with fail
 (with_reducible refine (wbyte_any Hb1.out.bd 91 (by decide) (by decide) (by omega) (Hb1.out.hB hB)).mono ?_)
 rintro e w2 ⟨rfl, hb2⟩
 have Hb2 := Lib.hid (Hb1.out.trans hb2)
 have hx2 := bdp_heap hb2 Hbx.out Hne.out (by decide)
 have d0 := row_cell hx2 (j := 0) rfl
 obtain ⟨q, w3, hconv, hb3, hr3⟩ := Hcv.out w2
 have Hb3 := Lib.hid (Hb2.out.quiet hb3 hB)
 have Hrow := Lib.hid hr3
 have hgb : w2.heap.size ≠ b := by have := Hb2.out.bd.lt; omega
 have Hgb := Lib.hid hgb
 obtain ⟨-, cur, hcur⟩ := ownsRow_block hr3 rfl
 have Hcur := Lib.hid hcur
 clear hb2 hx2 hb3 hr3 hgb hcur
 generalize w2.heap.size = g at *
 go_wp2_with fail
 clear hconv d0
 go_loopw [10] (fun s10 wr => SwRel w B b n cs g cur (0, 0) s10 wr) (fun v _ => cs.length - (intOf v).toNat)
 case atStart => exact ⟨0, by omega, rfl, Hb3.out, Hcur.out⟩
 case round =>
  obtain ⟨k, hk, rfl, hb, hx⟩ := hrel
  have Hb := Lib.hid hb
  have Hx := Lib.hid hx
  clear hb hx
  have hw1 : IntKind.i64.wrap (2 * (k : Int) + 1) = 2 * (k : Int) + 1 := IntWalk.i64_in _ (by omega)
  by_cases hlt : 2 * k + 1 < cs.length
  ·obtain ⟨a, b', ga, gb, -⟩ := drop_two hlt
   have Hca := Lib.hid (show ∀ w' : World, w'.heap[g]? = some (.cells cur 21 (0, 0)) → w'.cell? ⟨g, 2 * k, none⟩ = some (.int .i32 a) from fun w' h => by
    rw [cell_kept Hcur.out h, ownsRow_cell Hrow.out rfl (2 * k) (by omega), List.getElem?_map, ga]; rfl)
   have Hcb := Lib.hid (show ∀ w' : World, w'.heap[g]? = some (.cells cur 21 (0, 0)) → w'.cell? ⟨g, 2 * k + 1, none⟩ = some (.int .i32 b') from fun w' h => by
    rw [cell_kept Hcur.out h, ownsRow_cell Hrow.out rfl (2 * k + 1) (by omega), List.getElem?_map, gb]; rfl)
   obtain ⟨a1, a2, -⟩ := Hr.out _ _ ga
   obtain ⟨b1, b2, -⟩ := Hr.out _ _ gb
   have hw0 : (2 * (k : Int)).toNat = 2 * k := by omega
   have hw2 : (2 * (k : Int) + 1).toNat = 2 * k + 1 := by omega
   have hlt' : 2 * (k : Int) + 1 < cs.length := by omega
   have ca := Hca.out _ Hx.out
   have cb := Hcb.out _ Hx.out
   clear ga gb
   go_wp2_with fail
   clear ca cb
   (with_reducible refine (coded_any Hb.out.bd a a1 a2 (by omega) (Hb.out.hB hB)).mono ?_)
   rintro e w4 ⟨rfl, hb4⟩
   have Hb4 := Lib.hid (Hb.out.trans hb4)
   have Hx4 := Lib.hid (bdp_heap hb4 Hx.out Hgb.out (by decide))
   have ca := Hca.out _ Hx4.out
   have cb := Hcb.out _ Hx4.out
   clear hb4
   go_wp2_with fail
   by_cases hab : a < b'
   ·go_quiet (fail)
    go_wp2_with fail
    generalize hq : World.drewN _ _ = w5
    have Hq := Lib.hid (show Below w4.heap.size w4 w5 by rw [← hq]; exact blw_drewN (Below.refl _ _) _)
    clear hq ca cb
    have Hb5 := Lib.hid (Hb4.out.quiet Hq.out hB)
    have Hx5 := Lib.hid (quiet_heap Hx4.out Hq.out)
    (with_reducible refine (wbyte_any Hb5.out.bd 45 (by decide) (by decide) (by omega) (Hb5.out.hB hB)).mono ?_)
    rintro e w6 ⟨rfl, hb6⟩
    have Hb6 := Lib.hid (Hb5.out.trans hb6)
    have Hx6 := Lib.hid (bdp_heap hb6 Hx5.out Hgb.out (by decide))
    have cb := Hcb.out _ Hx6.out
    clear hb6
    go_wp2_with fail
    clear cb
    (with_reducible refine (coded_any Hb6.out.bd b' b1 b2 (by omega) (Hb6.out.hB hB)).mono ?_)
    rintro e w7 ⟨rfl, hb7⟩
    have Hb7 := Lib.hid ((Hb6.out.trans hb7).more (show n + 1 + 25 * k + 12 + 1 + 12 ≤ n + 1 + 25 * (k + 1) by omega))
    have Hx7 := Lib.hid (bdp_heap hb7 Hx6.out Hgb.out (by decide))
    clear hb7
    go_wp2_with fail
    exact ⟨⟨k + 1, by omega, by go_num, Hb7.out, Hx7.out⟩, by simp [intOf]; omega⟩
   ·go_quiet (fail)
    go_wp2_with fail
    generalize hq : World.drewN _ _ = w5
    have Hq := Lib.hid (show Below w4.heap.size w4 w5 by rw [← hq]; exact blw_drewN (Below.refl _ _) _)
    clear hq ca cb
    have Hb5 := Lib.hid ((Hb4.out.quiet Hq.out hB).more (show n + 1 + 25 * k + 12 ≤ n + 1 + 25 * (k + 1) by omega))
    have Hx5 := Lib.hid (quiet_heap Hx4.out Hq.out)
    exact ⟨⟨k + 1, by omega, by go_num, Hb5.out, Hx5.out⟩, by simp [intOf]; omega⟩
  ·go_wp2_with fail
   (with_reducible refine (wbyte_any Hb.out.bd 93 (by decide) (by decide) (by omega) (Hb.out.hB hB)).mono ?_)
   rintro e w6 ⟨rfl, hb6⟩
   have Hb6 := Lib.hid ((Hb.out.trans hb6).more (show n + 1 + 25 * k + 1 ≤ n + (2 + 25 * cs.length) by omega))
   clear hb6
   go_wp2_with fail
   go_end0
   exact ⟨rfl, Hb6.out⟩
set_option maxHeartbeats 8000000 in
set_option maxRecDepth 100000 in
theorem pwr_rep {a : Rx} {mn mx : Int} (ha : PWr a) (h1 : 0 ≤ mn) (h2 : mn ≤ 1000) (h3 : mx = -1 ∨ (mn ≤ mx ∧ mx ≤ 1000)) : PWr (.rep a mn mx) := by
 intro w B b n h hT hn
 have hB := hT.size
 show Calls Tryz.prog 116 #[.pointer (some ⟨b, 0, none⟩), .iface 174 (.agg #[nodeV a, .int .i64 mn, .int .i64 mx])] w _
 have T0 := ta_miss (x := 71) (u := 174) Tryz.underlying216 (fun m h => by cases h) (by decide) Tryz.zeroValue216
 have T1 := ta_miss (x := 71) (u := 174) Tryz.underlying208 (fun m h => by cases h) (by decide) Tryz.zeroValue208
 have T2 := ta_miss (x := 71) (u := 174) Tryz.underlying170 (fun m h => by cases h) (by decide) Tryz.zeroValue170
 have T3 := ta_miss (x := 71) (u := 174) Tryz.underlying171 (fun m h => by cases h) (by decide) Tryz.zeroValue171
 have T4 := ta_miss (x := 71) (u := 174) Tryz.underlying213 (fun m h => by cases h) (by decide) Tryz.zeroValue213
 have T5 := ta_hit (x := 71) Tryz.underlying174 (fun m h => by cases h)
 have hwl : wlen (.rep a mn mx) = wlen a + 68 := rfl
 rw [hwl] at hn ⊢
 obtain ⟨m, hm⟩ : ∃ m, wlen a = m := ⟨_, rfl⟩
 rw [hm] at hn ⊢
 have Hm := Lib.hid hm
 have Ha := Lib.hid ha
 have H3 := Lib.hid h3
 have HT := Lib.hid hT
 have Hne := Lib.hid (show w.heap.size ≠ b by have := h.lt; omega)
 obtain ⟨za, qa, hat⟩ := atom_ta a
 obtain ⟨ta, xa, hva⟩ := nodeV_iface a
 rw [hva] at hat ⊢
 have Hva := Lib.hid hva
 clear hwl hm ha hva hT h3
 have hbx := heap_alloc_new w (.cells #[.iface ta xa, .int .i64 mn, .int .i64 mx] 174)
 have hal := alloc_below w (.cells #[.iface ta xa, .int .i64 mn, .int .i64 mx] 174)
 have Hb1 := Lib.hid ((BdP.start h).quiet hal hB)
 have Hbx := Lib.hid hbx
 clear h hbx hal
 go_enter Tryz.func116, Tryz.ntmps116
 go_wp2_with fail
 clear hat
 generalize w.alloc (.cells #[.iface ta xa, .int .i64 mn, .int .i64 mx] 174) = w1 at *
 rw [← Hva.out]
 (with_reducible refine (pgrp_any Ha.out _ Hb1.out.bd (Hb1.out.tb HT.out) (by rw [Hm.out]; omega)).mono ?_)
 rw [Hva.out]
 rintro e w2 ⟨rfl, hb2⟩
 rw [Hm.out] at hb2
 have Hb2 := Lib.hid (Hb1.out.trans hb2)
 have hx2 := bdp_heap hb2 Hbx.out Hne.out (by decide)
 have d0 := row_cell hx2 (j := 0) rfl
 have d1 := row_cell hx2 (j := 1) rfl
 have d2 := row_cell hx2 (j := 2) rfl
 clear hb2 hx2
 go_wp2_with fail
 (with_reducible refine (braces_any Hb2.out.bd (Hb2.out.tb HT.out).tabs ta xa h1 h2 H3.out (by omega) (Hb2.out.hB hB)).mono ?_)
 rintro e w3 ⟨rfl, hb3⟩
 have Hb3 := Lib.hid ((Hb2.out.trans hb3).more (show n + m + 4 + 64 ≤ n + (m + 68) by omega))
 clear hb3 d0 d1 d2
 go_wp2_with fail
 go_end0
 exact ⟨rfl, Hb3.out⟩
theorem pairS {w' : World} {g : Nat} {t ta tb : TypeId} {xa xb : Value} (h : w'.heap[g]? = some (.cells #[.iface ta xa, .iface tb xb] t (0, 0))) : w'.cell? ⟨g, 0, none⟩ = some (.iface ta xa) ∧ w'.cell? ⟨g, 1, none⟩ = some (.iface tb xb) := ⟨row_cell h (j := 0) rfl, row_cell h (j := 1) rfl⟩
set_option maxHeartbeats 8000000 in
set_option maxRecDepth 100000 in
theorem pwr_alt {a b' : Rx} (ha : PWr a) (hb' : PWr b') : PWr (.alt a b') := by
 intro w B b n h hT hn
 have hB := hT.size
 show Calls Tryz.prog 116 #[.pointer (some ⟨b, 0, none⟩), .iface 159 (.agg #[nodeV a, nodeV b'])] w _
 have T0 := ta_miss (x := 71) (u := 159) Tryz.underlying216 (fun m h => by cases h) (by decide) Tryz.zeroValue216
 have T1 := ta_miss (x := 71) (u := 159) Tryz.underlying208 (fun m h => by cases h) (by decide) Tryz.zeroValue208
 have T2 := ta_miss (x := 71) (u := 159) Tryz.underlying170 (fun m h => by cases h) (by decide) Tryz.zeroValue170
 have T3 := ta_miss (x := 71) (u := 159) Tryz.underlying171 (fun m h => by cases h) (by decide) Tryz.zeroValue171
 have T4 := ta_miss (x := 71) (u := 159) Tryz.underlying213 (fun m h => by cases h) (by decide) Tryz.zeroValue213
 have T5 := ta_miss (x := 71) (u := 159) Tryz.underlying174 (fun m h => by cases h) (by decide) Tryz.zeroValue174
 have T6 := ta_miss (x := 71) (u := 159) Tryz.underlying172 (fun m h => by cases h) (by decide) Tryz.zeroValue172
 have T7 := ta_hit (x := 71) Tryz.underlying159 (fun m h => by cases h)
 have hwl : wlen (.alt a b') = wlen a + wlen b' + 5 := rfl
 rw [hwl] at hn ⊢
 obtain ⟨m, hm⟩ : ∃ m, wlen a = m := ⟨_, rfl⟩
 obtain ⟨m', hm'⟩ : ∃ m, wlen b' = m := ⟨_, rfl⟩
 rw [hm, hm'] at hn ⊢
 have Hm := Lib.hid hm
 have Hm' := Lib.hid hm'
 have Ha := Lib.hid ha
 have Hb' := Lib.hid hb'
 have HT := Lib.hid hT
 have Hne := Lib.hid (show w.heap.size ≠ b by have := h.lt; omega)
 obtain ⟨ta, xa, hva⟩ := nodeV_iface a
 obtain ⟨tb, xb, hvb⟩ := nodeV_iface b'
 rw [hva, hvb]
 have Hva := Lib.hid hva
 have Hvb := Lib.hid hvb
 clear hwl hm hm' ha hb' hva hvb hT
 have hbx := heap_alloc_new w (.cells #[.iface ta xa, .iface tb xb] 159)
 have hal := alloc_below w (.cells #[.iface ta xa, .iface tb xb] 159)
 have Hb1 := Lib.hid ((BdP.start h).quiet hal hB)
 have Hbx := Lib.hid hbx
 clear h hbx hal
 go_enter Tryz.func116, Tryz.ntmps116
 go_wp2_with fail
 generalize w.alloc (.cells #[.iface ta xa, .iface tb xb] 159) = w1 at *
 obtain ⟨wq, hwq⟩ : ∃ wq, w1.drew = wq := ⟨_, rfl⟩
 have HR := Lib.hid (Hb1.out.quiet (show Below _ _ wq by rw [← hwq]; exact (Below.refl _ _).drew) hB)
 have HH := Lib.hid (show wq.heap[w.heap.size]? = some (.cells #[.iface ta xa, .iface tb xb] 159 (0, 0)) by rw [← hwq]; exact Hbx.out)
 clear Hb1 Hbx
 obtain ⟨q1, hq1⟩ : ∃ q, alB a = q := ⟨_, rfl⟩
 refine wp_region_noPanic ?_
 refine wp_region_held_drew (S := fun w' => w'.cell? ⟨w.heap.size, 0, none⟩ = some (.iface ta xa) ∧ w'.cell? ⟨w.heap.size, 1, none⟩ = some (.iface tb xb)) (by kernel_rfl) ((by rw [hwq]; exact pairS HH.out)) (fun hHeld => ?_)
 refine tkH 0 (v := ?v0) (nth rfl) (by kernel_rfl) (by kernel_rfl) (by kernel_rfl) (fun _ _ _ h => h) (by rfl) hHeld ?y0 ?r0
 case y0 => (intro w hSw; (try dsimp only at hSw); go_simp; (try with_reducible rfl))
 try simp only [Act.put, pA, pB, pC]
 refine tkH 1 (v := ?v1) (nth rfl) (by kernel_rfl) (by kernel_rfl) (by kernel_rfl) (fun _ _ _ h => h) (by rfl) hHeld ?y1 ?r1
 case y1 => (intro w hSw; (try dsimp only at hSw); go_simp; (try with_reducible rfl))
 try simp only [Act.put, pA, pB, pC]
 refine tkH 2 (v := ?v2) (nth rfl) (by kernel_rfl) (by kernel_rfl) (by kernel_rfl) (fun _ _ _ h => h) (by rfl) hHeld ?y2 ?r2
 case y2 => (intro w hSw; (try dsimp only at hSw); go_simp; (try with_reducible rfl))
 try simp only [Act.put, pA, pB, pC]
 refine tkH 3 (v := ?v3) (nth rfl) (by kernel_rfl) (by kernel_rfl) (by kernel_rfl) (fun _ _ _ h => h) (by rfl) hHeld ?y3 ?r3
 case y3 => (intro w hSw; (try dsimp only at hSw); go_simp; (try with_reducible rfl))
 try simp only [Act.put, pA, pB, pC]
 refine tkH 4 (v := ?v4) (nth rfl) (by kernel_rfl) (by kernel_rfl) (by kernel_rfl) (fun _ _ _ h => h) (by rfl) hHeld ?y4 ?r4
 case y4 => (intro w hSw; (try dsimp only at hSw); go_simp; (try with_reducible rfl))
 try simp only [Act.put, pA, pB, pC]
 refine wpAnyH_ready (rs := [5]) (by kernel_rfl) (by simp) ?_
 refine AllReadyH.cons (nth rfl) (fun K hK => ?_) AllReadyH.nil
 go_simp
 clear hwq; rw [← Hva.out]; refine (isalt_any a _).mono ?_; rintro e wn ⟨rfl, hb⟩; have HH := Lib.hid (quiet_heap HH.out hb); have HR := Lib.hid (HR.out.quiet hb hB); rw [Hva.out, hq1]; clear hb; go_simp
 refine hK.out _ _ (pairS HH.out) (fun hHeld => ?_)
 clear hK K
 try simp only [Act.put, pA, pB, pC]
 refine wpAnyH_ready (rs := [6]) (by kernel_rfl) (by simp) ?_
 refine AllReadyH.cons (nth rfl) (fun K hK => ?_) AllReadyH.nil
 go_simp
 rw [← Hva.out]; (with_reducible refine (pgrp_any Ha.out q1 HR.out.bd (HR.out.tb HT.out) (by rw [Hm.out]; omega)).mono ?_); rw [Hva.out]; rintro e wn ⟨rfl, hb⟩; rw [Hm.out] at hb; have HH := Lib.hid (bdp_heap hb HH.out Hne.out (by decide)); have HR := Lib.hid (HR.out.trans hb); clear hb; go_simp
 refine hK.out _ _ (pairS HH.out) (fun hHeld => ?_)
 clear hK K
 try simp only [Act.put, pA, pB, pC]
 refine wpAnyH_done (by kernel_rfl) (NoPanic.normal ?_) _
 clear hHeld
 go_wp2_with fail
 (with_reducible refine (wbyte_any HR.out.bd 124 (by decide) (by decide) (by omega) (HR.out.hB hB)).mono ?_)
 rintro e w5 ⟨rfl, hb5⟩
 have HH := Lib.hid (bdp_heap hb5 HH.out Hne.out (by decide))
 have HR := Lib.hid (HR.out.trans hb5)
 have d1 := (pairS HH.out).2
 clear hb5
 go_wp2_with fail
 rw [← Hvb.out]
 (with_reducible refine (Hb'.out.go HR.out.bd (HR.out.tb HT.out) (by rw [Hm'.out]; omega)).mono ?_)
 rw [Hvb.out]
 rintro e w6 ⟨rfl, hb6⟩
 rw [Hm'.out] at hb6
 have HR := Lib.hid ((HR.out.trans hb6).more (show n + m + 4 + 1 + m' ≤ n + (m + m' + 5) by omega))
 clear hb6 d1
 go_wp2_with fail
 go_end0
 exact ⟨rfl, HR.out⟩
def CtM (w : World) (B b n g : Nat) (x y : Value) (_ : Value) (wx : World) : Prop := BdP w B b n wx ∧ wx.heap[g]? = some (.cells #[x, y] 172 (0, 0))
set_option maxHeartbeats 8000000 in
set_option maxRecDepth 100000 in
theorem pwr_cat {a b' : Rx} (ha : PWr a) (hb' : PWr b') : PWr (.cat a b') := by
 intro w B b n h hT hn
 have hB := hT.size
 show Calls Tryz.prog 116 #[.pointer (some ⟨b, 0, none⟩), .iface 172 (.agg #[nodeV a, nodeV b'])] w _
 have T0 := ta_miss (x := 71) (u := 172) Tryz.underlying216 (fun m h => by cases h) (by decide) Tryz.zeroValue216
 have T1 := ta_miss (x := 71) (u := 172) Tryz.underlying208 (fun m h => by cases h) (by decide) Tryz.zeroValue208
 have T2 := ta_miss (x := 71) (u := 172) Tryz.underlying170 (fun m h => by cases h) (by decide) Tryz.zeroValue170
 have T3 := ta_miss (x := 71) (u := 172) Tryz.underlying171 (fun m h => by cases h) (by decide) Tryz.zeroValue171
 have T4 := ta_miss (x := 71) (u := 172) Tryz.underlying213 (fun m h => by cases h) (by decide) Tryz.zeroValue213
 have T5 := ta_miss (x := 71) (u := 172) Tryz.underlying174 (fun m h => by cases h) (by decide) Tryz.zeroValue174
 have T6 := ta_hit (x := 71) Tryz.underlying172 (fun m h => by cases h)
 have hwl : wlen (.cat a b') = wlen a + wlen b' + 8 := rfl
 rw [hwl] at hn ⊢
 obtain ⟨m, hm⟩ : ∃ m, wlen a = m := ⟨_, rfl⟩
 obtain ⟨m', hm'⟩ : ∃ m, wlen b' = m := ⟨_, rfl⟩
 rw [hm, hm'] at hn ⊢
 have Hm := Lib.hid hm
 have Hm' := Lib.hid hm'
 have Ha := Lib.hid ha
 have Hb' := Lib.hid hb'
 have HT := Lib.hid hT
 have Hne := Lib.hid (show w.heap.size ≠ b by have := h.lt; omega)
 obtain ⟨ta, xa, hva⟩ := nodeV_iface a
 obtain ⟨tb, xb, hvb⟩ := nodeV_iface b'
 rw [hva, hvb]
 have Hva := Lib.hid hva
 have Hvb := Lib.hid hvb
 clear hwl hm hm' ha hb' hva hvb hT
 have hbx := heap_alloc_new w (.cells #[.iface ta xa, .iface tb xb] 172)
 have hal := alloc_below w (.cells #[.iface ta xa, .iface tb xb] 172)
 have Hb1 := Lib.hid ((BdP.start h).quiet hal hB)
 have Hbx := Lib.hid hbx
 clear h hbx hal
 go_enter Tryz.func116, Tryz.ntmps116
 go_wp2_with fail
 generalize w.alloc (.cells #[.iface ta xa, .iface tb xb] 172) = w1 at *
 obtain ⟨wq, hwq⟩ : ∃ wq, w1.drew = wq := ⟨_, rfl⟩
 have HR := Lib.hid (Hb1.out.quiet (show Below _ _ wq by rw [← hwq]; exact (Below.refl _ _).drew) hB)
 have HH := Lib.hid (show wq.heap[w.heap.size]? = some (.cells #[.iface ta xa, .iface tb xb] 172 (0, 0)) by rw [← hwq]; exact Hbx.out)
 clear Hb1 Hbx
 obtain ⟨q1, hq1⟩ : ∃ q, emB a = q := ⟨_, rfl⟩
 obtain ⟨q2, hq2⟩ : ∃ q, caB a = q := ⟨_, rfl⟩
 obtain ⟨q3, hq3⟩ : ∃ q, alB a = q := ⟨_, rfl⟩
 rw [← hwq] at HR HH
 clear hwq wq
 go_cut [117] (fun s117 wx => CtM w B b (n + m + 4) w.heap.size (.iface ta xa) (.iface tb xb) s117 wx)
 case first =>
  obtain ⟨wq, hwq⟩ : ∃ wq, w1.drew = wq := ⟨_, rfl⟩
  rw [hwq] at HR HH
  cases q1 with
  | true =>
   refine wp_region_noPanic ?_
   refine wp_region_held_drew (S := fun w' => w'.cell? ⟨w.heap.size, 0, none⟩ = some (.iface ta xa) ∧ w'.cell? ⟨w.heap.size, 1, none⟩ = some (.iface tb xb)) (by kernel_rfl) ((by rw [hwq]; exact pairS HH.out)) (fun hHeld => ?_)
   refine tkH 0 (v := ?v5) (nth rfl) (by kernel_rfl) (by kernel_rfl) (by kernel_rfl) (fun _ _ _ h => h) (by rfl) hHeld ?y5 ?r5
   case y5 => (intro w hSw; (try dsimp only at hSw); go_simp; (try with_reducible rfl))
   try simp only [Act.put, pA, pB, pC]
   refine tkH 1 (v := ?v6) (nth rfl) (by kernel_rfl) (by kernel_rfl) (by kernel_rfl) (fun _ _ _ h => h) (by rfl) hHeld ?y6 ?r6
   case y6 => (intro w hSw; (try dsimp only at hSw); go_simp; (try with_reducible rfl))
   try simp only [Act.put, pA, pB, pC]
   refine tkH 2 (v := ?v7) (nth rfl) (by kernel_rfl) (by kernel_rfl) (by kernel_rfl) (fun _ _ _ h => h) (by rfl) hHeld ?y7 ?r7
   case y7 => (intro w hSw; (try dsimp only at hSw); go_simp; (try with_reducible rfl))
   try simp only [Act.put, pA, pB, pC]
   refine tkH 3 (v := ?v8) (nth rfl) (by kernel_rfl) (by kernel_rfl) (by kernel_rfl) (fun _ _ _ h => h) (by rfl) hHeld ?y8 ?r8
   case y8 => (intro w hSw; (try dsimp only at hSw); go_simp; (try with_reducible rfl))
   try simp only [Act.put, pA, pB, pC]
   refine tkH 4 (v := ?v9) (nth rfl) (by kernel_rfl) (by kernel_rfl) (by kernel_rfl) (fun _ _ _ h => h) (by rfl) hHeld ?y9 ?r9
   case y9 => (intro w hSw; (try dsimp only at hSw); go_simp; (try with_reducible rfl))
   try simp only [Act.put, pA, pB, pC]
   refine wpAnyH_ready (rs := [5]) (by kernel_rfl) (by simp) ?_
   refine AllReadyH.cons (nth rfl) (fun K hK => ?_) AllReadyH.nil
   go_simp
   clear hwq; rw [← Hva.out]; refine (isempty_any a _).mono ?_; rintro e wn ⟨rfl, hb⟩; have HH := Lib.hid (quiet_heap HH.out hb); have HR := Lib.hid (HR.out.quiet hb hB); rw [Hva.out, hq1]; clear hb; go_simp
   refine hK.out _ _ (pairS HH.out) (fun hHeld => ?_)
   clear hK K
   try simp only [Act.put, pA, pB, pC]
   refine tkH 6 (v := ?va) (nth rfl) (by kernel_rfl) (by kernel_rfl) (by kernel_rfl) (fun _ _ _ h => h) (by rfl) hHeld ?ya ?ra
   case ya => (intro w hSw; (try dsimp only at hSw); go_simp; (try with_reducible rfl))
   try simp only [Act.put, pA, pB, pC]
   refine wpAnyH_take (i := 7) (v := undef) (nth rfl) (by kernel_rfl) (by kernel_rfl) (by kernel_rfl) (fun _ _ _ h => h) (Or.inr ⟨by rfl, rfl⟩) hHeld ?restrex_write_32_29_7
   try simp only [Act.put, pA, pB, pC]
   refine wpAnyH_take (i := 8) (v := undef) (nth rfl) (by kernel_rfl) (by kernel_rfl) (by kernel_rfl) (fun _ _ _ h => h) (Or.inr ⟨by rfl, rfl⟩) hHeld ?restrex_write_32_29_8
   try simp only [Act.put, pA, pB, pC]
   refine wpAnyH_ready (rs := [9]) (by kernel_rfl) (by simp) ?_
   refine AllReadyH.cons (nth rfl) (fun K hK => ?_) AllReadyH.nil
   go_simp
   refine hK.out _ _ (hHeld) (fun hHeld => ?_)
   clear hK K
   try simp only [Act.put, pA, pB, pC]
   refine tkH 10 (v := ?vb) (nth rfl) (by kernel_rfl) (by kernel_rfl) (by kernel_rfl) (fun _ _ _ h => h) (by rfl) hHeld ?yb ?rb
   case yb => (intro w hSw; (try dsimp only at hSw); go_simp; (try with_reducible rfl))
   try simp only [Act.put, pA, pB, pC]
   refine tkH 11 (v := ?vc) (nth rfl) (by kernel_rfl) (by kernel_rfl) (by kernel_rfl) (fun _ _ _ h => h) (by rfl) hHeld ?yc ?rc
   case yc => (intro w hSw; (try dsimp only at hSw); go_simp; (try with_reducible rfl))
   try simp only [Act.put, pA, pB, pC]
   refine wpAnyH_take (i := 12) (v := undef) (nth rfl) (by kernel_rfl) (by kernel_rfl) (by kernel_rfl) (fun _ _ _ h => h) (Or.inr ⟨by rfl, rfl⟩) hHeld ?restrex_write_32_29_12
   try simp only [Act.put, pA, pB, pC]
   refine wpAnyH_take (i := 13) (v := undef) (nth rfl) (by kernel_rfl) (by kernel_rfl) (by kernel_rfl) (fun _ _ _ h => h) (Or.inr ⟨by rfl, rfl⟩) hHeld ?restrex_write_32_29_13
   try simp only [Act.put, pA, pB, pC]
   refine wpAnyH_ready (rs := [14]) (by kernel_rfl) (by simp) ?_
   refine AllReadyH.cons (nth rfl) (fun K hK => ?_) AllReadyH.nil
   go_simp
   refine hK.out _ _ (hHeld) (fun hHeld => ?_)
   clear hK K
   try simp only [Act.put, pA, pB, pC]
   refine tkH 15 (v := ?vd) (nth rfl) (by kernel_rfl) (by kernel_rfl) (by kernel_rfl) (fun _ _ _ h => h) (by rfl) hHeld ?yd ?rd
   case yd => (intro w hSw; (try dsimp only at hSw); go_simp; (try with_reducible rfl))
   try simp only [Act.put, pA, pB, pC]
   refine wpAnyH_ready (rs := [16]) (by kernel_rfl) (by simp) ?_
   refine AllReadyH.cons (nth rfl) (fun K hK => ?_) AllReadyH.nil
   go_simp
   rw [← Hva.out]; (with_reducible refine (pgrp_any Ha.out true HR.out.bd (HR.out.tb HT.out) (by rw [Hm.out]; omega)).mono ?_); rw [Hva.out]; rintro e wn ⟨rfl, hb⟩; rw [Hm.out] at hb; have HH := Lib.hid (bdp_heap hb HH.out Hne.out (by decide)); have HR := Lib.hid (HR.out.trans hb); clear hb; go_simp
   refine hK.out _ _ (pairS HH.out) (fun hHeld => ?_)
   clear hK K
   try simp only [Act.put, pA, pB, pC]
   refine wpAnyH_done (by kernel_rfl) (NoPanic.normal ?_) _
   clear hHeld
   go_wp2_with fail
   go_meet
   case rel => exact ⟨HR.out, HH.out⟩
  | false =>
   cases q2 with
   | true =>
    refine wp_region_noPanic ?_
    refine wp_region_held_drew (S := fun w' => w'.cell? ⟨w.heap.size, 0, none⟩ = some (.iface ta xa) ∧ w'.cell? ⟨w.heap.size, 1, none⟩ = some (.iface tb xb)) (by kernel_rfl) ((by rw [hwq]; exact pairS HH.out)) (fun hHeld => ?_)
    refine tkH 0 (v := ?ve) (nth rfl) (by kernel_rfl) (by kernel_rfl) (by kernel_rfl) (fun _ _ _ h => h) (by rfl) hHeld ?ye ?re
    case ye => (intro w hSw; (try dsimp only at hSw); go_simp; (try with_reducible rfl))
    try simp only [Act.put, pA, pB, pC]
    refine tkH 1 (v := ?vf) (nth rfl) (by kernel_rfl) (by kernel_rfl) (by kernel_rfl) (fun _ _ _ h => h) (by rfl) hHeld ?yf ?rf
    case yf => (intro w hSw; (try dsimp only at hSw); go_simp; (try with_reducible rfl))
    try simp only [Act.put, pA, pB, pC]
    refine tkH 2 (v := ?vg) (nth rfl) (by kernel_rfl) (by kernel_rfl) (by kernel_rfl) (fun _ _ _ h => h) (by rfl) hHeld ?yg ?rg
    case yg => (intro w hSw; (try dsimp only at hSw); go_simp; (try with_reducible rfl))
    try simp only [Act.put, pA, pB, pC]
    refine tkH 3 (v := ?vh) (nth rfl) (by kernel_rfl) (by kernel_rfl) (by kernel_rfl) (fun _ _ _ h => h) (by rfl) hHeld ?yh ?rh
    case yh => (intro w hSw; (try dsimp only at hSw); go_simp; (try with_reducible rfl))
    try simp only [Act.put, pA, pB, pC]
    refine tkH 4 (v := ?vi) (nth rfl) (by kernel_rfl) (by kernel_rfl) (by kernel_rfl) (fun _ _ _ h => h) (by rfl) hHeld ?yi ?ri
    case yi => (intro w hSw; (try dsimp only at hSw); go_simp; (try with_reducible rfl))
    try simp only [Act.put, pA, pB, pC]
    refine wpAnyH_ready (rs := [5]) (by kernel_rfl) (by simp) ?_
    refine AllReadyH.cons (nth rfl) (fun K hK => ?_) AllReadyH.nil
    go_simp
    clear hwq; rw [← Hva.out]; refine (isempty_any a _).mono ?_; rintro e wn ⟨rfl, hb⟩; have HH := Lib.hid (quiet_heap HH.out hb); have HR := Lib.hid (HR.out.quiet hb hB); rw [Hva.out, hq1]; clear hb; go_simp
    refine hK.out _ _ (pairS HH.out) (fun hHeld => ?_)
    clear hK K
    try simp only [Act.put, pA, pB, pC]
    refine tkH 6 (v := ?vj) (nth rfl) (by kernel_rfl) (by kernel_rfl) (by kernel_rfl) (fun _ _ _ h => h) (by rfl) hHeld ?yj ?rj
    case yj => (intro w hSw; (try dsimp only at hSw); go_simp; (try with_reducible rfl))
    try simp only [Act.put, pA, pB, pC]
    refine tkH 7 (v := ?vk) (nth rfl) (by kernel_rfl) (by kernel_rfl) (by kernel_rfl) (fun _ _ _ h => h) (by rfl) hHeld ?yk ?rk
    case yk => (intro w hSw; (try dsimp only at hSw); go_simp; (try with_reducible rfl))
    try simp only [Act.put, pA, pB, pC]
    refine tkH 8 (v := ?vl) (nth rfl) (by kernel_rfl) (by kernel_rfl) (by kernel_rfl) (fun _ _ _ h => h) (by rfl) hHeld ?yl ?rl
    case yl => (intro w hSw; (try dsimp only at hSw); go_simp; (try with_reducible rfl))
    try simp only [Act.put, pA, pB, pC]
    refine wpAnyH_ready (rs := [9]) (by kernel_rfl) (by simp) ?_
    refine AllReadyH.cons (nth rfl) (fun K hK => ?_) AllReadyH.nil
    go_simp
    rw [← Hva.out]; refine (iscat_any a _).mono ?_; rintro e wn ⟨rfl, hb⟩; have HH := Lib.hid (quiet_heap HH.out hb); have HR := Lib.hid (HR.out.quiet hb hB); rw [Hva.out, hq2]; clear hb; go_simp
    refine hK.out _ _ (pairS HH.out) (fun hHeld => ?_)
    clear hK K
    try simp only [Act.put, pA, pB, pC]
    refine tkH 10 (v := ?vm) (nth rfl) (by kernel_rfl) (by kernel_rfl) (by kernel_rfl) (fun _ _ _ h => h) (by rfl) hHeld ?ym ?rm
    case ym => (intro w hSw; (try dsimp only at hSw); go_simp; (try with_reducible rfl))
    try simp only [Act.put, pA, pB, pC]
    refine tkH 11 (v := ?vn) (nth rfl) (by kernel_rfl) (by kernel_rfl) (by kernel_rfl) (fun _ _ _ h => h) (by rfl) hHeld ?yn ?rn
    case yn => (intro w hSw; (try dsimp only at hSw); go_simp; (try with_reducible rfl))
    try simp only [Act.put, pA, pB, pC]
    refine wpAnyH_take (i := 12) (v := undef) (nth rfl) (by kernel_rfl) (by kernel_rfl) (by kernel_rfl) (fun _ _ _ h => h) (Or.inr ⟨by rfl, rfl⟩) hHeld ?restrex_write_32_30_12
    try simp only [Act.put, pA, pB, pC]
    refine wpAnyH_take (i := 13) (v := undef) (nth rfl) (by kernel_rfl) (by kernel_rfl) (by kernel_rfl) (fun _ _ _ h => h) (Or.inr ⟨by rfl, rfl⟩) hHeld ?restrex_write_32_30_13
    try simp only [Act.put, pA, pB, pC]
    refine wpAnyH_ready (rs := [14]) (by kernel_rfl) (by simp) ?_
    refine AllReadyH.cons (nth rfl) (fun K hK => ?_) AllReadyH.nil
    go_simp
    refine hK.out _ _ (hHeld) (fun hHeld => ?_)
    clear hK K
    try simp only [Act.put, pA, pB, pC]
    refine tkH 15 (v := ?vo) (nth rfl) (by kernel_rfl) (by kernel_rfl) (by kernel_rfl) (fun _ _ _ h => h) (by rfl) hHeld ?yo ?ro
    case yo => (intro w hSw; (try dsimp only at hSw); go_simp; (try with_reducible rfl))
    try simp only [Act.put, pA, pB, pC]
    refine wpAnyH_ready (rs := [16]) (by kernel_rfl) (by simp) ?_
    refine AllReadyH.cons (nth rfl) (fun K hK => ?_) AllReadyH.nil
    go_simp
    rw [← Hva.out]; (with_reducible refine (pgrp_any Ha.out true HR.out.bd (HR.out.tb HT.out) (by rw [Hm.out]; omega)).mono ?_); rw [Hva.out]; rintro e wn ⟨rfl, hb⟩; rw [Hm.out] at hb; have HH := Lib.hid (bdp_heap hb HH.out Hne.out (by decide)); have HR := Lib.hid (HR.out.trans hb); clear hb; go_simp
    refine hK.out _ _ (pairS HH.out) (fun hHeld => ?_)
    clear hK K
    try simp only [Act.put, pA, pB, pC]
    refine wpAnyH_done (by kernel_rfl) (NoPanic.normal ?_) _
    clear hHeld
    go_wp2_with fail
    go_meet
    case rel => exact ⟨HR.out, HH.out⟩
   | false =>
    refine wp_region_noPanic ?_
    refine wp_region_held_drew (S := fun w' => w'.cell? ⟨w.heap.size, 0, none⟩ = some (.iface ta xa) ∧ w'.cell? ⟨w.heap.size, 1, none⟩ = some (.iface tb xb)) (by kernel_rfl) ((by rw [hwq]; exact pairS HH.out)) (fun hHeld => ?_)
    refine tkH 0 (v := ?vp) (nth rfl) (by kernel_rfl) (by kernel_rfl) (by kernel_rfl) (fun _ _ _ h => h) (by rfl) hHeld ?yp ?rp
    case yp => (intro w hSw; (try dsimp only at hSw); go_simp; (try with_reducible rfl))
    try simp only [Act.put, pA, pB, pC]
    refine tkH 1 (v := ?vq) (nth rfl) (by kernel_rfl) (by kernel_rfl) (by kernel_rfl) (fun _ _ _ h => h) (by rfl) hHeld ?yq ?rq
    case yq => (intro w hSw; (try dsimp only at hSw); go_simp; (try with_reducible rfl))
    try simp only [Act.put, pA, pB, pC]
    refine tkH 2 (v := ?vr) (nth rfl) (by kernel_rfl) (by kernel_rfl) (by kernel_rfl) (fun _ _ _ h => h) (by rfl) hHeld ?yr ?rr
    case yr => (intro w hSw; (try dsimp only at hSw); go_simp; (try with_reducible rfl))
    try simp only [Act.put, pA, pB, pC]
    refine tkH 3 (v := ?vs) (nth rfl) (by kernel_rfl) (by kernel_rfl) (by kernel_rfl) (fun _ _ _ h => h) (by rfl) hHeld ?ys ?rs
    case ys => (intro w hSw; (try dsimp only at hSw); go_simp; (try with_reducible rfl))
    try simp only [Act.put, pA, pB, pC]
    refine tkH 4 (v := ?vt) (nth rfl) (by kernel_rfl) (by kernel_rfl) (by kernel_rfl) (fun _ _ _ h => h) (by rfl) hHeld ?yt ?rt
    case yt => (intro w hSw; (try dsimp only at hSw); go_simp; (try with_reducible rfl))
    try simp only [Act.put, pA, pB, pC]
    refine wpAnyH_ready (rs := [5]) (by kernel_rfl) (by simp) ?_
    refine AllReadyH.cons (nth rfl) (fun K hK => ?_) AllReadyH.nil
    go_simp
    clear hwq; rw [← Hva.out]; refine (isempty_any a _).mono ?_; rintro e wn ⟨rfl, hb⟩; have HH := Lib.hid (quiet_heap HH.out hb); have HR := Lib.hid (HR.out.quiet hb hB); rw [Hva.out, hq1]; clear hb; go_simp
    refine hK.out _ _ (pairS HH.out) (fun hHeld => ?_)
    clear hK K
    try simp only [Act.put, pA, pB, pC]
    refine tkH 6 (v := ?vu) (nth rfl) (by kernel_rfl) (by kernel_rfl) (by kernel_rfl) (fun _ _ _ h => h) (by rfl) hHeld ?yu ?ru
    case yu => (intro w hSw; (try dsimp only at hSw); go_simp; (try with_reducible rfl))
    try simp only [Act.put, pA, pB, pC]
    refine tkH 7 (v := ?vv) (nth rfl) (by kernel_rfl) (by kernel_rfl) (by kernel_rfl) (fun _ _ _ h => h) (by rfl) hHeld ?yv ?rv
    case yv => (intro w hSw; (try dsimp only at hSw); go_simp; (try with_reducible rfl))
    try simp only [Act.put, pA, pB, pC]
    refine tkH 8 (v := ?vw) (nth rfl) (by kernel_rfl) (by kernel_rfl) (by kernel_rfl) (fun _ _ _ h => h) (by rfl) hHeld ?yw ?rw
    case yw => (intro w hSw; (try dsimp only at hSw); go_simp; (try with_reducible rfl))
    try simp only [Act.put, pA, pB, pC]
    refine wpAnyH_ready (rs := [9]) (by kernel_rfl) (by simp) ?_
    refine AllReadyH.cons (nth rfl) (fun K hK => ?_) AllReadyH.nil
    go_simp
    rw [← Hva.out]; refine (iscat_any a _).mono ?_; rintro e wn ⟨rfl, hb⟩; have HH := Lib.hid (quiet_heap HH.out hb); have HR := Lib.hid (HR.out.quiet hb hB); rw [Hva.out, hq2]; clear hb; go_simp
    refine hK.out _ _ (pairS HH.out) (fun hHeld => ?_)
    clear hK K
    try simp only [Act.put, pA, pB, pC]
    refine tkH 10 (v := ?vx) (nth rfl) (by kernel_rfl) (by kernel_rfl) (by kernel_rfl) (fun _ _ _ h => h) (by rfl) hHeld ?yx ?rx
    case yx => (intro w hSw; (try dsimp only at hSw); go_simp; (try with_reducible rfl))
    try simp only [Act.put, pA, pB, pC]
    refine tkH 11 (v := ?vy) (nth rfl) (by kernel_rfl) (by kernel_rfl) (by kernel_rfl) (fun _ _ _ h => h) (by rfl) hHeld ?yy ?ry
    case yy => (intro w hSw; (try dsimp only at hSw); go_simp; (try with_reducible rfl))
    try simp only [Act.put, pA, pB, pC]
    refine tkH 12 (v := ?vz) (nth rfl) (by kernel_rfl) (by kernel_rfl) (by kernel_rfl) (fun _ _ _ h => h) (by rfl) hHeld ?yz ?rz
    case yz => (intro w hSw; (try dsimp only at hSw); go_simp; (try with_reducible rfl))
    try simp only [Act.put, pA, pB, pC]
    refine tkH 13 (v := ?v10) (nth rfl) (by kernel_rfl) (by kernel_rfl) (by kernel_rfl) (fun _ _ _ h => h) (by rfl) hHeld ?y10 ?r10
    case y10 => (intro w hSw; (try dsimp only at hSw); go_simp; (try with_reducible rfl))
    try simp only [Act.put, pA, pB, pC]
    refine wpAnyH_ready (rs := [14]) (by kernel_rfl) (by simp) ?_
    refine AllReadyH.cons (nth rfl) (fun K hK => ?_) AllReadyH.nil
    go_simp
    rw [← Hva.out]; refine (isalt_any a _).mono ?_; rintro e wn ⟨rfl, hb⟩; have HH := Lib.hid (quiet_heap HH.out hb); have HR := Lib.hid (HR.out.quiet hb hB); rw [Hva.out, hq3]; clear hb; go_simp
    refine hK.out _ _ (pairS HH.out) (fun hHeld => ?_)
    clear hK K
    try simp only [Act.put, pA, pB, pC]
    refine tkH 15 (v := ?v11) (nth rfl) (by kernel_rfl) (by kernel_rfl) (by kernel_rfl) (fun _ _ _ h => h) (by rfl) hHeld ?y11 ?r11
    case y11 => (intro w hSw; (try dsimp only at hSw); go_simp; (try with_reducible rfl))
    try simp only [Act.put, pA, pB, pC]
    refine wpAnyH_ready (rs := [16]) (by kernel_rfl) (by simp) ?_
    refine AllReadyH.cons (nth rfl) (fun K hK => ?_) AllReadyH.nil
    go_simp
    rw [← Hva.out]; (with_reducible refine (pgrp_any Ha.out q3 HR.out.bd (HR.out.tb HT.out) (by rw [Hm.out]; omega)).mono ?_); rw [Hva.out]; rintro e wn ⟨rfl, hb⟩; rw [Hm.out] at hb; have HH := Lib.hid (bdp_heap hb HH.out Hne.out (by decide)); have HR := Lib.hid (HR.out.trans hb); clear hb; go_simp
    refine hK.out _ _ (pairS HH.out) (fun hHeld => ?_)
    clear hK K
    try simp only [Act.put, pA, pB, pC]
    refine wpAnyH_done (by kernel_rfl) (NoPanic.normal ?_) _
    clear hHeld
    go_wp2_with fail
    go_meet
    case rel => exact ⟨HR.out, HH.out⟩
 case rest =>
  obtain ⟨hr, hh⟩ := hcut
  have HR := Lib.hid hr
  have HH := Lib.hid hh
  clear hr hh
  go_wp2_with fail
  obtain ⟨q4, hq4⟩ : ∃ q, emB b' = q := ⟨_, rfl⟩
  obtain ⟨q5, hq5⟩ : ∃ q, alB b' = q := ⟨_, rfl⟩
  obtain ⟨wq, hwq⟩ : ∃ wq, wc.drew = wq := ⟨_, rfl⟩
  have HH := Lib.hid (show wq.heap[w.heap.size]? = some (.cells #[.iface ta xa, .iface tb xb] 172 (0, 0)) by rw [← hwq]; exact HH.out)
  have HR := Lib.hid (HR.out.quiet (show Below _ _ wq by rw [← hwq]; exact (Below.refl _ _).drew) hB)
  cases q4 with
  | true =>
   refine wp_region_noPanic ?_
   refine wp_region_held_drew (S := fun w' => w'.cell? ⟨w.heap.size, 0, none⟩ = some (.iface ta xa) ∧ w'.cell? ⟨w.heap.size, 1, none⟩ = some (.iface tb xb)) (by kernel_rfl) ((by rw [hwq]; exact pairS HH.out)) (fun hHeld => ?_)
   refine tkH 0 (v := ?v12) (nth rfl) (by kernel_rfl) (by kernel_rfl) (by kernel_rfl) (fun _ _ _ h => h) (by rfl) hHeld ?y12 ?r12
   case y12 => (intro w hSw; (try dsimp only at hSw); go_simp; (try with_reducible rfl))
   try simp only [Act.put, pA, pB, pC]
   refine tkH 1 (v := ?v13) (nth rfl) (by kernel_rfl) (by kernel_rfl) (by kernel_rfl) (fun _ _ _ h => h) (by rfl) hHeld ?y13 ?r13
   case y13 => (intro w hSw; (try dsimp only at hSw); go_simp; (try with_reducible rfl))
   try simp only [Act.put, pA, pB, pC]
   refine tkH 2 (v := ?v14) (nth rfl) (by kernel_rfl) (by kernel_rfl) (by kernel_rfl) (fun _ _ _ h => h) (by rfl) hHeld ?y14 ?r14
   case y14 => (intro w hSw; (try dsimp only at hSw); go_simp; (try with_reducible rfl))
   try simp only [Act.put, pA, pB, pC]
   refine tkH 3 (v := ?v15) (nth rfl) (by kernel_rfl) (by kernel_rfl) (by kernel_rfl) (fun _ _ _ h => h) (by rfl) hHeld ?y15 ?r15
   case y15 => (intro w hSw; (try dsimp only at hSw); go_simp; (try with_reducible rfl))
   try simp only [Act.put, pA, pB, pC]
   refine tkH 4 (v := ?v16) (nth rfl) (by kernel_rfl) (by kernel_rfl) (by kernel_rfl) (fun _ _ _ h => h) (by rfl) hHeld ?y16 ?r16
   case y16 => (intro w hSw; (try dsimp only at hSw); go_simp; (try with_reducible rfl))
   try simp only [Act.put, pA, pB, pC]
   refine wpAnyH_ready (rs := [5]) (by kernel_rfl) (by simp) ?_
   refine AllReadyH.cons (nth rfl) (fun K hK => ?_) AllReadyH.nil
   go_simp
   clear hwq; rw [← Hvb.out]; refine (isempty_any b' _).mono ?_; rintro e wn ⟨rfl, hb⟩; have HH := Lib.hid (quiet_heap HH.out hb); have HR := Lib.hid (HR.out.quiet hb hB); rw [Hvb.out, hq4]; clear hb; go_simp
   refine hK.out _ _ (pairS HH.out) (fun hHeld => ?_)
   clear hK K
   try simp only [Act.put, pA, pB, pC]
   refine tkH 6 (v := ?v17) (nth rfl) (by kernel_rfl) (by kernel_rfl) (by kernel_rfl) (fun _ _ _ h => h) (by rfl) hHeld ?y17 ?r17
   case y17 => (intro w hSw; (try dsimp only at hSw); go_simp; (try with_reducible rfl))
   try simp only [Act.put, pA, pB, pC]
   refine wpAnyH_take (i := 7) (v := undef) (nth rfl) (by kernel_rfl) (by kernel_rfl) (by kernel_rfl) (fun _ _ _ h => h) (Or.inr ⟨by rfl, rfl⟩) hHeld ?restrex_write_33_32_7
   try simp only [Act.put, pA, pB, pC]
   refine wpAnyH_take (i := 8) (v := undef) (nth rfl) (by kernel_rfl) (by kernel_rfl) (by kernel_rfl) (fun _ _ _ h => h) (Or.inr ⟨by rfl, rfl⟩) hHeld ?restrex_write_33_32_8
   try simp only [Act.put, pA, pB, pC]
   refine wpAnyH_ready (rs := [9]) (by kernel_rfl) (by simp) ?_
   refine AllReadyH.cons (nth rfl) (fun K hK => ?_) AllReadyH.nil
   go_simp
   refine hK.out _ _ (hHeld) (fun hHeld => ?_)
   clear hK K
   try simp only [Act.put, pA, pB, pC]
   refine tkH 10 (v := ?v18) (nth rfl) (by kernel_rfl) (by kernel_rfl) (by kernel_rfl) (fun _ _ _ h => h) (by rfl) hHeld ?y18 ?r18
   case y18 => (intro w hSw; (try dsimp only at hSw); go_simp; (try with_reducible rfl))
   try simp only [Act.put, pA, pB, pC]
   refine wpAnyH_ready (rs := [11]) (by kernel_rfl) (by simp) ?_
   refine AllReadyH.cons (nth rfl) (fun K hK => ?_) AllReadyH.nil
   go_simp
   rw [← Hvb.out]; (with_reducible refine (pgrp_any Hb'.out true HR.out.bd (HR.out.tb HT.out) (by rw [Hm'.out]; omega)).mono ?_); rw [Hvb.out]; rintro e wn ⟨rfl, hb⟩; rw [Hm'.out] at hb; have HH := Lib.hid (bdp_heap hb HH.out Hne.out (by decide)); have HR := Lib.hid (HR.out.trans hb); clear hb; go_simp
   refine hK.out _ _ (pairS HH.out) (fun hHeld => ?_)
   clear hK K
   try simp only [Act.put, pA, pB, pC]
   refine wpAnyH_done (by kernel_rfl) (NoPanic.normal ?_) _
   clear hHeld
   have HR := Lib.hid (HR.out.more (show n + m + 4 + m' + 4 ≤ n + (m + m' + 8) by omega))
   go_wp2_with fail
   go_end0
   exact ⟨rfl, HR.out⟩
  | false =>
   refine wp_region_noPanic ?_
   refine wp_region_held_drew (S := fun w' => w'.cell? ⟨w.heap.size, 0, none⟩ = some (.iface ta xa) ∧ w'.cell? ⟨w.heap.size, 1, none⟩ = some (.iface tb xb)) (by kernel_rfl) ((by rw [hwq]; exact pairS HH.out)) (fun hHeld => ?_)
   refine tkH 0 (v := ?v19) (nth rfl) (by kernel_rfl) (by kernel_rfl) (by kernel_rfl) (fun _ _ _ h => h) (by rfl) hHeld ?y19 ?r19
   case y19 => (intro w hSw; (try dsimp only at hSw); go_simp; (try with_reducible rfl))
   try simp only [Act.put, pA, pB, pC]
   refine tkH 1 (v := ?v1a) (nth rfl) (by kernel_rfl) (by kernel_rfl) (by kernel_rfl) (fun _ _ _ h => h) (by rfl) hHeld ?y1a ?r1a
   case y1a => (intro w hSw; (try dsimp only at hSw); go_simp; (try with_reducible rfl))
   try simp only [Act.put, pA, pB, pC]
   refine tkH 2 (v := ?v1b) (nth rfl) (by kernel_rfl) (by kernel_rfl) (by kernel_rfl) (fun _ _ _ h => h) (by rfl) hHeld ?y1b ?r1b
   case y1b => (intro w hSw; (try dsimp only at hSw); go_simp; (try with_reducible rfl))
   try simp only [Act.put, pA, pB, pC]
   refine tkH 3 (v := ?v1c) (nth rfl) (by kernel_rfl) (by kernel_rfl) (by kernel_rfl) (fun _ _ _ h => h) (by rfl) hHeld ?y1c ?r1c
   case y1c => (intro w hSw; (try dsimp only at hSw); go_simp; (try with_reducible rfl))
   try simp only [Act.put, pA, pB, pC]
   refine tkH 4 (v := ?v1d) (nth rfl) (by kernel_rfl) (by kernel_rfl) (by kernel_rfl) (fun _ _ _ h => h) (by rfl) hHeld ?y1d ?r1d
   case y1d => (intro w hSw; (try dsimp only at hSw); go_simp; (try with_reducible rfl))
   try simp only [Act.put, pA, pB, pC]
   refine wpAnyH_ready (rs := [5]) (by kernel_rfl) (by simp) ?_
   refine AllReadyH.cons (nth rfl) (fun K hK => ?_) AllReadyH.nil
   go_simp
   clear hwq; rw [← Hvb.out]; refine (isempty_any b' _).mono ?_; rintro e wn ⟨rfl, hb⟩; have HH := Lib.hid (quiet_heap HH.out hb); have HR := Lib.hid (HR.out.quiet hb hB); rw [Hvb.out, hq4]; clear hb; go_simp
   refine hK.out _ _ (pairS HH.out) (fun hHeld => ?_)
   clear hK K
   try simp only [Act.put, pA, pB, pC]
   refine tkH 6 (v := ?v1e) (nth rfl) (by kernel_rfl) (by kernel_rfl) (by kernel_rfl) (fun _ _ _ h => h) (by rfl) hHeld ?y1e ?r1e
   case y1e => (intro w hSw; (try dsimp only at hSw); go_simp; (try with_reducible rfl))
   try simp only [Act.put, pA, pB, pC]
   refine tkH 7 (v := ?v1f) (nth rfl) (by kernel_rfl) (by kernel_rfl) (by kernel_rfl) (fun _ _ _ h => h) (by rfl) hHeld ?y1f ?r1f
   case y1f => (intro w hSw; (try dsimp only at hSw); go_simp; (try with_reducible rfl))
   try simp only [Act.put, pA, pB, pC]
   refine tkH 8 (v := ?v1g) (nth rfl) (by kernel_rfl) (by kernel_rfl) (by kernel_rfl) (fun _ _ _ h => h) (by rfl) hHeld ?y1g ?r1g
   case y1g => (intro w hSw; (try dsimp only at hSw); go_simp; (try with_reducible rfl))
   try simp only [Act.put, pA, pB, pC]
   refine wpAnyH_ready (rs := [9]) (by kernel_rfl) (by simp) ?_
   refine AllReadyH.cons (nth rfl) (fun K hK => ?_) AllReadyH.nil
   go_simp
   rw [← Hvb.out]; refine (isalt_any b' _).mono ?_; rintro e wn ⟨rfl, hb⟩; have HH := Lib.hid (quiet_heap HH.out hb); have HR := Lib.hid (HR.out.quiet hb hB); rw [Hvb.out, hq5]; clear hb; go_simp
   refine hK.out _ _ (pairS HH.out) (fun hHeld => ?_)
   clear hK K
   try simp only [Act.put, pA, pB, pC]
   refine tkH 10 (v := ?v1h) (nth rfl) (by kernel_rfl) (by kernel_rfl) (by kernel_rfl) (fun _ _ _ h => h) (by rfl) hHeld ?y1h ?r1h
   case y1h => (intro w hSw; (try dsimp only at hSw); go_simp; (try with_reducible rfl))
   try simp only [Act.put, pA, pB, pC]
   refine wpAnyH_ready (rs := [11]) (by kernel_rfl) (by simp) ?_
   refine AllReadyH.cons (nth rfl) (fun K hK => ?_) AllReadyH.nil
   go_simp
   rw [← Hvb.out]; (with_reducible refine (pgrp_any Hb'.out q5 HR.out.bd (HR.out.tb HT.out) (by rw [Hm'.out]; omega)).mono ?_); rw [Hvb.out]; rintro e wn ⟨rfl, hb⟩; rw [Hm'.out] at hb; have HH := Lib.hid (bdp_heap hb HH.out Hne.out (by decide)); have HR := Lib.hid (HR.out.trans hb); clear hb; go_simp
   refine hK.out _ _ (pairS HH.out) (fun hHeld => ?_)
   clear hK K
   try simp only [Act.put, pA, pB, pC]
   refine wpAnyH_done (by kernel_rfl) (NoPanic.normal ?_) _
   clear hHeld
   have HR := Lib.hid (HR.out.more (show n + m + 4 + m' + 4 ≤ n + (m + m' + 8) by omega))
   go_wp2_with fail
   go_end0
   exact ⟨rfl, HR.out⟩
theorem pwr_all : ∀ (r : Rx), r.ok → PWr r
 | .emp, _ => pwr_emp
 | .chr _, h => pwr_chr h
 | .any, _ => pwr_any
 | .set _, h => pwr_set h.1 h.2
 | .beg, _ => pwr_beg
 | .fin, _ => pwr_fin
 | .cat a b, h => pwr_cat (pwr_all a h.1) (pwr_all b h.2)
 | .alt a b, h => pwr_alt (pwr_all a h.1) (pwr_all b h.2)
 | .rep a _ _, h => pwr_rep (pwr_all a h.1) h.2.1 h.2.2.1 h.2.2.2
end Go.Proofs.YthhnmpkgleelfaaGreatDoor
