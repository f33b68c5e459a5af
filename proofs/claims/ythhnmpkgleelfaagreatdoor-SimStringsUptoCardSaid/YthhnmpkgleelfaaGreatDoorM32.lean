import Derived.Test.YthhnmpkgleelfaaGreatDoorM31
import Derived.Test.YthhnmpkgleelfaaGreatDoorM15
set_option linter.unusedVariables false
set_option linter.unusedSimpArgs false
namespace Go.Proofs.YthhnmpkgleelfaaGreatDoor
open Go.RowKit Go.Shelf
theorem addeat_any {w : World} {B g : Nat} {L : List St} (h : Mk w B g L) (r : Rx) (t : Nat) (hl : L.length ≤ 1000000) (hB : B ≤ w.heap.size) : Calls Tryz.prog 97 #[.pointer (some ⟨g, 0, none⟩), .iface 130 (.agg #[nodeV r, .int .i64 t])] w fun e w' => AddP w B g (L ++ [.eat r t]) L.length e w' := add_any h (.eat r t) hl hB
theorem addhere_any {w : World} {B g : Nat} {L : List St} (h : Mk w B g L) (q : Bool) (t : Nat) (hl : L.length ≤ 1000000) (hB : B ≤ w.heap.size) : Calls Tryz.prog 97 #[.pointer (some ⟨g, 0, none⟩), .iface 145 (.agg #[.bool q, .int .i64 t])] w fun e w' => AddP w B g (L ++ [.here q t]) L.length e w' := add_any h (.here q t) hl hB
set_option maxHeartbeats 8000000 in
set_option maxRecDepth 100000 in
theorem play_chr (c : Int) : PLay (.chr c) := by
 intro w B g t L hm hB hw ht hl
 show Calls Tryz.prog 66 #[.pointer (some ⟨g, 0, none⟩), .iface 216 (.agg #[.int .i32 c]), .int .i64 t] w _
 have hl2 : L.length ≤ 1000000 := by have := (lay_ok (.chr c)).len t L; omega
 have Had := Lib.hid (show Calls Tryz.prog 97 #[.pointer (some ⟨g, 0, none⟩), .iface 130 (.agg #[.iface 216 (.agg #[.int .i32 c]), .int .i64 t])] w fun e w' => AddP w B g (L ++ [.eat (.chr c) t]) L.length e w' from addeat_any hm (.chr c) t hl2 hB)
 clear hm hw hl
 have T0 := tai_hit (x := 71) (u := 216) Tryz.underlying128 (by kernel_rfl)
 go_enter Tryz.func66, Tryz.ntmps66
 go_wp2_with fail
 (with_reducible refine Had.out.mono ?_)
 rintro e w2 ⟨rfl, hm2⟩
 have Hm2 := Lib.hid hm2
 clear hm2
 go_wp2_with fail
 go_ret
 exact ⟨rfl, Hm2.out⟩
set_option maxHeartbeats 8000000 in
set_option maxRecDepth 100000 in
theorem play_any : PLay .any := by
 intro w B g t L hm hB hw ht hl
 show Calls Tryz.prog 66 #[.pointer (some ⟨g, 0, none⟩), .iface 208 (.agg #[]), .int .i64 t] w _
 have hl2 : L.length ≤ 1000000 := by have := (lay_ok .any).len t L; omega
 have Had := Lib.hid (show Calls Tryz.prog 97 #[.pointer (some ⟨g, 0, none⟩), .iface 130 (.agg #[.iface 208 (.agg #[]), .int .i64 t])] w fun e w' => AddP w B g (L ++ [.eat .any t]) L.length e w' from addeat_any hm .any t hl2 hB)
 clear hm hw hl
 have T0 := tai_hit (x := 71) (u := 208) Tryz.underlying128 (by kernel_rfl)
 go_enter Tryz.func66, Tryz.ntmps66
 go_wp2_with fail
 (with_reducible refine Had.out.mono ?_)
 rintro e w2 ⟨rfl, hm2⟩
 have Hm2 := Lib.hid hm2
 clear hm2
 go_wp2_with fail
 go_ret
 exact ⟨rfl, Hm2.out⟩
set_option maxHeartbeats 8000000 in
set_option maxRecDepth 100000 in
theorem play_set (cs : List Int) : PLay (.set cs) := by
 intro w B g t L hm hB hw ht hl
 show Calls Tryz.prog 66 #[.pointer (some ⟨g, 0, none⟩), .iface 213 (.agg #[.string (rngB cs)]), .int .i64 t] w _
 have hl2 : L.length ≤ 1000000 := by have := (lay_ok (.set cs)).len t L; omega
 have Had := Lib.hid (show Calls Tryz.prog 97 #[.pointer (some ⟨g, 0, none⟩), .iface 130 (.agg #[.iface 213 (.agg #[.string (rngB cs)]), .int .i64 t])] w fun e w' => AddP w B g (L ++ [.eat (.set cs) t]) L.length e w' from addeat_any hm (.set cs) t hl2 hB)
 clear hm hw hl
 generalize rngB cs = S at *
 have T0 := tai_hit (x := 71) (u := 213) Tryz.underlying128 (by kernel_rfl)
 go_enter Tryz.func66, Tryz.ntmps66
 go_wp2_with fail
 (with_reducible refine Had.out.mono ?_)
 rintro e w2 ⟨rfl, hm2⟩
 have Hm2 := Lib.hid hm2
 clear hm2
 go_wp2_with fail
 go_ret
 exact ⟨rfl, Hm2.out⟩
set_option maxHeartbeats 8000000 in
set_option maxRecDepth 100000 in
theorem play_emp : PLay .emp := by
 intro w B g t L hm hB hw ht hl
 show Calls Tryz.prog 66 #[.pointer (some ⟨g, 0, none⟩), .iface 182 (.agg #[]), .int .i64 t] w _
 have Hn := Lib.hid (show Calls Tryz.prog 96 #[.iface 182 (.agg #[])] w fun e w' => e = .returned (.int .i64 0) ∧ Below w.heap.size w w' from (pnd_all .emp trivial).go w)
 have Hm := Lib.hid (MkP.start hm)
 clear hm hw hl
 have T0 := tai_miss (x := 71) (u := 182) Tryz.underlying128 (by kernel_rfl) Tryz.zeroValue128
 go_enter Tryz.func66, Tryz.ntmps66
 go_wp2_with fail
 (with_reducible refine Hn.out.mono ?_)
 rintro e w1 ⟨rfl, hb1⟩
 have Hm1 := Lib.hid (Hm.out.quiet hb1 hB)
 clear hb1
 go_wp2_with fail
 go_ret
 exact ⟨rfl, Hm1.out⟩
set_option maxHeartbeats 8000000 in
set_option maxRecDepth 100000 in
theorem play_beg : PLay .beg := by
 intro w B g t L hm hB hw ht hl
 show Calls Tryz.prog 66 #[.pointer (some ⟨g, 0, none⟩), .iface 170 (.agg #[]), .int .i64 t] w _
 have hl2 : L.length ≤ 1000000 := by have := (lay_ok .beg).len t L; omega
 have Hn := Lib.hid (show Calls Tryz.prog 96 #[.iface 170 (.agg #[])] w fun e w' => e = .returned (.int .i64 1) ∧ Below w.heap.size w w' from (pnd_all .beg trivial).go w)
 have Hm := Lib.hid (MkP.start hm)
 clear hm hw hl
 have T0 := tai_miss (x := 71) (u := 170) Tryz.underlying128 (by kernel_rfl) Tryz.zeroValue128
 have T1 := ta_hit (x := 71) Tryz.underlying170 (fun m h => by cases h)
 go_enter Tryz.func66, Tryz.ntmps66
 go_wp2_with fail
 (with_reducible refine Hn.out.mono ?_)
 rintro e w1 ⟨rfl, hb1⟩
 have Hm1 := Lib.hid ((Hm.out.quiet hb1 hB).quiet (alloc_below w1 (.cells #[] 170)) hB)
 clear hb1
 go_wp2_with fail
 (with_reducible refine (addhere_any Hm1.out.mk false t hl2 (Hm1.out.hB hB)).mono ?_)
 rintro e w2 ⟨rfl, hm2⟩
 have Hm2 := Lib.hid (Hm1.out.trans hm2)
 clear hm2
 go_wp2_with fail
 go_ret
 exact ⟨rfl, Hm2.out⟩
set_option maxHeartbeats 8000000 in
set_option maxRecDepth 100000 in
theorem play_fin : PLay .fin := by
 intro w B g t L hm hB hw ht hl
 show Calls Tryz.prog 66 #[.pointer (some ⟨g, 0, none⟩), .iface 171 (.agg #[]), .int .i64 t] w _
 have hl2 : L.length ≤ 1000000 := by have := (lay_ok .fin).len t L; omega
 have Hn := Lib.hid (show Calls Tryz.prog 96 #[.iface 171 (.agg #[])] w fun e w' => e = .returned (.int .i64 1) ∧ Below w.heap.size w w' from (pnd_all .fin trivial).go w)
 have Hm := Lib.hid (MkP.start hm)
 clear hm hw hl
 have T0 := tai_miss (x := 71) (u := 171) Tryz.underlying128 (by kernel_rfl) Tryz.zeroValue128
 have T1 := ta_miss (x := 71) (u := 171) Tryz.underlying170 (fun m h => by cases h) (by decide) Tryz.zeroValue170
 have T2 := ta_hit (x := 71) Tryz.underlying171 (fun m h => by cases h)
 go_enter Tryz.func66, Tryz.ntmps66
 go_wp2_with fail
 (with_reducible refine Hn.out.mono ?_)
 rintro e w1 ⟨rfl, hb1⟩
 have Hm1 := Lib.hid ((Hm.out.quiet hb1 hB).quiet (alloc_below w1 (.cells #[] 171)) hB)
 clear hb1
 go_wp2_with fail
 (with_reducible refine (addhere_any Hm1.out.mk true t hl2 (Hm1.out.hB hB)).mono ?_)
 rintro e w2 ⟨rfl, hm2⟩
 have Hm2 := Lib.hid (Hm1.out.trans hm2)
 clear hm2
 go_wp2_with fail
 go_ret
 exact ⟨rfl, Hm2.out⟩
set_option maxHeartbeats 8000000 in
set_option maxRecDepth 100000 in
theorem play_cat {a b : Rx} (ha : PLay a) (hb : PLay b) (oa : a.ok) (ob : b.ok) : PLay (.cat a b) := by
 intro w B g t L hm hB hw ht hl
 show Calls Tryz.prog 66 #[.pointer (some ⟨g, 0, none⟩), .iface 172 (.agg #[nodeV a, nodeV b]), .int .i64 t] w _
 have hl2 : L.length ≤ 100000 := by have := (lay_ok (.cat a b)).len t L; omega
 have Hn := Lib.hid (fun w => (pnd_all (.cat a b) ⟨oa, ob⟩).go w)
 have Hz := Lib.hid (fun h => lay_zero (.cat a b) ⟨oa, ob⟩ h t L)
 obtain ⟨nn, hnn⟩ : ∃ n, needF (.cat a b) = n := ⟨_, rfl⟩
 rw [hnn] at Hn Hz
 obtain ⟨ta, xa, hva⟩ := nodeV_iface a
 obtain ⟨tb, xb, hvb⟩ := nodeV_iface b
 have Hn := Lib.hid (fun w => show Calls Tryz.prog 96 #[.iface 172 (.agg #[.iface ta xa, .iface tb xb])] w fun e w' => e = .returned (.int .i64 nn) ∧ Below w.heap.size w w' by rw [← hva, ← hvb]; exact Hn.out w)
 rw [hva, hvb]
 have Hva := Lib.hid hva
 have Hvb := Lib.hid hvb
 have Ha := Lib.hid ha
 have Hb := Lib.hid hb
 have Hm := Lib.hid (MkP.start hm)
 have Hw := Lib.hid hw
 have Hl := Lib.hid hl
 have Hk0 := Lib.hid hm.lt
 clear hva hvb ha hb hm hw hl hnn
 have T0 := tai_miss (x := 71) (u := 172) Tryz.underlying128 (by kernel_rfl) Tryz.zeroValue128
 have T1 := ta_miss (x := 71) (u := 172) Tryz.underlying170 (fun m h => by cases h) (by decide) Tryz.zeroValue170
 have T2 := ta_miss (x := 71) (u := 172) Tryz.underlying171 (fun m h => by cases h) (by decide) Tryz.zeroValue171
 have T3 := ta_hit (x := 71) Tryz.underlying172 (fun m h => by cases h)
 by_cases hz : nn = 0
 ·subst hz
  have hz := Hz.out rfl
  have Hz2 := Lib.hid hz
  clear hz
  go_enter Tryz.func66, Tryz.ntmps66
  go_wp2_with fail
  (with_reducible refine (Hn.out w).mono ?_)
  rintro e w1 ⟨rfl, hb1⟩
  have Hm1 := Lib.hid (Hm.out.quiet hb1 hB)
  clear hb1
  go_wp2_with fail
  go_ret
  rw [Hz2.out]
  exact ⟨rfl, Hm1.out⟩
 have hz' : (nn == 0) = false := by simpa using hz
 clear hz Hz
 go_enter Tryz.func66, Tryz.ntmps66
 go_wp2_with fail
 (with_reducible refine (Hn.out w).mono ?_)
 rintro e w1 ⟨rfl, hb1⟩
 have Hm1 := Lib.hid ((Hm.out.quiet hb1 hB).quiet (alloc_below w1 (.cells #[.iface ta xa, .iface tb xb] 172)) hB)
 have Hx := Lib.hid (heap_alloc_new w1 (.cells #[.iface ta xa, .iface tb xb] 172))
 have Hk := Lib.hid (show w1.heap.size ≠ g by have := hb1.size; have := Hk0.out; omega)
 clear hb1 Hm Hn
 go_wp2_with fail
 generalize w1.alloc (.cells #[.iface ta xa, .iface tb xb] 172) = w2 at *
 generalize w1.heap.size = k at *
 obtain ⟨wq, hwq⟩ : ∃ wq, w2.drew = wq := ⟨_, rfl⟩
 have HR := Lib.hid (Hm1.out.quiet (show Below _ _ wq by rw [← hwq]; exact (Below.refl _ _).drew) hB)
 have HH := Lib.hid (show wq.heap[k]? = some (.cells #[.iface ta xa, .iface tb xb] 172 (0, 0)) by rw [← hwq]; exact Hx.out)
 obtain ⟨g1, g2, g3⟩ := lay_wf b t L ht Hw.out
 have hle := (lay_ok a).len (layF b t L).1 (layF b t L).2
 have Hl' := Lib.hid (show (layF a (layF b t L).1 (layF b t L).2).2.length ≤ 100000 from Hl.out)
 have Hlb := Lib.hid (Nat.le_trans hle Hl'.out)
 have Hg1 := Lib.hid g1
 have Hg2 := Lib.hid g2
 have HQ := Lib.hid (show layF (.cat a b) t L = layF a (layF b t L).1 (layF b t L).2 from rfl)
 clear Hx Hm1 g1 g2 g3 hle Hl
 refine wp_region_noPanic ?_
 refine wp_region_held_drew (S := fun w' => w'.cell? ⟨k, 0, none⟩ = some (.iface ta xa) ∧ w'.cell? ⟨k, 1, none⟩ = some (.iface tb xb)) (by kernel_rfl) ((by rw [hwq]; exact pairS HH.out)) (fun hHeld => ?_)
 refine tkH 0 (v := ?v0) (nth rfl) (by kernel_rfl) (by kernel_rfl) (by kernel_rfl) (fun _ _ _ h => h) (by rfl) hHeld ?y0 ?r0
 case y0 => (intro w hSw; (try dsimp only at hSw); go_simp; (try with_reducible rfl))
 try simp only [Act.put, pA, pB, pC]
 refine tkH 1 (v := ?v1) (nth rfl) (by kernel_rfl) (by kernel_rfl) (by kernel_rfl) (fun _ _ _ h => h) (by rfl) hHeld ?y1 ?r1
 case y1 => (intro w hSw; (try dsimp only at hSw); go_simp; (try with_reducible rfl))
 try simp only [Act.put, pA, pB, pC]
 refine tkH 2 (v := ?v2) (nth rfl) (by kernel_rfl) (by kernel_rfl) (by kernel_rfl) (fun _ _ _ h => h) (by rfl) hHeld ?y2 ?r2
 case y2 => (intro w hSw; (try dsimp only at hSw); go_simp; (try with_reducible rfl))
 try simp only [Act.put, pA, pB, pC]
 refine tkH 3 (v := ?v3) (nth rfl) (by kernel_rfl) (by kernel_rfl) (by kernel_rfl) (fun _ _ _ h => h) (by rfl) hHeld ?y3 ?r3
 case y3 => (intro w hSw; (try dsimp only at hSw); go_simp; (try with_reducible rfl))
 try simp only [Act.put, pA, pB, pC]
 refine tkH 4 (v := ?v4) (nth rfl) (by kernel_rfl) (by kernel_rfl) (by kernel_rfl) (fun _ _ _ h => h) (by rfl) hHeld ?y4 ?r4
 case y4 => (intro w hSw; (try dsimp only at hSw); go_simp; (try with_reducible rfl))
 try simp only [Act.put, pA, pB, pC]
 refine tkH 5 (v := ?v5) (nth rfl) (by kernel_rfl) (by kernel_rfl) (by kernel_rfl) (fun _ _ _ h => h) (by rfl) hHeld ?y5 ?r5
 case y5 => (intro w hSw; (try dsimp only at hSw); go_simp; (try with_reducible rfl))
 try simp only [Act.put, pA, pB, pC]
 refine tkH 6 (v := ?v6) (nth rfl) (by kernel_rfl) (by kernel_rfl) (by kernel_rfl) (fun _ _ _ h => h) (by rfl) hHeld ?y6 ?r6
 case y6 => (intro w hSw; (try dsimp only at hSw); go_simp; (try with_reducible rfl))
 try simp only [Act.put, pA, pB, pC]
 refine wpAnyH_ready (rs := [7]) (by kernel_rfl) (by simp) ?_
 refine AllReadyH.cons (nth rfl) (fun K hK => ?_) AllReadyH.nil
 go_simp
 clear hwq; rw [← Hvb.out]; (with_reducible refine (Hb.out.go HR.out.mk (HR.out.hB hB) Hw.out ht Hlb.out).mono ?_); rw [Hvb.out]; rintro e wn ⟨rfl, hm⟩; have HH := Lib.hid (hm.heap HH.out Hk.out (by decide)); have HR := Lib.hid (HR.out.trans hm); clear hm; go_simp
 refine hK.out _ _ (pairS HH.out) (fun hHeld => ?_)
 clear hK K
 try simp only [Act.put, pA, pB, pC]
 refine wpAnyH_ready (rs := [8]) (by kernel_rfl) (by simp) ?_
 refine AllReadyH.cons (nth rfl) (fun K hK => ?_) AllReadyH.nil
 go_simp
 rw [← Hva.out]; (with_reducible refine (Ha.out.go HR.out.mk (HR.out.hB hB) Hg1.out Hg2.out Hl'.out).mono ?_); rw [Hva.out]; rintro e wn ⟨rfl, hm⟩; have HH := Lib.hid (hm.heap HH.out Hk.out (by decide)); have HR := Lib.hid (HR.out.trans hm); clear hm; go_simp
 refine hK.out _ _ (pairS HH.out) (fun hHeld => ?_)
 clear hK K
 try simp only [Act.put, pA, pB, pC]
 refine tkH 9 (v := ?v7) (nth rfl) (by kernel_rfl) (by kernel_rfl) (by kernel_rfl) (fun _ _ _ h => h) (by rfl) hHeld ?y7 ?r7
 case y7 => (intro w hSw; (try dsimp only at hSw); go_simp; (try with_reducible rfl))
 try simp only [Act.put, pA, pB, pC]
 refine wpAnyH_done (by kernel_rfl) (NoPanic.normal ?_) _
 clear hHeld
 go_wp2_with fail
 go_ret
 rw [HQ.out]
 exact ⟨rfl, HR.out⟩
set_option maxHeartbeats 8000000 in
set_option maxRecDepth 100000 in
theorem play_alt {a b : Rx} (ha : PLay a) (hb : PLay b) (oa : a.ok) (ob : b.ok) : PLay (.alt a b) := by
 intro w B g t L hm hB hw ht hl
 show Calls Tryz.prog 66 #[.pointer (some ⟨g, 0, none⟩), .iface 159 (.agg #[nodeV a, nodeV b]), .int .i64 t] w _
 have hl2 : L.length ≤ 100000 := by have := (lay_ok (.alt a b)).len t L; omega
 have Hn := Lib.hid (fun w => (pnd_all (.alt a b) ⟨oa, ob⟩).go w)
 have Hz := Lib.hid (fun h => lay_zero (.alt a b) ⟨oa, ob⟩ h t L)
 obtain ⟨nn, hnn⟩ : ∃ n, needF (.alt a b) = n := ⟨_, rfl⟩
 rw [hnn] at Hn Hz
 obtain ⟨ta, xa, hva⟩ := nodeV_iface a
 obtain ⟨tb, xb, hvb⟩ := nodeV_iface b
 have Hn := Lib.hid (fun w => show Calls Tryz.prog 96 #[.iface 159 (.agg #[.iface ta xa, .iface tb xb])] w fun e w' => e = .returned (.int .i64 nn) ∧ Below w.heap.size w w' by rw [← hva, ← hvb]; exact Hn.out w)
 rw [hva, hvb]
 have Hva := Lib.hid hva
 have Hvb := Lib.hid hvb
 have Ha := Lib.hid ha
 have Hb := Lib.hid hb
 have Hm := Lib.hid (MkP.start hm)
 have Hw := Lib.hid hw
 have Hl := Lib.hid hl
 have Hk0 := Lib.hid hm.lt
 clear hva hvb ha hb hm hw hl hnn
 have T0 := tai_miss (x := 71) (u := 159) Tryz.underlying128 (by kernel_rfl) Tryz.zeroValue128
 have T1 := ta_miss (x := 71) (u := 159) Tryz.underlying170 (fun m h => by cases h) (by decide) Tryz.zeroValue170
 have T2 := ta_miss (x := 71) (u := 159) Tryz.underlying171 (fun m h => by cases h) (by decide) Tryz.zeroValue171
 have T3 := ta_miss (x := 71) (u := 159) Tryz.underlying172 (fun m h => by cases h) (by decide) Tryz.zeroValue172
 have T4 := ta_hit (x := 71) Tryz.underlying159 (fun m h => by cases h)
 by_cases hz : nn = 0
 ·subst hz
  have hz := Hz.out rfl
  have Hz2 := Lib.hid hz
  clear hz
  go_enter Tryz.func66, Tryz.ntmps66
  go_wp2_with fail
  (with_reducible refine (Hn.out w).mono ?_)
  rintro e w1 ⟨rfl, hb1⟩
  have Hm1 := Lib.hid (Hm.out.quiet hb1 hB)
  clear hb1
  go_wp2_with fail
  go_ret
  rw [Hz2.out]
  exact ⟨rfl, Hm1.out⟩
 have hz' : (nn == 0) = false := by simpa using hz
 clear hz Hz
 go_enter Tryz.func66, Tryz.ntmps66
 go_wp2_with fail
 (with_reducible refine (Hn.out w).mono ?_)
 rintro e w1 ⟨rfl, hb1⟩
 have Hm1 := Lib.hid ((Hm.out.quiet hb1 hB).quiet (alloc_below w1 (.cells #[.iface ta xa, .iface tb xb] 159)) hB)
 have Hx := Lib.hid (heap_alloc_new w1 (.cells #[.iface ta xa, .iface tb xb] 159))
 have Hk := Lib.hid (show w1.heap.size ≠ g by have := hb1.size; have := Hk0.out; omega)
 clear hb1 Hm Hn
 go_wp2_with fail
 generalize w1.alloc (.cells #[.iface ta xa, .iface tb xb] 159) = w2 at *
 generalize w1.heap.size = k at *
 obtain ⟨g1, g2, g3⟩ := lay_wf b t L ht Hw.out
 obtain ⟨g4, g5, g6⟩ := lay_wf a t (layF b t L).2 (by omega) g1
 have HQ := Lib.hid (show layF (.alt a b) t L = ((layF a t (layF b t L).2).2.length, (layF a t (layF b t L).2).2 ++ [.fork (layF a t (layF b t L).2).1 (layF b t L).1]) from rfl)
 have hl' := Hl.out
 rw [HQ.out] at hl'
 simp only [List.length_append, List.length_cons, List.length_nil] at hl'
 have Hla := Lib.hid (show (layF a t (layF b t L).2).2.length ≤ 100000 by omega)
 have Hlb := Lib.hid (show (layF b t L).2.length ≤ 100000 by omega)
 have Hg1 := Lib.hid g1
 have Ht2 := Lib.hid (show t < (layF b t L).2.length by omega)
 clear g1 g2 g3 g4 g5 g6 hl' Hl
 rw [← Hvb.out]
 (with_reducible refine (Hb.out.go Hm1.out.mk (Hm1.out.hB hB) Hw.out ht Hlb.out).mono ?_)
 rw [Hvb.out]
 rintro e w3 ⟨rfl, hm3⟩
 have Hm3 := Lib.hid (Hm1.out.trans hm3)
 have Hx3 := Lib.hid (hm3.heap Hx.out Hk.out (by decide))
 obtain ⟨d0, d1⟩ := pairS Hx3.out
 clear hm3
 go_wp2_with fail
 clear d0 d1
 rw [← Hva.out]
 (with_reducible refine (Ha.out.go Hm3.out.mk (Hm3.out.hB hB) Hg1.out Ht2.out Hla.out).mono ?_)
 rw [Hva.out]
 rintro e w4 ⟨rfl, hm4⟩
 have Hm4 := Lib.hid (Hm3.out.trans hm4)
 clear hm4
 go_wp2_with fail
 (with_reducible refine (addfork_any Hm4.out.mk _ _ (by have := Hla.out; omega) (Hm4.out.hB hB)).mono ?_)
 rintro e w5 ⟨rfl, hm5⟩
 have Hm5 := Lib.hid (Hm4.out.trans hm5)
 clear hm5
 go_wp2_with fail
 go_ret
 rw [HQ.out]
 exact ⟨rfl, Hm5.out⟩
set_option maxHeartbeats 8000000 in
set_option maxRecDepth 100000 in
theorem play_rep {a : Rx} {mn mx : Int} (ha : PLay a) (oa : a.ok) (h1 : 0 ≤ mn) (h2 : mn ≤ 1000) (h3 : mx = -1 ∨ (mn ≤ mx ∧ mx ≤ 1000)) : PLay (.rep a mn mx) := by
 intro w B g t L hm hB hw ht hl
 show Calls Tryz.prog 66 #[.pointer (some ⟨g, 0, none⟩), .iface 174 (.agg #[nodeV a, .int .i64 mn, .int .i64 mx]), .int .i64 t] w _
 have hl2 : L.length ≤ 100000 := by have := (lay_ok (.rep a mn mx)).len t L; omega
 have Hn := Lib.hid (fun w => (pnd_all (.rep a mn mx) ⟨oa, h1, h2, h3⟩).go w)
 have Hz := Lib.hid (fun h => lay_zero (.rep a mn mx) ⟨oa, h1, h2, h3⟩ h t L)
 obtain ⟨nn, hnn⟩ : ∃ n, needF (.rep a mn mx) = n := ⟨_, rfl⟩
 rw [hnn] at Hn Hz
 have Hp := Lib.hid (fun (w1 : World) (hm : Mk w1 B g L) (hB : B ≤ w1.heap.size) => prep_any ha h1 h2 h3 hm hB hw ht hl)
 obtain ⟨ta, xa, hva⟩ := nodeV_iface a
 have Hn := Lib.hid (fun w => show Calls Tryz.prog 96 #[.iface 174 (.agg #[.iface ta xa, .int .i64 mn, .int .i64 mx])] w fun e w' => e = .returned (.int .i64 nn) ∧ Below w.heap.size w w' by rw [← hva]; exact Hn.out w)
 rw [hva] at Hp ⊢
 have Hm := Lib.hid (MkP.start hm)
 have Hk0 := Lib.hid hm.lt
 clear hva ha hm hw hl hnn h3
 have T0 := tai_miss (x := 71) (u := 174) Tryz.underlying128 (by kernel_rfl) Tryz.zeroValue128
 have T1 := ta_miss (x := 71) (u := 174) Tryz.underlying170 (fun m h => by cases h) (by decide) Tryz.zeroValue170
 have T2 := ta_miss (x := 71) (u := 174) Tryz.underlying171 (fun m h => by cases h) (by decide) Tryz.zeroValue171
 have T3 := ta_miss (x := 71) (u := 174) Tryz.underlying172 (fun m h => by cases h) (by decide) Tryz.zeroValue172
 have T4 := ta_miss (x := 71) (u := 174) Tryz.underlying159 (fun m h => by cases h) (by decide) Tryz.zeroValue159
 have T5 := ta_hit (x := 71) Tryz.underlying174 (fun m h => by cases h)
 by_cases hz : nn = 0
 ·subst hz
  have hz := Hz.out rfl
  have Hz2 := Lib.hid hz
  clear hz
  go_enter Tryz.func66, Tryz.ntmps66
  go_wp2_with fail
  (with_reducible refine (Hn.out w).mono ?_)
  rintro e w1 ⟨rfl, hb1⟩
  have Hm1 := Lib.hid (Hm.out.quiet hb1 hB)
  clear hb1
  go_wp2_with fail
  go_ret
  rw [Hz2.out]
  exact ⟨rfl, Hm1.out⟩
 have hz' : (nn == 0) = false := by simpa using hz
 clear hz Hz
 go_enter Tryz.func66, Tryz.ntmps66
 go_wp2_with fail
 (with_reducible refine (Hn.out w).mono ?_)
 rintro e w1 ⟨rfl, hb1⟩
 have Hm1 := Lib.hid ((Hm.out.quiet hb1 hB).quiet (alloc_below w1 (.cells #[.iface ta xa, .int .i64 mn, .int .i64 mx] 174)) hB)
 have Hx := Lib.hid (heap_alloc_new w1 (.cells #[.iface ta xa, .int .i64 mn, .int .i64 mx] 174))
 have Hk := Lib.hid (show w1.heap.size ≠ g by have := hb1.size; have := Hk0.out; omega)
 clear hb1 Hm Hn
 go_wp2_with fail
 generalize w1.alloc (.cells #[.iface ta xa, .int .i64 mn, .int .i64 mx] 174) = w2 at *
 generalize w1.heap.size = k at *
 (with_reducible refine (Hp.out _ Hm1.out.mk (Hm1.out.hB hB)).mono ?_)
 rintro e w3 ⟨rfl, hm3⟩
 have Hm3 := Lib.hid (Hm1.out.trans hm3)
 clear hm3
 go_wp2_with fail
 go_ret
 exact ⟨rfl, Hm3.out⟩
theorem play_all : ∀ (r : Rx), r.ok → PLay r
 | .emp, _ => play_emp
 | .chr c, _ => play_chr c
 | .any, _ => play_any
 | .set cs, _ => play_set cs
 | .beg, _ => play_beg
 | .fin, _ => play_fin
 | .cat a b, h => play_cat (play_all a h.1) (play_all b h.2) h.1 h.2
 | .alt a b, h => play_alt (play_all a h.1) (play_all b h.2) h.1 h.2
 | .rep a _ _, h => play_rep (play_all a h.1) h.1 h.2.1 h.2.2.1 h.2.2.2
def CmpP (w : World) (r : Rx) (e : Ending) (w' : World) : Prop := ∃ g : Nat, e = .returned (.tuple #[.pointer (some ⟨g, 0, none⟩), .nilIface]) ∧ w.heap.size ≤ g ∧ Mch w' g (mcS r) (mcT r) ∧ Below w.heap.size w w'
set_option maxHeartbeats 8000000 in
set_option maxRecDepth 100000 in
theorem compile_any {r : Rx} (ho : r.ok) (hx : r.nox) (hst : statesF r ≤ 3000) {w : World} (hT : Tabs w) (hl : wlen r ≤ 10000000000000) : Calls Tryz.prog 38 #[nodeV r, .int .i64 3000] w fun e w' => CmpP w r e w' := by
 have Hs := Lib.hid (states_any ho hx hT hl)
 have Hly := Lib.hid (play_all r ho)
 obtain ⟨n1, n2⟩ := needF_bd r ho
 have hs0 : 0 ≤ statesF r := (adS_bd n1 (by decide)).1
 have hlen := mc_len ho hst
 have Hlen := Lib.hid hlen
 obtain ⟨nn, hnn⟩ : ∃ n, statesF r = n := ⟨_, rfl⟩
 rw [hnn] at Hs hst hs0
 have Hw0 := Lib.hid (show Wf [St.done] from fun z hz => by rw [List.mem_singleton.1 hz]; trivial)
 have HQ := Lib.hid (show layF r 0 [.done] = (mcT r, mcS r) from rfl)
 have Hll := Lib.hid (show (layF r 0 [.done]).2.length ≤ 100000 by rw [HQ.out]; show (mcS r).length ≤ _; have := Hlen.out; omega)
 obtain ⟨tr, xr, hv⟩ := nodeV_iface r
 rw [hv] at Hs ⊢
 have Hv := Lib.hid hv
 clear hv ho hx hT hl hlen hnn
 go_enter Tryz.func38, Tryz.ntmps38
 go_wp2_with fail
 (with_reducible refine Hs.out.mono ?_)
 rintro e w1 ⟨rfl, hb1⟩
 have Hb1 := Lib.hid hb1
 clear hb1
 have hgt : ¬ 3000 < nn := by omega
 go_wp2_with fail
 have hrow : ((w1.alloc (.cells #[.iface 118 (.agg #[])] 124)).alloc (.cells #[.slice (some ⟨w1.heap.size, 0, none⟩) 1 1, .int .i64 0] 121)).heap[w1.heap.size]? = some (.cells #[.iface 118 (.agg #[])] 124 (0, 0)) := (Below.heap_alloc _ _ _ (by simp)).trans (heap_alloc_new w1 _)
 have hmch := heap_alloc_new (w1.alloc (.cells #[.iface 118 (.agg #[])] 124)) (.cells #[.slice (some ⟨w1.heap.size, 0, none⟩) 1 1, .int .i64 0] 121)
 rw [World.size_alloc] at hmch
 have hb2 : Below w1.heap.size w1 ((w1.alloc (.cells #[.iface 118 (.agg #[])] 124)).alloc (.cells #[.slice (some ⟨w1.heap.size, 0, none⟩) 1 1, .int .i64 0] 121)) := ((Below.refl _ _).alloc (Nat.le_refl _) _).alloc (by simp) _
 generalize (w1.alloc (.cells #[.iface 118 (.agg #[])] 124)).alloc (.cells #[.slice (some ⟨w1.heap.size, 0, none⟩) 1 1, .int .i64 0] 121) = w2 at *
 have hs1 := Hb1.out.size
 have Hb2 := Lib.hid (Hb1.out.trans (hb2.mono hs1))
 have hmk : Mk w2 w.heap.size (w1.heap.size + 1) [.done] := ⟨by omega, some ⟨w1.heap.size, 0, none⟩, 1, hmch, ⟨rfl, .inr ⟨w1.heap.size, 1, _, rfl, hs1, hrow, Nat.le_refl _, by unfold maxLen; simp, rfl, rfl⟩⟩⟩
 have Hc := Lib.hid (show Calls Tryz.prog 66 #[.pointer (some ⟨w1.heap.size + 1, 0, none⟩), nodeV r, .int .i64 0] w2 fun e w' => AddP w2 w.heap.size (w1.heap.size + 1) (mcS r) (mcT r) e w' from Hly.out.go (t := 0) hmk Hb2.out.size Hw0.out (by simp) Hll.out)
 rw [Hv.out] at Hc
 have Hg := Lib.hid (show w.heap.size ≤ w1.heap.size + 1 by omega)
 clear hrow hmch hb2 hmk Hly
 generalize w1.heap.size + 1 = g at *
 (with_reducible refine Hc.out.mono ?_)
 rintro e w3 ⟨rfl, hm3⟩
 have Hb3 := Lib.hid (Hb2.out.trans hm3.2.1)
 obtain ⟨-, A, q, h1, h2⟩ := hm3.mk
 have H1 := Lib.hid h1
 have H2 := Lib.hid h2
 have d0 := row_cell h1 (j := 1) (u := .int .i64 0) rfl
 have f0 := row_frozen h1 1
 clear hm3 h1 h2
 go_wp2_with fail
 go_ret2
 have hne := own_ne H2.out H1.out (by decide)
 refine ⟨g, rfl, Hg.out, ⟨A, q, row_set H1.out 1 _, ?_⟩, Hb3.out.setCell (p := ⟨g, 1, none⟩) Hg.out _⟩
 exact Sl.of_own (World.ownsRow.kept H2.out (Fr.set g 1 w3 _) (.inr hne))
end Go.Proofs.YthhnmpkgleelfaaGreatDoor
