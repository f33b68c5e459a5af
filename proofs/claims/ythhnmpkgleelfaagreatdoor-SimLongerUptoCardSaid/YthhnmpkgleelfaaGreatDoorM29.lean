import Derived.Test.YthhnmpkgleelfaaGreatDoorM28
set_option linter.unusedVariables false
set_option linter.unusedSimpArgs false
namespace Go.Proofs.YthhnmpkgleelfaaGreatDoor
open Go.RowKit Go.Shelf
def wlen : Rx → Nat
 | .emp => 0
 | .chr _ => 12
 | .any => 1
 | .set cs => 2 + 25 * cs.length
 | .beg => 1
 | .fin => 1
 | .cat a b => wlen a + wlen b + 8
 | .alt a b => wlen a + wlen b + 5
 | .rep a _ _ => wlen a + 68
def Tb (B : Nat) (w : World) : Prop := ∃ w0 : World, w0.heap.size = B ∧ Tabs w0 ∧ Below B w0 w
theorem Tb.start {w : World} (h : Tabs w) : Tb w.heap.size w := ⟨w, rfl, h, Below.refl _ _⟩
theorem Tb.tabs {B : Nat} {w : World} (h : Tb B w) : Tabs w := by
 obtain ⟨w0, rfl, h1, h2⟩ := h
 exact h1.below h2
theorem Tb.then {B : Nat} {w w' : World} (h : Tb B w) (hb : Below B w w') : Tb B w' := by
 obtain ⟨w0, h0, h1, h2⟩ := h
 exact ⟨w0, h0, h1, h2.trans hb⟩
theorem Tb.size {B : Nat} {w : World} (h : Tb B w) : B ≤ w.heap.size := by
 obtain ⟨w0, rfl, h1, h2⟩ := h
 exact h2.size
def PWr (r : Rx) : Prop := ∀ (w : World) (B b n : Nat), Bd w B b n → Tb B w → n + wlen r ≤ 100000000000000 → Calls Tryz.prog 116 #[.pointer (some ⟨b, 0, none⟩), nodeV r] w fun e w' => WnP w B b (n + wlen r) e w'
theorem PWr.go {r : Rx} (h : PWr r) {w : World} {B b n : Nat} (h1 : Bd w B b n) (h2 : Tb B w) (h3 : n + wlen r ≤ 100000000000000) : Calls Tryz.prog 116 #[.pointer (some ⟨b, 0, none⟩), nodeV r] w fun e w' => WnP w B b (n + wlen r) e w' := h w B b n h1 h2 h3
theorem BdP.tb {w w' : World} {B b n : Nat} (h : BdP w B b n w') (k : Tb B w) : Tb B w' := k.then h.2.1
set_option maxHeartbeats 4000000 in
theorem pgrp_any {r : Rx} (hr : PWr r) (q : Bool) {w : World} {B b n : Nat} (h : Bd w B b n) (hT : Tb B w) (hn : n + wlen r + 4 ≤ 100000000000000) : Calls Tryz.prog 138 #[.pointer (some ⟨b, 0, none⟩), nodeV r, .bool q] w fun e w' => WnP w B b (n + wlen r + 4) e w' := by
 have hB := hT.size
 have Hr := Lib.hid hr
 have HT := Lib.hid hT
 have Hb0 := Lib.hid (BdP.start h)
 obtain ⟨tr, xr, hv⟩ := nodeV_iface r
 rw [hv]
 have Hv := Lib.hid hv
 clear hv hr hT h
 obtain ⟨m, hm⟩ : ∃ m, wlen r = m := ⟨_, rfl⟩
 rw [hm] at hn ⊢
 have Hm := Lib.hid hm
 clear hm
 cases q with
 | true =>
  go_enter Tryz.func138, Tryz.ntmps138
  go_wp2_with fail
  (with_reducible refine (wstr_any Hb0.out.bd _ 3 (by decide) (by omega) hB).mono ?_)
  rintro e w1 ⟨z, rfl, hb1⟩
  have Hb1 := Lib.hid (Hb0.out.trans hb1)
  clear hb1
  go_wp2_with fail
  rw [← Hv.out]
  (with_reducible refine (Hr.out.go Hb1.out.bd (Hb1.out.tb HT.out) (by rw [Hm.out]; omega)).mono ?_)
  rintro e w2 ⟨rfl, hb2⟩
  rw [Hm.out] at hb2
  have Hb2 := Lib.hid (Hb1.out.trans hb2)
  clear hb2
  rw [Hv.out]
  go_wp2_with fail
  (with_reducible refine (wbyte_any Hb2.out.bd 41 (by decide) (by decide) (by omega) (Hb2.out.hB hB)).mono ?_)
  rintro e w3 ⟨rfl, hb3⟩
  have Hb3 := Lib.hid ((Hb2.out.trans hb3).more (show n + 3 + m + 1 ≤ n + m + 4 by omega))
  clear hb3
  go_wp2_with fail
  go_end0
  exact ⟨rfl, Hb3.out⟩
 | false =>
  go_enter Tryz.func138, Tryz.ntmps138
  go_wp2_with fail
  rw [← Hv.out]
  (with_reducible refine (Hr.out.go Hb0.out.bd HT.out (by rw [Hm.out]; omega)).mono ?_)
  rintro e w2 ⟨rfl, hb2⟩
  rw [Hm.out] at hb2
  have Hb2 := Lib.hid ((Hb0.out.trans hb2).more (show n + m ≤ n + m + 4 by omega))
  clear hb2
  rw [Hv.out]
  go_wp2_with fail
  go_end0
  exact ⟨rfl, Hb2.out⟩
def emB : Rx → Bool | .emp => true | _ => false
def caB : Rx → Bool | .cat _ _ => true | _ => false
def alB : Rx → Bool | .alt _ _ => true | _ => false
def IsxP (w : World) (q : Bool) (e : Ending) (w' : World) : Prop := e = .returned (.bool q) ∧ Below w.heap.size w w'
set_option maxHeartbeats 2000000 in
theorem isempty_any (r : Rx) (w : World) : Calls Tryz.prog 140 #[nodeV r] w fun e w' => IsxP w (emB r) e w' := by
 cases r with
 | emp =>
  show Calls Tryz.prog 140 #[.iface 182 (.agg #[])] w _
  have T0 := ta_hit (x := 71) Tryz.underlying182 (fun m h => by cases h)
  go_enter Tryz.func140, Tryz.ntmps140
  go_wp2_with fail
  go_ret
  exact ⟨rfl, alloc_below _ _⟩
 | chr c =>
  show Calls Tryz.prog 140 #[.iface 216 (.agg #[.int .i32 c])] w _
  have T0 := ta_miss (x := 71) (u := 216) Tryz.underlying182 (fun m h => by cases h) (by decide) Tryz.zeroValue182
  go_enter Tryz.func140, Tryz.ntmps140
  go_wp2_with fail
  go_ret
  exact ⟨rfl, alloc_below _ _⟩
 | any =>
  show Calls Tryz.prog 140 #[.iface 208 (.agg #[])] w _
  have T0 := ta_miss (x := 71) (u := 208) Tryz.underlying182 (fun m h => by cases h) (by decide) Tryz.zeroValue182
  go_enter Tryz.func140, Tryz.ntmps140
  go_wp2_with fail
  go_ret
  exact ⟨rfl, alloc_below _ _⟩
 | set cs =>
  show Calls Tryz.prog 140 #[.iface 213 (.agg #[.string (rngB cs)])] w _
  generalize rngB cs = B
  have T0 := ta_miss (x := 71) (u := 213) Tryz.underlying182 (fun m h => by cases h) (by decide) Tryz.zeroValue182
  go_enter Tryz.func140, Tryz.ntmps140
  go_wp2_with fail
  go_ret
  exact ⟨rfl, alloc_below _ _⟩
 | beg =>
  show Calls Tryz.prog 140 #[.iface 170 (.agg #[])] w _
  have T0 := ta_miss (x := 71) (u := 170) Tryz.underlying182 (fun m h => by cases h) (by decide) Tryz.zeroValue182
  go_enter Tryz.func140, Tryz.ntmps140
  go_wp2_with fail
  go_ret
  exact ⟨rfl, alloc_below _ _⟩
 | fin =>
  show Calls Tryz.prog 140 #[.iface 171 (.agg #[])] w _
  have T0 := ta_miss (x := 71) (u := 171) Tryz.underlying182 (fun m h => by cases h) (by decide) Tryz.zeroValue182
  go_enter Tryz.func140, Tryz.ntmps140
  go_wp2_with fail
  go_ret
  exact ⟨rfl, alloc_below _ _⟩
 | cat a b =>
  show Calls Tryz.prog 140 #[.iface 172 (.agg #[nodeV a, nodeV b])] w _
  obtain ⟨ta, xa, hva⟩ := nodeV_iface a
  obtain ⟨tb, xb, hvb⟩ := nodeV_iface b
  rw [hva, hvb]
  clear hva hvb
  have T0 := ta_miss (x := 71) (u := 172) Tryz.underlying182 (fun m h => by cases h) (by decide) Tryz.zeroValue182
  go_enter Tryz.func140, Tryz.ntmps140
  go_wp2_with fail
  go_ret
  exact ⟨rfl, alloc_below _ _⟩
 | alt a b =>
  show Calls Tryz.prog 140 #[.iface 159 (.agg #[nodeV a, nodeV b])] w _
  obtain ⟨ta, xa, hva⟩ := nodeV_iface a
  obtain ⟨tb, xb, hvb⟩ := nodeV_iface b
  rw [hva, hvb]
  clear hva hvb
  have T0 := ta_miss (x := 71) (u := 159) Tryz.underlying182 (fun m h => by cases h) (by decide) Tryz.zeroValue182
  go_enter Tryz.func140, Tryz.ntmps140
  go_wp2_with fail
  go_ret
  exact ⟨rfl, alloc_below _ _⟩
 | rep a mn mx =>
  show Calls Tryz.prog 140 #[.iface 174 (.agg #[nodeV a, .int .i64 mn, .int .i64 mx])] w _
  obtain ⟨ta, xa, hva⟩ := nodeV_iface a
  rw [hva]
  clear hva
  have T0 := ta_miss (x := 71) (u := 174) Tryz.underlying182 (fun m h => by cases h) (by decide) Tryz.zeroValue182
  go_enter Tryz.func140, Tryz.ntmps140
  go_wp2_with fail
  go_ret
  exact ⟨rfl, alloc_below _ _⟩
set_option maxHeartbeats 2000000 in
theorem iscat_any (r : Rx) (w : World) : Calls Tryz.prog 141 #[nodeV r] w fun e w' => IsxP w (caB r) e w' := by
 cases r with
 | emp =>
  show Calls Tryz.prog 141 #[.iface 182 (.agg #[])] w _
  have T0 := ta_miss (x := 71) (u := 182) Tryz.underlying172 (fun m h => by cases h) (by decide) Tryz.zeroValue172
  go_enter Tryz.func141, Tryz.ntmps141
  go_wp2_with fail
  go_ret
  exact ⟨rfl, alloc_below _ _⟩
 | chr c =>
  show Calls Tryz.prog 141 #[.iface 216 (.agg #[.int .i32 c])] w _
  have T0 := ta_miss (x := 71) (u := 216) Tryz.underlying172 (fun m h => by cases h) (by decide) Tryz.zeroValue172
  go_enter Tryz.func141, Tryz.ntmps141
  go_wp2_with fail
  go_ret
  exact ⟨rfl, alloc_below _ _⟩
 | any =>
  show Calls Tryz.prog 141 #[.iface 208 (.agg #[])] w _
  have T0 := ta_miss (x := 71) (u := 208) Tryz.underlying172 (fun m h => by cases h) (by decide) Tryz.zeroValue172
  go_enter Tryz.func141, Tryz.ntmps141
  go_wp2_with fail
  go_ret
  exact ⟨rfl, alloc_below _ _⟩
 | set cs =>
  show Calls Tryz.prog 141 #[.iface 213 (.agg #[.string (rngB cs)])] w _
  generalize rngB cs = B
  have T0 := ta_miss (x := 71) (u := 213) Tryz.underlying172 (fun m h => by cases h) (by decide) Tryz.zeroValue172
  go_enter Tryz.func141, Tryz.ntmps141
  go_wp2_with fail
  go_ret
  exact ⟨rfl, alloc_below _ _⟩
 | beg =>
  show Calls Tryz.prog 141 #[.iface 170 (.agg #[])] w _
  have T0 := ta_miss (x := 71) (u := 170) Tryz.underlying172 (fun m h => by cases h) (by decide) Tryz.zeroValue172
  go_enter Tryz.func141, Tryz.ntmps141
  go_wp2_with fail
  go_ret
  exact ⟨rfl, alloc_below _ _⟩
 | fin =>
  show Calls Tryz.prog 141 #[.iface 171 (.agg #[])] w _
  have T0 := ta_miss (x := 71) (u := 171) Tryz.underlying172 (fun m h => by cases h) (by decide) Tryz.zeroValue172
  go_enter Tryz.func141, Tryz.ntmps141
  go_wp2_with fail
  go_ret
  exact ⟨rfl, alloc_below _ _⟩
 | cat a b =>
  show Calls Tryz.prog 141 #[.iface 172 (.agg #[nodeV a, nodeV b])] w _
  obtain ⟨ta, xa, hva⟩ := nodeV_iface a
  obtain ⟨tb, xb, hvb⟩ := nodeV_iface b
  rw [hva, hvb]
  clear hva hvb
  have T0 := ta_hit (x := 71) Tryz.underlying172 (fun m h => by cases h)
  go_enter Tryz.func141, Tryz.ntmps141
  go_wp2_with fail
  go_ret
  exact ⟨rfl, alloc_below _ _⟩
 | alt a b =>
  show Calls Tryz.prog 141 #[.iface 159 (.agg #[nodeV a, nodeV b])] w _
  obtain ⟨ta, xa, hva⟩ := nodeV_iface a
  obtain ⟨tb, xb, hvb⟩ := nodeV_iface b
  rw [hva, hvb]
  clear hva hvb
  have T0 := ta_miss (x := 71) (u := 159) Tryz.underlying172 (fun m h => by cases h) (by decide) Tryz.zeroValue172
  go_enter Tryz.func141, Tryz.ntmps141
  go_wp2_with fail
  go_ret
  exact ⟨rfl, alloc_below _ _⟩
 | rep a mn mx =>
  show Calls Tryz.prog 141 #[.iface 174 (.agg #[nodeV a, .int .i64 mn, .int .i64 mx])] w _
  obtain ⟨ta, xa, hva⟩ := nodeV_iface a
  rw [hva]
  clear hva
  have T0 := ta_miss (x := 71) (u := 174) Tryz.underlying172 (fun m h => by cases h) (by decide) Tryz.zeroValue172
  go_enter Tryz.func141, Tryz.ntmps141
  go_wp2_with fail
  go_ret
  exact ⟨rfl, alloc_below _ _⟩
set_option maxHeartbeats 2000000 in
theorem isalt_any (r : Rx) (w : World) : Calls Tryz.prog 142 #[nodeV r] w fun e w' => IsxP w (alB r) e w' := by
 cases r with
 | emp =>
  show Calls Tryz.prog 142 #[.iface 182 (.agg #[])] w _
  have T0 := ta_miss (x := 71) (u := 182) Tryz.underlying159 (fun m h => by cases h) (by decide) Tryz.zeroValue159
  go_enter Tryz.func142, Tryz.ntmps142
  go_wp2_with fail
  go_ret
  exact ⟨rfl, alloc_below _ _⟩
 | chr c =>
  show Calls Tryz.prog 142 #[.iface 216 (.agg #[.int .i32 c])] w _
  have T0 := ta_miss (x := 71) (u := 216) Tryz.underlying159 (fun m h => by cases h) (by decide) Tryz.zeroValue159
  go_enter Tryz.func142, Tryz.ntmps142
  go_wp2_with fail
  go_ret
  exact ⟨rfl, alloc_below _ _⟩
 | any =>
  show Calls Tryz.prog 142 #[.iface 208 (.agg #[])] w _
  have T0 := ta_miss (x := 71) (u := 208) Tryz.underlying159 (fun m h => by cases h) (by decide) Tryz.zeroValue159
  go_enter Tryz.func142, Tryz.ntmps142
  go_wp2_with fail
  go_ret
  exact ⟨rfl, alloc_below _ _⟩
 | set cs =>
  show Calls Tryz.prog 142 #[.iface 213 (.agg #[.string (rngB cs)])] w _
  generalize rngB cs = B
  have T0 := ta_miss (x := 71) (u := 213) Tryz.underlying159 (fun m h => by cases h) (by decide) Tryz.zeroValue159
  go_enter Tryz.func142, Tryz.ntmps142
  go_wp2_with fail
  go_ret
  exact ⟨rfl, alloc_below _ _⟩
 | beg =>
  show Calls Tryz.prog 142 #[.iface 170 (.agg #[])] w _
  have T0 := ta_miss (x := 71) (u := 170) Tryz.underlying159 (fun m h => by cases h) (by decide) Tryz.zeroValue159
  go_enter Tryz.func142, Tryz.ntmps142
  go_wp2_with fail
  go_ret
  exact ⟨rfl, alloc_below _ _⟩
 | fin =>
  show Calls Tryz.prog 142 #[.iface 171 (.agg #[])] w _
  have T0 := ta_miss (x := 71) (u := 171) Tryz.underlying159 (fun m h => by cases h) (by decide) Tryz.zeroValue159
  go_enter Tryz.func142, Tryz.ntmps142
  go_wp2_with fail
  go_ret
  exact ⟨rfl, alloc_below _ _⟩
 | cat a b =>
  show Calls Tryz.prog 142 #[.iface 172 (.agg #[nodeV a, nodeV b])] w _
  obtain ⟨ta, xa, hva⟩ := nodeV_iface a
  obtain ⟨tb, xb, hvb⟩ := nodeV_iface b
  rw [hva, hvb]
  clear hva hvb
  have T0 := ta_miss (x := 71) (u := 172) Tryz.underlying159 (fun m h => by cases h) (by decide) Tryz.zeroValue159
  go_enter Tryz.func142, Tryz.ntmps142
  go_wp2_with fail
  go_ret
  exact ⟨rfl, alloc_below _ _⟩
 | alt a b =>
  show Calls Tryz.prog 142 #[.iface 159 (.agg #[nodeV a, nodeV b])] w _
  obtain ⟨ta, xa, hva⟩ := nodeV_iface a
  obtain ⟨tb, xb, hvb⟩ := nodeV_iface b
  rw [hva, hvb]
  clear hva hvb
  have T0 := ta_hit (x := 71) Tryz.underlying159 (fun m h => by cases h)
  go_enter Tryz.func142, Tryz.ntmps142
  go_wp2_with fail
  go_ret
  exact ⟨rfl, alloc_below _ _⟩
 | rep a mn mx =>
  show Calls Tryz.prog 142 #[.iface 174 (.agg #[nodeV a, .int .i64 mn, .int .i64 mx])] w _
  obtain ⟨ta, xa, hva⟩ := nodeV_iface a
  rw [hva]
  clear hva
  have T0 := ta_miss (x := 71) (u := 174) Tryz.underlying159 (fun m h => by cases h) (by decide) Tryz.zeroValue159
  go_enter Tryz.func142, Tryz.ntmps142
  go_wp2_with fail
  go_ret
  exact ⟨rfl, alloc_below _ _⟩
theorem atom_ta (r : Rx) : ∃ (z : Value) (q : Bool), ∀ (x : TypeId) (w : World), (Instr.typeAssert (nodeV r) x 128 true).run Tryz.prog w = .ok (.tuple #[z, .bool q]) w := by
 cases r
 case emp => exact ⟨_, _, fun x w => tai_miss (x := x) (u := 182) Tryz.underlying128 (by kernel_rfl) Tryz.zeroValue128 _ w⟩
 case chr => exact ⟨_, _, fun x w => tai_hit (x := x) (u := 216) Tryz.underlying128 (by kernel_rfl) _ w⟩
 case any => exact ⟨_, _, fun x w => tai_hit (x := x) (u := 208) Tryz.underlying128 (by kernel_rfl) _ w⟩
 case set => exact ⟨_, _, fun x w => tai_hit (x := x) (u := 213) Tryz.underlying128 (by kernel_rfl) _ w⟩
 case beg => exact ⟨_, _, fun x w => tai_miss (x := x) (u := 170) Tryz.underlying128 (by kernel_rfl) Tryz.zeroValue128 _ w⟩
 case fin => exact ⟨_, _, fun x w => tai_miss (x := x) (u := 171) Tryz.underlying128 (by kernel_rfl) Tryz.zeroValue128 _ w⟩
 case cat => exact ⟨_, _, fun x w => tai_miss (x := x) (u := 172) Tryz.underlying128 (by kernel_rfl) Tryz.zeroValue128 _ w⟩
 case alt => exact ⟨_, _, fun x w => tai_miss (x := x) (u := 159) Tryz.underlying128 (by kernel_rfl) Tryz.zeroValue128 _ w⟩
 case rep => exact ⟨_, _, fun x w => tai_miss (x := x) (u := 174) Tryz.underlying128 (by kernel_rfl) Tryz.zeroValue128 _ w⟩
set_option maxHeartbeats 8000000 in
set_option maxRecDepth 100000 in
theorem pwr_emp : PWr .emp := by
 intro w B b n h hT hn
 have hB := hT.size
 show Calls Tryz.prog 116 #[.pointer (some ⟨b, 0, none⟩), .iface 182 (.agg #[])] w _
 have T0 := ta_miss (x := 71) (u := 182) Tryz.underlying216 (fun m h => by cases h) (by decide) Tryz.zeroValue216
 have T1 := ta_miss (x := 71) (u := 182) Tryz.underlying208 (fun m h => by cases h) (by decide) Tryz.zeroValue208
 have T2 := ta_miss (x := 71) (u := 182) Tryz.underlying170 (fun m h => by cases h) (by decide) Tryz.zeroValue170
 have T3 := ta_miss (x := 71) (u := 182) Tryz.underlying171 (fun m h => by cases h) (by decide) Tryz.zeroValue171
 have T4 := ta_miss (x := 71) (u := 182) Tryz.underlying213 (fun m h => by cases h) (by decide) Tryz.zeroValue213
 have T5 := ta_miss (x := 71) (u := 182) Tryz.underlying174 (fun m h => by cases h) (by decide) Tryz.zeroValue174
 have T6 := ta_miss (x := 71) (u := 182) Tryz.underlying172 (fun m h => by cases h) (by decide) Tryz.zeroValue172
 have T7 := ta_miss (x := 71) (u := 182) Tryz.underlying159 (fun m h => by cases h) (by decide) Tryz.zeroValue159
 have Hb2 := Lib.hid (BdP.start h)
 clear h hT
 go_enter Tryz.func116, Tryz.ntmps116
 go_wp2_with fail
 go_end0
 exact ⟨rfl, Hb2.out⟩
set_option maxHeartbeats 8000000 in
set_option maxRecDepth 100000 in
theorem pwr_any : PWr .any := by
 intro w B b n h hT hn
 have hB := hT.size
 show Calls Tryz.prog 116 #[.pointer (some ⟨b, 0, none⟩), .iface 208 (.agg #[])] w _
 have T0 := ta_miss (x := 71) (u := 208) Tryz.underlying216 (fun m h => by cases h) (by decide) Tryz.zeroValue216
 have T1 := ta_hit (x := 71) Tryz.underlying208 (fun m h => by cases h)
 have Hb1 := Lib.hid ((BdP.start h).quiet (alloc_below w (.cells #[] 208)) hB)
 clear h hT
 go_enter Tryz.func116, Tryz.ntmps116
 go_wp2_with fail
 (with_reducible refine (wbyte_any Hb1.out.bd 46 (by decide) (by decide) (by simp only [wlen] at hn; omega) (Hb1.out.hB hB)).mono ?_)
 rintro e w2 ⟨rfl, hb2⟩
 have Hb2 := Lib.hid (Hb1.out.trans hb2)
 clear hb2
 go_wp2_with fail
 go_end0
 exact ⟨rfl, Hb2.out⟩
set_option maxHeartbeats 8000000 in
set_option maxRecDepth 100000 in
theorem pwr_beg : PWr .beg := by
 intro w B b n h hT hn
 have hB := hT.size
 show Calls Tryz.prog 116 #[.pointer (some ⟨b, 0, none⟩), .iface 170 (.agg #[])] w _
 have T0 := ta_miss (x := 71) (u := 170) Tryz.underlying216 (fun m h => by cases h) (by decide) Tryz.zeroValue216
 have T1 := ta_miss (x := 71) (u := 170) Tryz.underlying208 (fun m h => by cases h) (by decide) Tryz.zeroValue208
 have T2 := ta_hit (x := 71) Tryz.underlying170 (fun m h => by cases h)
 have Hb1 := Lib.hid ((BdP.start h).quiet (alloc_below w (.cells #[] 170)) hB)
 clear h hT
 go_enter Tryz.func116, Tryz.ntmps116
 go_wp2_with fail
 (with_reducible refine (wbyte_any Hb1.out.bd 94 (by decide) (by decide) (by simp only [wlen] at hn; omega) (Hb1.out.hB hB)).mono ?_)
 rintro e w2 ⟨rfl, hb2⟩
 have Hb2 := Lib.hid (Hb1.out.trans hb2)
 clear hb2
 go_wp2_with fail
 go_end0
 exact ⟨rfl, Hb2.out⟩
set_option maxHeartbeats 8000000 in
set_option maxRecDepth 100000 in
theorem pwr_fin : PWr .fin := by
 intro w B b n h hT hn
 have hB := hT.size
 show Calls Tryz.prog 116 #[.pointer (some ⟨b, 0, none⟩), .iface 171 (.agg #[])] w _
 have T0 := ta_miss (x := 71) (u := 171) Tryz.underlying216 (fun m h => by cases h) (by decide) Tryz.zeroValue216
 have T1 := ta_miss (x := 71) (u := 171) Tryz.underlying208 (fun m h => by cases h) (by decide) Tryz.zeroValue208
 have T2 := ta_miss (x := 71) (u := 171) Tryz.underlying170 (fun m h => by cases h) (by decide) Tryz.zeroValue170
 have T3 := ta_hit (x := 71) Tryz.underlying171 (fun m h => by cases h)
 have Hb1 := Lib.hid ((BdP.start h).quiet (alloc_below w (.cells #[] 171)) hB)
 clear h hT
 go_enter Tryz.func116, Tryz.ntmps116
 go_wp2_with fail
 (with_reducible refine (wbyte_any Hb1.out.bd 36 (by decide) (by decide) (by simp only [wlen] at hn; omega) (Hb1.out.hB hB)).mono ?_)
 rintro e w2 ⟨rfl, hb2⟩
 have Hb2 := Lib.hid (Hb1.out.trans hb2)
 clear hb2
 go_wp2_with fail
 go_end0
 exact ⟨rfl, Hb2.out⟩
set_option maxHeartbeats 8000000 in
set_option maxRecDepth 100000 in
theorem pwr_chr {c : Int} (hc : isR c = true) : PWr (.chr c) := by
 intro w B b n h hT hn
 have hB := hT.size
 show Calls Tryz.prog 116 #[.pointer (some ⟨b, 0, none⟩), .iface 216 (.agg #[.int .i32 c])] w _
 have T0 := ta_hit (x := 71) Tryz.underlying216 (fun m h => by cases h)
 have Hc := Lib.hid hc
 have Hb1 := Lib.hid ((BdP.start h).quiet (alloc_below w (.cells #[.int .i32 c] 216)) hB)
 clear h hT hc
 go_enter Tryz.func116, Tryz.ntmps116
 go_wp2_with fail
 (with_reducible refine (char_any Hb1.out.bd Hc.out (by simp only [wlen] at hn; omega) (Hb1.out.hB hB)).mono ?_)
 rintro e w2 ⟨rfl, hb2⟩
 have Hb2 := Lib.hid (Hb1.out.trans hb2)
 clear hb2
 go_wp2_with fail
 go_end0
 exact ⟨rfl, Hb2.out⟩
end Go.Proofs.YthhnmpkgleelfaaGreatDoor
