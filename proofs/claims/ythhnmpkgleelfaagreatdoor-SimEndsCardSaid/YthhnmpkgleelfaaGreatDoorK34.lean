import Derived.Test.YthhnmpkgleelfaaGreatDoorK32
import Derived.Test.YthhnmpkgleelfaaGreatDoorK33
import Derived.Shelf.Strconv.Itoa3
import Derived.Shelf.Unicode.PredsPay
set_option linter.unusedVariables false
set_option linter.unusedSimpArgs false
namespace Go.Proofs.YthhnmpkgleelfaaGreatDoor
open Go.RowKit Go.Shelf
def Tabs (w : World) : Prop := Lib.Utf8Tabs 4 5 w ∧ Lib.TabIs Tryz.prog w "internal/strconv.uint64pow10" .u64 Lib.pow10Tab
theorem Tabs.below {w w' : World} (h : Tabs w) (hb : Below w.heap.size w w') : Tabs w' := ⟨Utf8Tabs_below h.1 hb, TabIs_below (g := 8) (by kernel_rfl) h.2 hb⟩
def lays196_ren : Go.Shelf.Ren := ⟨fun | 196 => 157 | 259 => 170 | n => n, fun | 9 => 9 | 4 => 4 | 3 => 3 | 5 => 5 | 12 => 12 | 119 => 229 | 0 => 0 | 46 => 176 | 139 => 232 | 138 => 231 | 53 => 138 | n => n, fun | 3 => 4 | 4 => 5 | n => n⟩
theorem lays196 : Go.Proofs.Lays.n196 Tryz.prog lays196_ren := {
 mixed := by kernel_rfl
 f196 := Tryz.func157.trans (congrArg some (by kernel_rfl))
 f259 := Tryz.func170.trans (congrArg some (by kernel_rfl))
 t0 := Tryz.underlying0
 a0 := Tryz.isAgg0
 z0 := Tryz.sizeOf0
 v0 := Tryz.zeroValue0
 t3 := Tryz.underlying3
 a3 := Tryz.isAgg3
 z3 := Tryz.sizeOf3
 v3 := Tryz.zeroValue3
 t4 := Tryz.underlying4
 a4 := Tryz.isAgg4
 z4 := Tryz.sizeOf4
 v4 := Tryz.zeroValue4
 t5 := Tryz.underlying5
 a5 := Tryz.isAgg5
 z5 := Tryz.sizeOf5
 v5 := Tryz.zeroValue5
 t9 := Tryz.underlying9
 a9 := Tryz.isAgg9
 z9 := Tryz.sizeOf9
 v9 := Tryz.zeroValue9
 t12 := Tryz.underlying12
 a12 := Tryz.isAgg12
 z12 := Tryz.sizeOf12
 v12 := Tryz.zeroValue12
 t46 := Tryz.underlying176
 a46 := Tryz.isAgg176
 z46 := Tryz.sizeOf176
 v46 := Tryz.zeroValue176
 t53 := Tryz.underlying138
 a53 := Tryz.isAgg138
 z53 := Tryz.sizeOf138
 v53 := Tryz.zeroValue138
 t119 := Tryz.underlying229
 a119 := Tryz.isAgg229
 z119 := Tryz.sizeOf229
 t138 := Tryz.underlying231
 a138 := Tryz.isAgg231
 z138 := Tryz.sizeOf231
 v138 := Tryz.zeroValue231
 t139 := Tryz.underlying232
 a139 := Tryz.isAgg232
 z139 := Tryz.sizeOf232
 v139 := Tryz.zeroValue232
 g3 := by kernel_rfl
 g4 := by kernel_rfl }
theorem validstring_any {w : World} (B : ByteArray) (hs : B.size ≤ 9223372036854775807) (hT : Tabs w) : Calls Tryz.prog 157 #[.string B] w fun e w' => e = .returned (.bool (Lib.validD B.data.toList)) ∧ Below w.heap.size w w' := Any.utf8_ValidString lays196 B w hs hT.1
theorem validD_frm : ∀ (n : Nat) (l : List Int), (∀ c ∈ l, isR c = true) → Lib.validGoD n (l.flatMap frm) = true
 | 0, l, _ => rfl
 | n + 1, [], _ => by simp [Lib.validGoD]
 | n + 1, c :: l, h => by
  have hc := h c (by simp)
  obtain ⟨m, rfl⟩ : ∃ m : Nat, c = m := ⟨c.toNat, by have := isR_pos hc; omega⟩
  have hd := dec_of_frm m hc (l.flatMap frm)
  have hpos : 1 ≤ (frm (m : Int)).length := by
   have := dec_pos (xs := frm (m : Int) ++ l.flatMap frm) (by rw [hd])
   rw [hd] at this
   exact this
  have hL : Lib.decodeL (frm (m : Int) ++ l.flatMap frm) = (m, (frm (m : Int)).length) := by
   unfold Lib.decodeL
   have hsz : 0 < (⟨(frm (m : Int) ++ l.flatMap frm).toArray⟩ : ByteArray).size := by
    show 0 < (frm (m : Int) ++ l.flatMap frm).toArray.size
    simp only [List.size_toArray, List.length_append]; omega
   rw [decode_dec _ 0 hsz]
   simp only [List.drop_zero, hd, if_true]
  rw [List.flatMap_cons]
  unfold Lib.validGoD
  rw [if_neg (fun e => by have := congrArg List.length e; rw [List.length_append, List.length_nil] at this; omega), hL, if_neg, List.drop_left]
  ·exact validD_frm n l (fun c hm => h c (List.mem_cons_of_mem _ hm))
  ·rintro ⟨h1, h2⟩
   simp only at h1 h2
   subst h1
   revert h2; decide
theorem rng_valid {cs : List Int} (hc : ∀ c ∈ cs, isR c = true) : Lib.validD (rngB cs).data.toList = true := by
 unfold Lib.validD rngB
 exact validD_frm _ cs hc
theorem unless_true (w : World) : Calls Tryz.prog 131 #[.bool true] w fun e w' => e = .returned .nilIface ∧ w' = w := by
 go_enter Tryz.func131, Tryz.ntmps131
 go_wp2_with fail
 go_ret
 exact ⟨rfl, rfl⟩
set_option maxHeartbeats 8000000 in
set_option maxRecDepth 100000 in
theorem canonical_any {cs : List Int} (hg : Gaps cs) (hc : ∀ c ∈ cs, isR c = true) (hx : NoX cs) {w : World} (hT : Tabs w) : Calls Tryz.prog 133 #[.agg #[.string (rngB cs)]] w fun e w' => e = .returned (.bool true) ∧ Below w.heap.size w w' := by
 obtain ⟨hsz, hev, hcl⟩ := rng_size hg hc
 have hval := rng_valid hc
 have Hal := Lib.hid (alloc_below w (.cells #[.string (rngB cs)] 213))
 have Hbx := Lib.hid (heap_alloc_new w (.cells #[.string (rngB cs)] 213))
 have HT := Lib.hid (hT.below Hal.out)
 have Hcv := Lib.hid (fun w1 => conv_runes w1 hc hcl)
 have Hat := Lib.hid (fun i a b => Gaps.at cs i a b hg hx)
 have Hr := Lib.hid (fun (i : Nat) (c : Int) (h : cs[i]? = some c) => (isR_iff c).1 (hc c (List.mem_of_getElem? h)))
 clear hT hg hc hx
 generalize hB : rngB cs = B at *
 have Hval := Lib.hid hval
 clear hB hval
 go_enter Tryz.func133, Tryz.ntmps133
 go_wp2_with fail
 (with_reducible refine (validstring_any B (by omega) HT.out).mono ?_)
 rintro e w1 ⟨rfl, hb1⟩
 rw [Hval.out]
 have Hb1 := Lib.hid (Hal.out.trans (hb1.mono Hal.out.size))
 have hbx1 := (hb1.block _ (lt_of_heap Hbx.out)).trans Hbx.out
 have d0 := row_cell hbx1 (j := 0) rfl
 obtain ⟨q, w2, hconv, hb2, hr2⟩ := Hcv.out w1
 have Hb2 := Lib.hid (Hb1.out.trans (hb2.mono Hb1.out.size))
 have Hrow := Lib.hid hr2
 clear hb1 hbx1 hb2 hr2
 go_wp2_with fail
 clear hconv d0
 go_loopw [15] (fun s15 wr => ∃ k : Nat, k ≤ cs.length ∧ s15 = .int .i64 k ∧ wr = w2) (fun v _ => cs.length - (intOf v).toNat)
 case atStart => exact ⟨0, Nat.zero_le _, rfl, rfl⟩
 case round =>
  obtain ⟨k, hk, rfl, hw⟩ := hrel
  subst hw
  by_cases hlt : k < cs.length
  ·obtain ⟨c, hcc⟩ : ∃ c, cs[k]? = some c := ⟨_, List.getElem?_eq_getElem hlt⟩
   have ck := ownsRow_cell Hrow.out rfl k (by omega)
   rw [List.getElem?_map, hcc] at ck
   simp only [Option.map_some, runeV] at ck
   have Hcc := Lib.hid hcc
   have hrc := Hr.out k c hcc
   have hki : (k : Int) < cs.length := by omega
   clear hcc
   by_cases hp : k % 2 = 1
   ·obtain ⟨m, rfl⟩ : ∃ m, k = m + 1 := ⟨k - 1, by omega⟩
    have hpr : ((m + 1 : Nat) : Int).tmod 2 = 1 := by rw [Int.tmod_eq_emod_of_nonneg (by omega)]; omega
    obtain ⟨a, haa⟩ : ∃ a, cs[m]? = some a := ⟨_, List.getElem?_eq_getElem (by omega)⟩
    have ca := ownsRow_cell Hrow.out rfl m (by omega)
    rw [List.getElem?_map, haa] at ca
    simp only [Option.map_some, runeV] at ca
    obtain ⟨g1, g2⟩ := (Hat.out m a c haa Hcc.out).1 (by omega)
    obtain ⟨z, hz⟩ : ∃ z : Int, z = ((m + 1 : Nat) : Int) := ⟨_, rfl⟩
    have hz1 : IntKind.i64.wrap (z - 1) = (m : Int) := by rw [hz, IntWalk.i64_in _ (by omega)]; omega
    have hz2 : z.toNat = m + 1 := by omega
    have hz3 : IntKind.i64.wrap (z + 1) = ((m + 1 + 1 : Nat) : Int) := by rw [hz, IntWalk.i64_in _ (by omega)]; omega
    have hz4 : 0 ≤ z := by omega
    have hz5 : z < cs.length := by omega
    have Hz := Lib.hid hz
    rw [← hz] at hpr ⊢
    clear hz haa hki hlt hk
    have n1 : ¬ c < a := by omega
    by_cases h5 : a < 55296
    ·have n2 : ¬ 57343 < c := by omega
     go_wp2_with fail
     exact ⟨⟨m + 1 + 1, by omega, by trivial, by trivial⟩, by rw [Hz.out]; simp [intOf]; omega⟩
    ·go_wp2_with fail
     exact ⟨⟨m + 1 + 1, by omega, by trivial, by trivial⟩, by rw [Hz.out]; simp [intOf]; omega⟩
   ·have hpr : ((k : Nat) : Int).tmod 2 = 0 := by rw [Int.tmod_eq_emod_of_nonneg (by omega)]; omega
    by_cases h0 : k = 0
    ·subst h0
     go_wp2_with fail
     exact ⟨⟨1, by omega, by trivial, by trivial⟩, by simp [intOf]; omega⟩
    ·obtain ⟨m, rfl⟩ : ∃ m, k = m + 1 := ⟨k - 1, by omega⟩
     obtain ⟨a, haa⟩ : ∃ a, cs[m]? = some a := ⟨_, List.getElem?_eq_getElem (by omega)⟩
     have ca := ownsRow_cell Hrow.out rfl m (by omega)
     rw [List.getElem?_map, haa] at ca
     simp only [Option.map_some, runeV] at ca
     have g1 := (Hat.out m a c haa Hcc.out).2 (by omega)
     have hra := Hr.out m a haa
     obtain ⟨z, hz⟩ : ∃ z : Int, z = ((m + 1 : Nat) : Int) := ⟨_, rfl⟩
     have hz1 : IntKind.i64.wrap (z - 1) = (m : Int) := by rw [hz, IntWalk.i64_in _ (by omega)]; omega
     have hz2 : z.toNat = m + 1 := by omega
     have hz3 : IntKind.i64.wrap (z + 1) = ((m + 1 + 1 : Nat) : Int) := by rw [hz, IntWalk.i64_in _ (by omega)]; omega
     have hz4 : 0 < z := by omega
     have hz5 : z < cs.length := by omega
     have ha2 : IntKind.i32.wrap (a + 2) = a + 2 := by simp [IntKind.wrap, IntKind.bits, IntKind.signed]; omega
     have Hz := Lib.hid hz
     rw [← hz] at hpr ⊢
     clear hz haa hki hlt hk h0
     have n1 : ¬ c < a + 2 := by omega
     go_wp2_with fail
     exact ⟨⟨m + 1 + 1, by omega, by trivial, by trivial⟩, by rw [Hz.out]; simp [intOf]; omega⟩
  ·obtain rfl : k = cs.length := by omega
   have hpr : ((cs.length : Nat) : Int).tmod 2 = 0 := by rw [Int.tmod_eq_emod_of_nonneg (by omega)]; omega
   go_wp2_with fail
   go_ret
   exact ⟨rfl, Hb2.out⟩
def PMay (r : Rx) : Prop := ∀ w : World, Tabs w → Calls Tryz.prog 115 #[nodeV r] w fun e w' => e = .returned .nilIface ∧ Below w.heap.size w w'
theorem PMay.go {r : Rx} (h : PMay r) {w : World} (hT : Tabs w) : Calls Tryz.prog 115 #[nodeV r] w fun e w' => e = .returned .nilIface ∧ Below w.heap.size w w' := h w hT
set_option maxHeartbeats 2000000 in
theorem both_ok {a b : Rx} (ha : PMay a) (hb : PMay b) {w : World} (hT : Tabs w) : Calls Tryz.prog 134 #[nodeV a, nodeV b] w fun e w' => e = .returned .nilIface ∧ Below w.heap.size w w' := by
 have Ha := Lib.hid ha
 have Hb := Lib.hid hb
 have HT := Lib.hid hT
 obtain ⟨ta, xa, hva⟩ := nodeV_iface a
 obtain ⟨tb, xb, hvb⟩ := nodeV_iface b
 rw [hva, hvb]
 have Hva := Lib.hid hva
 have Hvb := Lib.hid hvb
 clear hva hvb ha hb hT
 go_enter Tryz.func134, Tryz.ntmps134
 go_wp2_with fail
 rw [← Hva.out]
 (with_reducible refine (Ha.out.go HT.out).mono ?_)
 rintro e w1 ⟨rfl, hb1⟩
 rw [Hva.out]
 have Hb1 := Lib.hid hb1
 have HT1 := Lib.hid (HT.out.below hb1)
 clear hb1
 go_wp2_with fail
 rw [← Hvb.out]
 (with_reducible refine (Hb.out.go HT1.out).mono ?_)
 rintro e w2 ⟨rfl, hb2⟩
 rw [Hvb.out]
 have Hb2 := Lib.hid (Hb1.out.trans (hb2.mono Hb1.out.size))
 clear hb2
 go_wp2_with fail
 go_ret
 exact ⟨rfl, Hb2.out⟩
set_option maxHeartbeats 2000000 in
theorem pmay_emp : PMay .emp := by
 intro w hT
 clear hT
 show Calls Tryz.prog 115 #[.iface 182 (.agg #[])] w _
 have T0 := ta_miss (x := 71) (u := 182) Tryz.underlying216 (fun m h => by cases h) (by decide) Tryz.zeroValue216
 have T1 := ta_miss (x := 71) (u := 182) Tryz.underlying213 (fun m h => by cases h) (by decide) Tryz.zeroValue213
 have T2 := ta_miss (x := 71) (u := 182) Tryz.underlying172 (fun m h => by cases h) (by decide) Tryz.zeroValue172
 have T3 := ta_miss (x := 71) (u := 182) Tryz.underlying159 (fun m h => by cases h) (by decide) Tryz.zeroValue159
 have T4 := ta_miss (x := 71) (u := 182) Tryz.underlying174 (fun m h => by cases h) (by decide) Tryz.zeroValue174
 have U0 := ta_hit (x := 71) Tryz.underlying182 (fun m h => by cases h)
 have U1 := ta_miss (x := 71) (u := 182) Tryz.underlying208 (fun m h => by cases h) (by decide) Tryz.zeroValue208
 have U2 := ta_miss (x := 71) (u := 182) Tryz.underlying170 (fun m h => by cases h) (by decide) Tryz.zeroValue170
 have U3 := ta_miss (x := 71) (u := 182) Tryz.underlying171 (fun m h => by cases h) (by decide) Tryz.zeroValue171
 go_enter Tryz.func115, Tryz.ntmps115
 go_wp2_with fail
 go_ret
 exact ⟨rfl, Below.refl _ _⟩
set_option maxHeartbeats 2000000 in
theorem pmay_any : PMay .any := by
 intro w hT
 clear hT
 show Calls Tryz.prog 115 #[.iface 208 (.agg #[])] w _
 have T0 := ta_miss (x := 71) (u := 208) Tryz.underlying216 (fun m h => by cases h) (by decide) Tryz.zeroValue216
 have T1 := ta_miss (x := 71) (u := 208) Tryz.underlying213 (fun m h => by cases h) (by decide) Tryz.zeroValue213
 have T2 := ta_miss (x := 71) (u := 208) Tryz.underlying172 (fun m h => by cases h) (by decide) Tryz.zeroValue172
 have T3 := ta_miss (x := 71) (u := 208) Tryz.underlying159 (fun m h => by cases h) (by decide) Tryz.zeroValue159
 have T4 := ta_miss (x := 71) (u := 208) Tryz.underlying174 (fun m h => by cases h) (by decide) Tryz.zeroValue174
 have U0 := ta_miss (x := 71) (u := 208) Tryz.underlying182 (fun m h => by cases h) (by decide) Tryz.zeroValue182
 have U1 := ta_hit (x := 71) Tryz.underlying208 (fun m h => by cases h)
 have U2 := ta_miss (x := 71) (u := 208) Tryz.underlying170 (fun m h => by cases h) (by decide) Tryz.zeroValue170
 have U3 := ta_miss (x := 71) (u := 208) Tryz.underlying171 (fun m h => by cases h) (by decide) Tryz.zeroValue171
 go_enter Tryz.func115, Tryz.ntmps115
 go_wp2_with fail
 go_ret
 exact ⟨rfl, Below.refl _ _⟩
set_option maxHeartbeats 2000000 in
theorem pmay_beg : PMay .beg := by
 intro w hT
 clear hT
 show Calls Tryz.prog 115 #[.iface 170 (.agg #[])] w _
 have T0 := ta_miss (x := 71) (u := 170) Tryz.underlying216 (fun m h => by cases h) (by decide) Tryz.zeroValue216
 have T1 := ta_miss (x := 71) (u := 170) Tryz.underlying213 (fun m h => by cases h) (by decide) Tryz.zeroValue213
 have T2 := ta_miss (x := 71) (u := 170) Tryz.underlying172 (fun m h => by cases h) (by decide) Tryz.zeroValue172
 have T3 := ta_miss (x := 71) (u := 170) Tryz.underlying159 (fun m h => by cases h) (by decide) Tryz.zeroValue159
 have T4 := ta_miss (x := 71) (u := 170) Tryz.underlying174 (fun m h => by cases h) (by decide) Tryz.zeroValue174
 have U0 := ta_miss (x := 71) (u := 170) Tryz.underlying182 (fun m h => by cases h) (by decide) Tryz.zeroValue182
 have U1 := ta_miss (x := 71) (u := 170) Tryz.underlying208 (fun m h => by cases h) (by decide) Tryz.zeroValue208
 have U2 := ta_hit (x := 71) Tryz.underlying170 (fun m h => by cases h)
 have U3 := ta_miss (x := 71) (u := 170) Tryz.underlying171 (fun m h => by cases h) (by decide) Tryz.zeroValue171
 go_enter Tryz.func115, Tryz.ntmps115
 go_wp2_with fail
 go_ret
 exact ⟨rfl, Below.refl _ _⟩
set_option maxHeartbeats 2000000 in
theorem pmay_fin : PMay .fin := by
 intro w hT
 clear hT
 show Calls Tryz.prog 115 #[.iface 171 (.agg #[])] w _
 have T0 := ta_miss (x := 71) (u := 171) Tryz.underlying216 (fun m h => by cases h) (by decide) Tryz.zeroValue216
 have T1 := ta_miss (x := 71) (u := 171) Tryz.underlying213 (fun m h => by cases h) (by decide) Tryz.zeroValue213
 have T2 := ta_miss (x := 71) (u := 171) Tryz.underlying172 (fun m h => by cases h) (by decide) Tryz.zeroValue172
 have T3 := ta_miss (x := 71) (u := 171) Tryz.underlying159 (fun m h => by cases h) (by decide) Tryz.zeroValue159
 have T4 := ta_miss (x := 71) (u := 171) Tryz.underlying174 (fun m h => by cases h) (by decide) Tryz.zeroValue174
 have U0 := ta_miss (x := 71) (u := 171) Tryz.underlying182 (fun m h => by cases h) (by decide) Tryz.zeroValue182
 have U1 := ta_miss (x := 71) (u := 171) Tryz.underlying208 (fun m h => by cases h) (by decide) Tryz.zeroValue208
 have U2 := ta_miss (x := 71) (u := 171) Tryz.underlying170 (fun m h => by cases h) (by decide) Tryz.zeroValue170
 have U3 := ta_hit (x := 71) Tryz.underlying171 (fun m h => by cases h)
 go_enter Tryz.func115, Tryz.ntmps115
 go_wp2_with fail
 go_ret
 exact ⟨rfl, Below.refl _ _⟩
set_option maxHeartbeats 2000000 in
theorem pmay_chr {c : Int} (hc : isR c = true) : PMay (.chr c) := by
 intro w hT
 clear hT
 show Calls Tryz.prog 115 #[.iface 216 (.agg #[.int .i32 c])] w _
 have T0 := ta_hit (x := 71) Tryz.underlying216 (fun m h => by cases h)
 go_enter Tryz.func115, Tryz.ntmps115
 go_wp2_with fail
 (with_reducible refine (vr_any c _).mono ?_)
 rintro e w1 ⟨rfl, rfl⟩
 rw [hc]
 go_wp2_with fail
 (with_reducible refine (unless_true _).mono ?_)
 rintro e w1 ⟨rfl, rfl⟩
 go_wp2_with fail
 go_ret
 exact ⟨rfl, alloc_below _ _⟩
set_option maxHeartbeats 2000000 in
theorem pmay_set {cs : List Int} (hg : Gaps cs) (hc : ∀ c ∈ cs, isR c = true) (hx : NoX cs) : PMay (.set cs) := by
 intro w hT
 show Calls Tryz.prog 115 #[.iface 213 (.agg #[.string (rngB cs)])] w _
 have Hal := Lib.hid (alloc_below w (.cells #[.string (rngB cs)] 213))
 have HC := Lib.hid (canonical_any hg hc hx (hT.below Hal.out))
 clear hT hg hc hx
 generalize rngB cs = B at *
 have T0 := ta_miss (x := 71) (u := 213) Tryz.underlying216 (fun m h => by cases h) (by decide) Tryz.zeroValue216
 have T1 := ta_hit (x := 71) Tryz.underlying213 (fun m h => by cases h)
 go_enter Tryz.func115, Tryz.ntmps115
 go_wp2_with fail
 (with_reducible refine HC.out.mono ?_)
 rintro e w1 ⟨rfl, hb1⟩
 have Hb1 := Lib.hid (Hal.out.trans (hb1.mono Hal.out.size))
 clear hb1
 go_wp2_with fail
 (with_reducible refine (unless_true _).mono ?_)
 rintro e w2 ⟨rfl, rfl⟩
 go_wp2_with fail
 go_ret
 exact ⟨rfl, Hb1.out⟩
set_option maxHeartbeats 2000000 in
theorem pmay_cat {a b : Rx} (ha : PMay a) (hb : PMay b) : PMay (.cat a b) := by
 intro w hT
 show Calls Tryz.prog 115 #[.iface 172 (.agg #[nodeV a, nodeV b])] w _
 have T0 := ta_miss (x := 71) (u := 172) Tryz.underlying216 (fun m h => by cases h) (by decide) Tryz.zeroValue216
 have T1 := ta_miss (x := 71) (u := 172) Tryz.underlying213 (fun m h => by cases h) (by decide) Tryz.zeroValue213
 have T2 := ta_hit (x := 71) Tryz.underlying172 (fun m h => by cases h)
 obtain ⟨ta, xa, hva⟩ := nodeV_iface a
 obtain ⟨tb, xb, hvb⟩ := nodeV_iface b
 rw [hva, hvb]
 have Hal := Lib.hid (alloc_below w (.cells #[.iface ta xa, .iface tb xb] 172))
 have HC := both_ok ha hb (hT.below Hal.out)
 rw [hva, hvb] at HC
 have HC := Lib.hid HC
 clear hva hvb ha hb hT
 go_enter Tryz.func115, Tryz.ntmps115
 go_wp2_with fail
 (with_reducible refine HC.out.mono ?_)
 rintro e w1 ⟨rfl, hb1⟩
 have Hb1 := Lib.hid (Hal.out.trans (hb1.mono Hal.out.size))
 clear hb1
 go_wp2_with fail
 go_ret
 exact ⟨rfl, Hb1.out⟩
set_option maxHeartbeats 2000000 in
theorem pmay_alt {a b : Rx} (ha : PMay a) (hb : PMay b) : PMay (.alt a b) := by
 intro w hT
 show Calls Tryz.prog 115 #[.iface 159 (.agg #[nodeV a, nodeV b])] w _
 have T0 := ta_miss (x := 71) (u := 159) Tryz.underlying216 (fun m h => by cases h) (by decide) Tryz.zeroValue216
 have T1 := ta_miss (x := 71) (u := 159) Tryz.underlying213 (fun m h => by cases h) (by decide) Tryz.zeroValue213
 have T2 := ta_miss (x := 71) (u := 159) Tryz.underlying172 (fun m h => by cases h) (by decide) Tryz.zeroValue172
 have T3 := ta_hit (x := 71) Tryz.underlying159 (fun m h => by cases h)
 obtain ⟨ta, xa, hva⟩ := nodeV_iface a
 obtain ⟨tb, xb, hvb⟩ := nodeV_iface b
 rw [hva, hvb]
 have Hal := Lib.hid (alloc_below w (.cells #[.iface ta xa, .iface tb xb] 159))
 have HC := both_ok ha hb (hT.below Hal.out)
 rw [hva, hvb] at HC
 have HC := Lib.hid HC
 clear hva hvb ha hb hT
 go_enter Tryz.func115, Tryz.ntmps115
 go_wp2_with fail
 (with_reducible refine HC.out.mono ?_)
 rintro e w1 ⟨rfl, hb1⟩
 have Hb1 := Lib.hid (Hal.out.trans (hb1.mono Hal.out.size))
 clear hb1
 go_wp2_with fail
 go_ret
 exact ⟨rfl, Hb1.out⟩
set_option maxHeartbeats 8000000 in
set_option maxRecDepth 100000 in
theorem pmay_rep {a : Rx} {mn mx : Int} (ha : PMay a) (h1 : 0 ≤ mn) (h2 : mn ≤ 1000) (h3 : mx = -1 ∨ (mn ≤ mx ∧ mx ≤ 1000)) : PMay (.rep a mn mx) := by
 intro w hT
 show Calls Tryz.prog 115 #[.iface 174 (.agg #[nodeV a, .int .i64 mn, .int .i64 mx])] w _
 have T0 := ta_miss (x := 71) (u := 174) Tryz.underlying216 (fun m h => by cases h) (by decide) Tryz.zeroValue216
 have T1 := ta_miss (x := 71) (u := 174) Tryz.underlying213 (fun m h => by cases h) (by decide) Tryz.zeroValue213
 have T2 := ta_miss (x := 71) (u := 174) Tryz.underlying172 (fun m h => by cases h) (by decide) Tryz.zeroValue172
 have T3 := ta_miss (x := 71) (u := 174) Tryz.underlying159 (fun m h => by cases h) (by decide) Tryz.zeroValue159
 have T4 := ta_hit (x := 71) Tryz.underlying174 (fun m h => by cases h)
 obtain ⟨ta, xa, hva⟩ := nodeV_iface a
 rw [hva]
 have Hal := Lib.hid (alloc_below w (.cells #[.iface ta xa, .int .i64 mn, .int .i64 mx] 174))
 have Hbx := Lib.hid (heap_alloc_new w (.cells #[.iface ta xa, .int .i64 mn, .int .i64 mx] 174))
 have HC := ha.go (hT.below Hal.out)
 rw [hva] at HC
 have HC := Lib.hid HC
 clear hva ha hT
 go_enter Tryz.func115, Tryz.ntmps115
 go_wp2_with fail
 (with_reducible refine HC.out.mono ?_)
 rintro e w1 ⟨rfl, hb1⟩
 have Hbx2 := (hb1.block _ (lt_of_heap Hbx.out)).trans Hbx.out
 have d1 := row_cell Hbx2 (j := 1) (u := .int .i64 mn) rfl
 have d2 := row_cell Hbx2 (j := 2) (u := .int .i64 mx) rfl
 have Hb1 := Lib.hid (Hal.out.trans (hb1.mono Hal.out.size))
 clear hb1 Hbx2 HC
 rcases h3 with rfl | ⟨h3, h4⟩
 ·go_wp2_with fail
  (with_reducible refine (unless_true _).mono ?_)
  rintro e w2 ⟨rfl, rfl⟩
  go_wp2_with fail
  go_ret
  exact ⟨rfl, Hb1.out⟩
 ·have n1 : (mx == -1) = false := by
   have : mx ≠ -1 := by omega
   simpa using this
  go_wp2_with fail
  (with_reducible refine (unless_true _).mono ?_)
  rintro e w2 ⟨rfl, rfl⟩
  go_wp2_with fail
  go_ret
  exact ⟨rfl, Hb1.out⟩
theorem pmay_all : ∀ (r : Rx), r.ok → r.nox → PMay r
 | .emp, _, _ => pmay_emp
 | .chr c, h, _ => pmay_chr h
 | .any, _, _ => pmay_any
 | .set cs, h, k => pmay_set h.1 h.2 k
 | .beg, _, _ => pmay_beg
 | .fin, _, _ => pmay_fin
 | .cat a b, h, k => pmay_cat (pmay_all a h.1 k.1) (pmay_all b h.2 k.2)
 | .alt a b, h, k => pmay_alt (pmay_all a h.1 k.1) (pmay_all b h.2 k.2)
 | .rep a mn mx, h, k => pmay_rep (pmay_all a h.1 k) h.2.1 h.2.2.1 h.2.2.2
end Go.Proofs.YthhnmpkgleelfaaGreatDoor
