import Derived.Test.YthhnmpkgleelfaaGreatDoorM26
import Derived.Test.YthhnmpkgleelfaaGreatDoorM27
import Derived.Lib.ItoaLen
import Derived.Lib.AppendIntMem
import Derived.Shelf.Strconv.Itoa3
import Derived.Test.YthhnmpkgleelfaaGreatDoorM15
set_option linter.unusedVariables false
set_option linter.unusedSimpArgs false
namespace Go.Proofs.YthhnmpkgleelfaaGreatDoor
open Go.RowKit Go.Shelf
def laysM171_ren : Go.Shelf.Ren := ⟨fun | 171 => 162 | 243 => 174 | 246 => 183 | 283 => 195 | 284 => 196 | 285 => 197 | 286 => 198 | 129 => 193 | 317 => 205 | 318 => 206 | 319 => 207 | 320 => 208 | 337 => 210 | 338 => 211 | n => n, fun | 3 => 3 | 9 => 9 | 2 => 2 | 4 => 4 | 171 => 269 | 0 => 0 | 53 => 138 | 37 => 54 | 5 => 5 | 173 => 271 | 212 => 279 | 51 => 258 | 20 => 20 | 213 => 280 | 46 => 176 | 232 => 284 | 233 => 285 | n => n, fun | 17 => 8 | 18 => 9 | 19 => 10 | n => n⟩
theorem laysM171 : Go.Proofs.LaysM.n171 Tryz.prog laysM171_ren := {
 mixed := by kernel_rfl
 f129 := Tryz.func193.trans (congrArg some (by kernel_rfl))
 f171 := Tryz.func162.trans (congrArg some (by kernel_rfl))
 f243 := Tryz.func174.trans (congrArg some (by kernel_rfl))
 f246 := Tryz.func183.trans (congrArg some (by kernel_rfl))
 f283 := Tryz.func195.trans (congrArg some (by kernel_rfl))
 f284 := Tryz.func196.trans (congrArg some (by kernel_rfl))
 f285 := Tryz.func197.trans (congrArg some (by kernel_rfl))
 f286 := Tryz.func198.trans (congrArg some (by kernel_rfl))
 f317 := Tryz.func205.trans (congrArg some (by kernel_rfl))
 f318 := Tryz.func206.trans (congrArg some (by kernel_rfl))
 f319 := Tryz.func207.trans (congrArg some (by kernel_rfl))
 f320 := Tryz.func208.trans (congrArg some (by kernel_rfl))
 f337 := Tryz.func210.trans (congrArg some (by kernel_rfl))
 f338 := Tryz.func211.trans (congrArg some (by kernel_rfl))
 t0 := Tryz.underlying0
 a0 := Tryz.isAgg0
 z0 := Tryz.sizeOf0
 v0 := Tryz.zeroValue0
 t2 := Tryz.underlying2
 a2 := Tryz.isAgg2
 z2 := Tryz.sizeOf2
 v2 := Tryz.zeroValue2
 t3 := Tryz.underlying3
 a3 := Tryz.isAgg3
 z3 := Tryz.sizeOf3
 v3 := Tryz.zeroValue3
 t4 := Tryz.underlying4
 a4 := Tryz.isAgg4
 z4 := Tryz.sizeOf4
 v4 := Tryz.zeroValue4
 t5 := Tryz.underlying5
 a5 := Tryz.isAgg5
 z5 := Tryz.sizeOf5
 v5 := Tryz.zeroValue5
 t9 := Tryz.underlying9
 a9 := Tryz.isAgg9
 z9 := Tryz.sizeOf9
 v9 := Tryz.zeroValue9
 t20 := Tryz.underlying20
 a20 := Tryz.isAgg20
 z20 := Tryz.sizeOf20
 v20 := Tryz.zeroValue20
 t37 := Tryz.underlying54
 a37 := Tryz.isAgg54
 z37 := Tryz.sizeOf54
 v37 := Tryz.zeroValue54
 t46 := Tryz.underlying176
 a46 := Tryz.isAgg176
 z46 := Tryz.sizeOf176
 v46 := Tryz.zeroValue176
 t51 := Tryz.underlying258
 a51 := Tryz.isAgg258
 z51 := Tryz.sizeOf258
 v51 := Tryz.zeroValue258
 t53 := Tryz.underlying138
 a53 := Tryz.isAgg138
 z53 := Tryz.sizeOf138
 v53 := Tryz.zeroValue138
 t171 := Tryz.underlying269
 a171 := Tryz.isAgg269
 z171 := Tryz.sizeOf269
 v171 := Tryz.zeroValue269
 t173 := Tryz.underlying271
 a173 := Tryz.isAgg271
 z173 := Tryz.sizeOf271
 v173 := Tryz.zeroValue271
 t212 := Tryz.underlying279
 a212 := Tryz.isAgg279
 z212 := Tryz.sizeOf279
 v212 := Tryz.zeroValue279
 t213 := Tryz.underlying280
 a213 := Tryz.isAgg280
 z213 := Tryz.sizeOf280
 t232 := Tryz.underlying284
 a232 := Tryz.isAgg284
 z232 := Tryz.sizeOf284
 v232 := Tryz.zeroValue284
 t233 := Tryz.underlying285
 a233 := Tryz.isAgg285
 z233 := Tryz.sizeOf285
 v233 := Tryz.zeroValue285
 g17 := by kernel_rfl
 g18 := by kernel_rfl
 g19 := by kernel_rfl
 i0 := by kernel_rfl
 i2 := by kernel_rfl
 i3 := by kernel_rfl
 i4 := by kernel_rfl
 i5 := by kernel_rfl
 i9 := by kernel_rfl
 i20 := by kernel_rfl
 i37 := by kernel_rfl
 i46 := by kernel_rfl
 i51 := by kernel_rfl
 i53 := by kernel_rfl
 i171 := by kernel_rfl
 i173 := by kernel_rfl
 i212 := by kernel_rfl
 i232 := by kernel_rfl
 i233 := by kernel_rfl
 m17 := by kernel_rfl
 m18 := by kernel_rfl
 m19 := by kernel_rfl }
def ItoP (w : World) (e : Ending) (w' : World) : Prop := ∃ s : ByteArray, e = .returned (.string s) ∧ s.size ≤ 21 ∧ Below w.heap.size w w'
theorem itoa_any {w : World} (n : Int) (h0 : 0 ≤ n) (h1 : n ≤ 1000) (hT : Tabs w) : Calls Tryz.prog 162 #[.int .i64 n] w fun e w' => ItoP w e w' := by
 refine (Any.strconv_Itoa laysM171 n (by omega) (by omega) w hT.2).mono ?_
 rintro e w' ⟨rfl, k, os, rfl⟩
 refine ⟨_, rfl, ?_, Lib.below_grow _ w (Nat.le_refl _) k os⟩
 show (Lib.itoa n).toArray.size ≤ 21
 rw [List.size_toArray]
 exact Lib.itoa_length_le n (by omega) (by omega)
theorem br_size {s : ByteArray} (h : s.size ≤ 21) (c : ByteArray) (hc : c.size ≤ 2) : (({ data := #[123] } : ByteArray) ++ s ++ c).size ≤ 64 := by
 rw [ByteArray.size_append, ByteArray.size_append]
 have : ({ data := #[123] } : ByteArray).size = 1 := rfl
 omega
theorem br_size2 {s t : ByteArray} (h : s.size ≤ 21) (k : t.size ≤ 21) (c d : ByteArray) (hc : c.size ≤ 2) (hd : d.size ≤ 2) : (({ data := #[123] } : ByteArray) ++ s ++ c ++ t ++ d).size ≤ 64 := by
 rw [ByteArray.size_append, ByteArray.size_append, ByteArray.size_append, ByteArray.size_append]
 have : ({ data := #[123] } : ByteArray).size = 1 := rfl
 omega
theorem Bd.lt {w : World} {B b n : Nat} (h : Bd w B b n) : b < w.heap.size := by
 obtain ⟨l, h | h, _⟩ := h <;> (obtain ⟨_, v, hb, _⟩ := h; exact lt_of_heap hb)
theorem bdp_heap {w w' : World} {B b n g : Nat} {cs : Array Value} {t : TypeId} {z : Nat × Nat} (h : BdP w B b n w') (hg : w.heap[g]? = some (.cells cs t z)) (hb : g ≠ b) (ht : t ≠ 5) : w'.heap[g]? = some (.cells cs t z) :=
 h.2.2 g _ hg (fun e => hb (Option.some.inj e)) (fun c fz e => by injection e with _ e _; exact ht e)
abbrev repC (t : TypeId) (x : Value) (mn mx : Int) : Obj := .cells #[.iface t x, .int .i64 mn, .int .i64 mx] 174 (0, 0)
theorem repS {w' : World} {g : Nat} {ta : TypeId} {xa : Value} {mn mx : Int} (h : w'.heap[g]? = some (repC ta xa mn mx)) : w'.cell? ⟨g, 1, none⟩ = some (.int .i64 mn) ∧ w'.cell? ⟨g, 2, none⟩ = some (.int .i64 mx) := ⟨row_cell h (j := 1) rfl, row_cell h (j := 2) rfl⟩
set_option maxHeartbeats 8000000 in
set_option maxRecDepth 100000 in
theorem braces_any {w : World} {B b n : Nat} (h : Bd w B b n) (hT : Tabs w) (ta : TypeId) (xa : Value) {mn mx : Int} (h1 : 0 ≤ mn) (h2 : mn ≤ 1000) (h3 : mx = -1 ∨ (mn ≤ mx ∧ mx ≤ 1000)) (hn : n + 64 ≤ 100000000000000) (hB : B ≤ w.heap.size) : Calls Tryz.prog 139 #[.pointer (some ⟨b, 0, none⟩), .agg #[.iface ta xa, .int .i64 mn, .int .i64 mx]] w fun e w' => WnP w B b (n + 64) e w' := by
 have Hal := Lib.hid (alloc_below w (.cells #[.iface ta xa, .int .i64 mn, .int .i64 mx] 174))
 have Hbx := Lib.hid (heap_alloc_new w (.cells #[.iface ta xa, .int .i64 mn, .int .i64 mx] 174))
 have HR := Lib.hid ((BdP.start h).quiet Hal.out hB)
 have HT := Lib.hid (hT.below Hal.out)
 have Hne := Lib.hid (show w.heap.size ≠ b by have := h.lt; omega)
 clear h hT
 by_cases e1 : mx = -1
 ·subst e1
  by_cases e2 : mn = 0
  ·subst e2
   go_enter Tryz.func139, Tryz.ntmps139
   go_wp2_with fail
   (with_reducible refine (wbyte_any HR.out.bd 42 (by decide) (by decide) (by omega) (HR.out.hB hB)).mono ?_)
   rintro e w2 ⟨rfl, hb2⟩
   have Hb2 := Lib.hid ((HR.out.trans hb2).more (show n + 1 ≤ n + 64 by omega))
   clear hb2
   go_wp2_with fail
   go_end0
   exact ⟨rfl, Hb2.out⟩
  by_cases e3 : mn = 1
  ·subst e3
   go_enter Tryz.func139, Tryz.ntmps139
   go_wp2_with fail
   (with_reducible refine (wbyte_any HR.out.bd 43 (by decide) (by decide) (by omega) (HR.out.hB hB)).mono ?_)
   rintro e w2 ⟨rfl, hb2⟩
   have Hb2 := Lib.hid ((HR.out.trans hb2).more (show n + 1 ≤ n + 64 by omega))
   clear hb2
   go_wp2_with fail
   go_end0
   exact ⟨rfl, Hb2.out⟩
  have f2 : (mn == 0) = false := by simpa using e2
  have f3 : (mn == 1) = false := by simpa using e3
  have f4 : ((-1 : Int) == mn) = false := by simpa using (by omega : ¬ (-1 : Int) = mn)
  go_enter Tryz.func139, Tryz.ntmps139
  go_wp2_with fail
  (with_reducible refine (itoa_any mn (by omega) (by omega) HT.out).mono ?_)
  rintro e w2 ⟨s, rfl, hs, hb2⟩
  have HR := Lib.hid (HR.out.quiet hb2 hB)
  have Hs := Lib.hid hs
  clear hb2
  go_wp2_with fail
  (with_reducible refine (wstr_any HR.out.bd (({ data := #[123] } : ByteArray) ++ s ++ { data := #[44, 125] }) 64 (br_size Hs.out _ (by decide)) (by omega) (HR.out.hB hB)).mono ?_)
  rintro e w3 ⟨z, rfl, hb3⟩
  have Hb3 := Lib.hid (HR.out.trans hb3)
  clear hb3
  go_wp2_with fail
  go_end0
  exact ⟨rfl, Hb3.out⟩
 have h4 : mn ≤ mx ∧ mx ≤ 1000 := by omega
 obtain ⟨h5, h6⟩ := h4
 have f1 : (mx == -1) = false := by simpa using e1
 clear h3
 by_cases e2 : mn = 0 ∧ mx = 1
 ·obtain ⟨rfl, rfl⟩ := e2
  go_enter Tryz.func139, Tryz.ntmps139
  go_wp2_with fail
  (with_reducible refine (wbyte_any HR.out.bd 63 (by decide) (by decide) (by omega) (HR.out.hB hB)).mono ?_)
  rintro e w2 ⟨rfl, hb2⟩
  have Hb2 := Lib.hid ((HR.out.trans hb2).more (show n + 1 ≤ n + 64 by omega))
  clear hb2
  go_wp2_with fail
  go_end0
  exact ⟨rfl, Hb2.out⟩
 have e2' : mn = 0 → mx ≠ 1 := fun h k => e2 ⟨h, k⟩
 clear e2
 by_cases e4 : mx = mn
 ·subst e4
  rcases (show mx = 0 ∨ mx = 1 ∨ (mx ≠ 0 ∧ mx ≠ 1) by omega) with rfl | rfl | ⟨k1, k2⟩
  ·clear e2'
   go_enter Tryz.func139, Tryz.ntmps139
   go_wp2_with fail
   (with_reducible refine (itoa_any _ (by omega) (by omega) HT.out).mono ?_)
   rintro e w2 ⟨s, rfl, hs, hb2⟩
   have HR := Lib.hid (HR.out.quiet hb2 hB)
   have Hs := Lib.hid hs
   clear hb2
   go_wp2_with fail
   (with_reducible refine (wstr_any HR.out.bd (({ data := #[123] } : ByteArray) ++ s ++ { data := #[125] }) 64 (br_size Hs.out _ (by decide)) (by omega) (HR.out.hB hB)).mono ?_)
   rintro e w3 ⟨z, rfl, hb3⟩
   have Hb3 := Lib.hid (HR.out.trans hb3)
   clear hb3
   go_wp2_with fail
   go_end0
   exact ⟨rfl, Hb3.out⟩
  ·clear e2'
   go_enter Tryz.func139, Tryz.ntmps139
   go_wp2_with fail
   (with_reducible refine (itoa_any _ (by omega) (by omega) HT.out).mono ?_)
   rintro e w2 ⟨s, rfl, hs, hb2⟩
   have HR := Lib.hid (HR.out.quiet hb2 hB)
   have Hs := Lib.hid hs
   clear hb2
   go_wp2_with fail
   (with_reducible refine (wstr_any HR.out.bd (({ data := #[123] } : ByteArray) ++ s ++ { data := #[125] }) 64 (br_size Hs.out _ (by decide)) (by omega) (HR.out.hB hB)).mono ?_)
   rintro e w3 ⟨z, rfl, hb3⟩
   have Hb3 := Lib.hid (HR.out.trans hb3)
   clear hb3
   go_wp2_with fail
   go_end0
   exact ⟨rfl, Hb3.out⟩
  ·have f6 : (mx == 0) = false := by simpa using k1
   have f7 : (mx == 1) = false := by simpa using k2
   clear e2'
   go_enter Tryz.func139, Tryz.ntmps139
   go_wp2_with fail
   (with_reducible refine (itoa_any _ (by omega) (by omega) HT.out).mono ?_)
   rintro e w2 ⟨s, rfl, hs, hb2⟩
   have HR := Lib.hid (HR.out.quiet hb2 hB)
   have Hs := Lib.hid hs
   clear hb2
   go_wp2_with fail
   (with_reducible refine (wstr_any HR.out.bd (({ data := #[123] } : ByteArray) ++ s ++ { data := #[125] }) 64 (br_size Hs.out _ (by decide)) (by omega) (HR.out.hB hB)).mono ?_)
   rintro e w3 ⟨z, rfl, hb3⟩
   have Hb3 := Lib.hid (HR.out.trans hb3)
   clear hb3
   go_wp2_with fail
   go_end0
   exact ⟨rfl, Hb3.out⟩
 have f4 : (mx == mn) = false := by simpa using e4
 rcases (show mn = 0 ∨ mn = 1 ∨ (mn ≠ 0 ∧ mn ≠ 1) by omega) with rfl | rfl | ⟨k1, k2⟩
 ·have f5 : (mx == 1) = false := by simpa using e2' rfl
  clear e2'
  go_enter Tryz.func139, Tryz.ntmps139
  go_wp2_with fail
  obtain ⟨wq, hwq⟩ : ∃ wq, (w.alloc (.cells #[.iface ta xa, .int .i64 0, .int .i64 mx] 174)).drew = wq := ⟨_, rfl⟩
  have HH := Lib.hid (show wq.heap[w.heap.size]? = some (repC ta xa 0 mx) by rw [← hwq]; exact Hbx.out)
  have HR := Lib.hid (HR.out.quiet (show Below _ _ wq by rw [← hwq]; exact (Below.refl _ _).drew) hB)
  have HT := Lib.hid (HT.out.below (show Below _ _ wq by rw [← hwq]; exact (Below.refl _ _).drew))
  refine wp_region_noPanic ?_
  refine wp_region_held_drew (S := fun w' => w'.cell? ⟨w.heap.size, 1, none⟩ = some (.int .i64 0) ∧ w'.cell? ⟨w.heap.size, 2, none⟩ = some (.int .i64 mx)) (by kernel_rfl) ((by rw [hwq]; exact repS HH.out)) (fun hHeld => ?_)
  rw [hwq] at hHeld ⊢
  clear hwq
  refine tkH 0 (v := ?v0) (nth rfl) (by kernel_rfl) (by kernel_rfl) (by kernel_rfl) (fun _ _ _ h => h) (by rfl) hHeld ?y0 ?r0
  case y0 => (intro w hSw; (try dsimp only at hSw); go_simp; (try with_reducible rfl))
  try simp only [Act.put, pA, pB, pC]
  refine tkH 1 (v := ?v1) (nth rfl) (by kernel_rfl) (by kernel_rfl) (by kernel_rfl) (fun _ _ _ h => h) (by rfl) hHeld ?y1 ?r1
  case y1 => (intro w hSw; (try dsimp only at hSw); go_simp; (try with_reducible rfl))
  try simp only [Act.put, pA, pB, pC]
  refine tkH 2 (v := ?v2) (nth rfl) (by kernel_rfl) (by kernel_rfl) (by kernel_rfl) (fun _ _ _ h => h) (by rfl) hHeld ?y2 ?r2
  case y2 => (intro w hSw; (try dsimp only at hSw); go_simp; (try with_reducible rfl))
  try simp only [Act.put, pA, pB, pC]
  refine tkH 6 (v := ?v3) (nth rfl) (by kernel_rfl) (by kernel_rfl) (by kernel_rfl) (fun _ _ _ h => h) (by rfl) hHeld ?y3 ?r3
  case y3 => (intro w hSw; (try dsimp only at hSw); go_simp; (try with_reducible rfl))
  try simp only [Act.put, pA, pB, pC]
  refine tkH 7 (v := ?v4) (nth rfl) (by kernel_rfl) (by kernel_rfl) (by kernel_rfl) (fun _ _ _ h => h) (by rfl) hHeld ?y4 ?r4
  case y4 => (intro w hSw; (try dsimp only at hSw); go_simp; (try with_reducible rfl))
  try simp only [Act.put, pA, pB, pC]
  refine wpAnyH_ready (rs := [3]) (by kernel_rfl) (by simp) ?_
  refine AllReadyH.cons (nth rfl) (fun K hK => ?_) AllReadyH.nil
  ·go_simp
   refine (itoa_any _ (by omega) (by omega) HT.out).mono ?_; rintro e wn ⟨s, rfl, hs, hb⟩; have Hs := Lib.hid hs; have HH := Lib.hid ((hb.block _ (lt_of_heap HH.out)).trans HH.out); have HT := Lib.hid (HT.out.below hb); have HR := Lib.hid (HR.out.quiet hb hB); obtain ⟨wq, rfl⟩ : ∃ wq, wq = wn := ⟨_, rfl⟩; (try (have hz1 : ¬ 9223372036854775807 < 1 + s.size := by omega)); (try (have hz2 : ¬ 9223372036854775807 < 1 + s.size + 1 := by omega)); (try (have hz3 : ¬ 9223372036854775807 < 1 + s.size + 1 + t.size := by omega)); (try (have hz4 : ¬ 9223372036854775807 < 1 + s.size + 1 + t.size + 1 := by omega)); go_simp
   refine hK.out _ _ (repS HH.out) (fun hHeld => ?_)
   clear hK K
   try simp only [Act.put, pA, pB, pC]
   refine tkH 4 (v := ?v5) (nth rfl) (by kernel_rfl) (by kernel_rfl) (by kernel_rfl) (fun _ _ _ h => h) (by rfl) hHeld ?y5 ?r5
   case y5 => (intro w hSw; (try dsimp only at hSw); go_simp; (try with_reducible rfl))
   try simp only [Act.put, pA, pB, pC]
   refine tkH 5 (v := ?v6) (nth rfl) (by kernel_rfl) (by kernel_rfl) (by kernel_rfl) (fun _ _ _ h => h) (by rfl) hHeld ?y6 ?r6
   case y6 => (intro w hSw; (try dsimp only at hSw); go_simp; (try with_reducible rfl))
   try simp only [Act.put, pA, pB, pC]
   refine wpAnyH_ready (rs := [8]) (by kernel_rfl) (by simp) ?_
   refine AllReadyH.cons (nth rfl) (fun K hK => ?_) AllReadyH.nil
   ·go_simp
    refine (itoa_any _ (by omega) (by omega) HT.out).mono ?_; rintro e wn ⟨t, rfl, ht, hb⟩; have Ht := Lib.hid ht; have HH := Lib.hid ((hb.block _ (lt_of_heap HH.out)).trans HH.out); have HT := Lib.hid (HT.out.below hb); have HR := Lib.hid (HR.out.quiet hb hB); obtain ⟨wq, rfl⟩ : ∃ wq, wq = wn := ⟨_, rfl⟩; (try (have hz1 : ¬ 9223372036854775807 < 1 + s.size := by omega)); (try (have hz2 : ¬ 9223372036854775807 < 1 + s.size + 1 := by omega)); (try (have hz3 : ¬ 9223372036854775807 < 1 + s.size + 1 + t.size := by omega)); (try (have hz4 : ¬ 9223372036854775807 < 1 + s.size + 1 + t.size + 1 := by omega)); go_simp
    refine hK.out _ _ (repS HH.out) (fun hHeld => ?_)
    clear hK K
    try simp only [Act.put, pA, pB, pC]
    refine tkH 9 (v := ?v7) (nth rfl) (by kernel_rfl) (by kernel_rfl) (by kernel_rfl) (fun _ _ _ h => h) (by rfl) hHeld ?y7 ?r7
    case y7 => (intro w hSw; (try dsimp only at hSw); go_simp; (try with_reducible rfl))
    try simp only [Act.put, pA, pB, pC]
    refine tkH 10 (v := ?v8) (nth rfl) (by kernel_rfl) (by kernel_rfl) (by kernel_rfl) (fun _ _ _ h => h) (by rfl) hHeld ?y8 ?r8
    case y8 => (intro w hSw; (try dsimp only at hSw); go_simp; (try with_reducible rfl))
    try simp only [Act.put, pA, pB, pC]
    refine wpAnyH_ready (rs := [11]) (by kernel_rfl) (by simp) ?_
    refine AllReadyH.cons (nth rfl) (fun K hK => ?_) AllReadyH.nil
    ·go_simp
     (with_reducible refine (wstr_any HR.out.bd (({ data := #[123] } : ByteArray) ++ s ++ { data := #[44] } ++ t ++ { data := #[125] }) 64 (br_size2 Hs.out Ht.out _ _ (by decide) (by decide)) hn (HR.out.hB hB)).mono ?_); rintro e w3 ⟨z, rfl, hb3⟩; have Hb3 := Lib.hid (HR.out.trans hb3); go_simp
     refine hK.out _ _ (repS (bdp_heap hb3 HH.out Hne.out (by decide))) (fun hHeld => ?_)
     clear hK K
     try simp only [Act.put, pA, pB, pC]
     refine wpAnyH_done (by kernel_rfl) (NoPanic.normal ?_) _
     go_wp2_with fail
     go_end0
     exact ⟨rfl, Hb3.out⟩
 ·have f5 : True := trivial
  clear e2'
  go_enter Tryz.func139, Tryz.ntmps139
  go_wp2_with fail
  obtain ⟨wq, hwq⟩ : ∃ wq, (w.alloc (.cells #[.iface ta xa, .int .i64 1, .int .i64 mx] 174)).drew = wq := ⟨_, rfl⟩
  have HH := Lib.hid (show wq.heap[w.heap.size]? = some (repC ta xa 1 mx) by rw [← hwq]; exact Hbx.out)
  have HR := Lib.hid (HR.out.quiet (show Below _ _ wq by rw [← hwq]; exact (Below.refl _ _).drew) hB)
  have HT := Lib.hid (HT.out.below (show Below _ _ wq by rw [← hwq]; exact (Below.refl _ _).drew))
  refine wp_region_noPanic ?_
  refine wp_region_held_drew (S := fun w' => w'.cell? ⟨w.heap.size, 1, none⟩ = some (.int .i64 1) ∧ w'.cell? ⟨w.heap.size, 2, none⟩ = some (.int .i64 mx)) (by kernel_rfl) ((by rw [hwq]; exact repS HH.out)) (fun hHeld => ?_)
  rw [hwq] at hHeld ⊢
  clear hwq
  refine tkH 0 (v := ?v9) (nth rfl) (by kernel_rfl) (by kernel_rfl) (by kernel_rfl) (fun _ _ _ h => h) (by rfl) hHeld ?y9 ?r9
  case y9 => (intro w hSw; (try dsimp only at hSw); go_simp; (try with_reducible rfl))
  try simp only [Act.put, pA, pB, pC]
  refine tkH 1 (v := ?va) (nth rfl) (by kernel_rfl) (by kernel_rfl) (by kernel_rfl) (fun _ _ _ h => h) (by rfl) hHeld ?ya ?ra
  case ya => (intro w hSw; (try dsimp only at hSw); go_simp; (try with_reducible rfl))
  try simp only [Act.put, pA, pB, pC]
  refine tkH 2 (v := ?vb) (nth rfl) (by kernel_rfl) (by kernel_rfl) (by kernel_rfl) (fun _ _ _ h => h) (by rfl) hHeld ?yb ?rb
  case yb => (intro w hSw; (try dsimp only at hSw); go_simp; (try with_reducible rfl))
  try simp only [Act.put, pA, pB, pC]
  refine tkH 6 (v := ?vc) (nth rfl) (by kernel_rfl) (by kernel_rfl) (by kernel_rfl) (fun _ _ _ h => h) (by rfl) hHeld ?yc ?rc
  case yc => (intro w hSw; (try dsimp only at hSw); go_simp; (try with_reducible rfl))
  try simp only [Act.put, pA, pB, pC]
  refine tkH 7 (v := ?vd) (nth rfl) (by kernel_rfl) (by kernel_rfl) (by kernel_rfl) (fun _ _ _ h => h) (by rfl) hHeld ?yd ?rd
  case yd => (intro w hSw; (try dsimp only at hSw); go_simp; (try with_reducible rfl))
  try simp only [Act.put, pA, pB, pC]
  refine wpAnyH_ready (rs := [3]) (by kernel_rfl) (by simp) ?_
  refine AllReadyH.cons (nth rfl) (fun K hK => ?_) AllReadyH.nil
  ·go_simp
   refine (itoa_any _ (by omega) (by omega) HT.out).mono ?_; rintro e wn ⟨s, rfl, hs, hb⟩; have Hs := Lib.hid hs; have HH := Lib.hid ((hb.block _ (lt_of_heap HH.out)).trans HH.out); have HT := Lib.hid (HT.out.below hb); have HR := Lib.hid (HR.out.quiet hb hB); obtain ⟨wq, rfl⟩ : ∃ wq, wq = wn := ⟨_, rfl⟩; (try (have hz1 : ¬ 9223372036854775807 < 1 + s.size := by omega)); (try (have hz2 : ¬ 9223372036854775807 < 1 + s.size + 1 := by omega)); (try (have hz3 : ¬ 9223372036854775807 < 1 + s.size + 1 + t.size := by omega)); (try (have hz4 : ¬ 9223372036854775807 < 1 + s.size + 1 + t.size + 1 := by omega)); go_simp
   refine hK.out _ _ (repS HH.out) (fun hHeld => ?_)
   clear hK K
   try simp only [Act.put, pA, pB, pC]
   refine tkH 4 (v := ?ve) (nth rfl) (by kernel_rfl) (by kernel_rfl) (by kernel_rfl) (fun _ _ _ h => h) (by rfl) hHeld ?ye ?re
   case ye => (intro w hSw; (try dsimp only at hSw); go_simp; (try with_reducible rfl))
   try simp only [Act.put, pA, pB, pC]
   refine tkH 5 (v := ?vf) (nth rfl) (by kernel_rfl) (by kernel_rfl) (by kernel_rfl) (fun _ _ _ h => h) (by rfl) hHeld ?yf ?rf
   case yf => (intro w hSw; (try dsimp only at hSw); go_simp; (try with_reducible rfl))
   try simp only [Act.put, pA, pB, pC]
   refine wpAnyH_ready (rs := [8]) (by kernel_rfl) (by simp) ?_
   refine AllReadyH.cons (nth rfl) (fun K hK => ?_) AllReadyH.nil
   ·go_simp
    refine (itoa_any _ (by omega) (by omega) HT.out).mono ?_; rintro e wn ⟨t, rfl, ht, hb⟩; have Ht := Lib.hid ht; have HH := Lib.hid ((hb.block _ (lt_of_heap HH.out)).trans HH.out); have HT := Lib.hid (HT.out.below hb); have HR := Lib.hid (HR.out.quiet hb hB); obtain ⟨wq, rfl⟩ : ∃ wq, wq = wn := ⟨_, rfl⟩; (try (have hz1 : ¬ 9223372036854775807 < 1 + s.size := by omega)); (try (have hz2 : ¬ 9223372036854775807 < 1 + s.size + 1 := by omega)); (try (have hz3 : ¬ 9223372036854775807 < 1 + s.size + 1 + t.size := by omega)); (try (have hz4 : ¬ 9223372036854775807 < 1 + s.size + 1 + t.size + 1 := by omega)); go_simp
    refine hK.out _ _ (repS HH.out) (fun hHeld => ?_)
    clear hK K
    try simp only [Act.put, pA, pB, pC]
    refine tkH 9 (v := ?vg) (nth rfl) (by kernel_rfl) (by kernel_rfl) (by kernel_rfl) (fun _ _ _ h => h) (by rfl) hHeld ?yg ?rg
    case yg => (intro w hSw; (try dsimp only at hSw); go_simp; (try with_reducible rfl))
    try simp only [Act.put, pA, pB, pC]
    refine tkH 10 (v := ?vh) (nth rfl) (by kernel_rfl) (by kernel_rfl) (by kernel_rfl) (fun _ _ _ h => h) (by rfl) hHeld ?yh ?rh
    case yh => (intro w hSw; (try dsimp only at hSw); go_simp; (try with_reducible rfl))
    try simp only [Act.put, pA, pB, pC]
    refine wpAnyH_ready (rs := [11]) (by kernel_rfl) (by simp) ?_
    refine AllReadyH.cons (nth rfl) (fun K hK => ?_) AllReadyH.nil
    ·go_simp
     (with_reducible refine (wstr_any HR.out.bd (({ data := #[123] } : ByteArray) ++ s ++ { data := #[44] } ++ t ++ { data := #[125] }) 64 (br_size2 Hs.out Ht.out _ _ (by decide) (by decide)) hn (HR.out.hB hB)).mono ?_); rintro e w3 ⟨z, rfl, hb3⟩; have Hb3 := Lib.hid (HR.out.trans hb3); go_simp
     refine hK.out _ _ (repS (bdp_heap hb3 HH.out Hne.out (by decide))) (fun hHeld => ?_)
     clear hK K
     try simp only [Act.put, pA, pB, pC]
     refine wpAnyH_done (by kernel_rfl) (NoPanic.normal ?_) _
     go_wp2_with fail
     go_end0
     exact ⟨rfl, Hb3.out⟩
 ·have f6 : (mn == 0) = false := by simpa using k1
  have f7 : (mn == 1) = false := by simpa using k2
  clear e2'
  go_enter Tryz.func139, Tryz.ntmps139
  go_wp2_with fail
  obtain ⟨wq, hwq⟩ : ∃ wq, (w.alloc (.cells #[.iface ta xa, .int .i64 mn, .int .i64 mx] 174)).drew = wq := ⟨_, rfl⟩
  have HH := Lib.hid (show wq.heap[w.heap.size]? = some (repC ta xa mn mx) by rw [← hwq]; exact Hbx.out)
  have HR := Lib.hid (HR.out.quiet (show Below _ _ wq by rw [← hwq]; exact (Below.refl _ _).drew) hB)
  have HT := Lib.hid (HT.out.below (show Below _ _ wq by rw [← hwq]; exact (Below.refl _ _).drew))
  refine wp_region_noPanic ?_
  refine wp_region_held_drew (S := fun w' => w'.cell? ⟨w.heap.size, 1, none⟩ = some (.int .i64 mn) ∧ w'.cell? ⟨w.heap.size, 2, none⟩ = some (.int .i64 mx)) (by kernel_rfl) ((by rw [hwq]; exact repS HH.out)) (fun hHeld => ?_)
  rw [hwq] at hHeld ⊢
  clear hwq
  refine tkH 0 (v := ?vi) (nth rfl) (by kernel_rfl) (by kernel_rfl) (by kernel_rfl) (fun _ _ _ h => h) (by rfl) hHeld ?yi ?ri
  case yi => (intro w hSw; (try dsimp only at hSw); go_simp; (try with_reducible rfl))
  try simp only [Act.put, pA, pB, pC]
  refine tkH 1 (v := ?vj) (nth rfl) (by kernel_rfl) (by kernel_rfl) (by kernel_rfl) (fun _ _ _ h => h) (by rfl) hHeld ?yj ?rj
  case yj => (intro w hSw; (try dsimp only at hSw); go_simp; (try with_reducible rfl))
  try simp only [Act.put, pA, pB, pC]
  refine tkH 2 (v := ?vk) (nth rfl) (by kernel_rfl) (by kernel_rfl) (by kernel_rfl) (fun _ _ _ h => h) (by rfl) hHeld ?yk ?rk
  case yk => (intro w hSw; (try dsimp only at hSw); go_simp; (try with_reducible rfl))
  try simp only [Act.put, pA, pB, pC]
  refine tkH 6 (v := ?vl) (nth rfl) (by kernel_rfl) (by kernel_rfl) (by kernel_rfl) (fun _ _ _ h => h) (by rfl) hHeld ?yl ?rl
  case yl => (intro w hSw; (try dsimp only at hSw); go_simp; (try with_reducible rfl))
  try simp only [Act.put, pA, pB, pC]
  refine tkH 7 (v := ?vm) (nth rfl) (by kernel_rfl) (by kernel_rfl) (by kernel_rfl) (fun _ _ _ h => h) (by rfl) hHeld ?ym ?rm
  case ym => (intro w hSw; (try dsimp only at hSw); go_simp; (try with_reducible rfl))
  try simp only [Act.put, pA, pB, pC]
  refine wpAnyH_ready (rs := [3]) (by kernel_rfl) (by simp) ?_
  refine AllReadyH.cons (nth rfl) (fun K hK => ?_) AllReadyH.nil
  ·go_simp
   refine (itoa_any _ (by omega) (by omega) HT.out).mono ?_; rintro e wn ⟨s, rfl, hs, hb⟩; have Hs := Lib.hid hs; have HH := Lib.hid ((hb.block _ (lt_of_heap HH.out)).trans HH.out); have HT := Lib.hid (HT.out.below hb); have HR := Lib.hid (HR.out.quiet hb hB); obtain ⟨wq, rfl⟩ : ∃ wq, wq = wn := ⟨_, rfl⟩; (try (have hz1 : ¬ 9223372036854775807 < 1 + s.size := by omega)); (try (have hz2 : ¬ 9223372036854775807 < 1 + s.size + 1 := by omega)); (try (have hz3 : ¬ 9223372036854775807 < 1 + s.size + 1 + t.size := by omega)); (try (have hz4 : ¬ 9223372036854775807 < 1 + s.size + 1 + t.size + 1 := by omega)); go_simp
   refine hK.out _ _ (repS HH.out) (fun hHeld => ?_)
   clear hK K
   try simp only [Act.put, pA, pB, pC]
   refine tkH 4 (v := ?vn) (nth rfl) (by kernel_rfl) (by kernel_rfl) (by kernel_rfl) (fun _ _ _ h => h) (by rfl) hHeld ?yn ?rn
   case yn => (intro w hSw; (try dsimp only at hSw); go_simp; (try with_reducible rfl))
   try simp only [Act.put, pA, pB, pC]
   refine tkH 5 (v := ?vo) (nth rfl) (by kernel_rfl) (by kernel_rfl) (by kernel_rfl) (fun _ _ _ h => h) (by rfl) hHeld ?yo ?ro
   case yo => (intro w hSw; (try dsimp only at hSw); go_simp; (try with_reducible rfl))
   try simp only [Act.put, pA, pB, pC]
   refine wpAnyH_ready (rs := [8]) (by kernel_rfl) (by simp) ?_
   refine AllReadyH.cons (nth rfl) (fun K hK => ?_) AllReadyH.nil
   ·go_simp
    refine (itoa_any _ (by omega) (by omega) HT.out).mono ?_; rintro e wn ⟨t, rfl, ht, hb⟩; have Ht := Lib.hid ht; have HH := Lib.hid ((hb.block _ (lt_of_heap HH.out)).trans HH.out); have HT := Lib.hid (HT.out.below hb); have HR := Lib.hid (HR.out.quiet hb hB); obtain ⟨wq, rfl⟩ : ∃ wq, wq = wn := ⟨_, rfl⟩; (try (have hz1 : ¬ 9223372036854775807 < 1 + s.size := by omega)); (try (have hz2 : ¬ 9223372036854775807 < 1 + s.size + 1 := by omega)); (try (have hz3 : ¬ 9223372036854775807 < 1 + s.size + 1 + t.size := by omega)); (try (have hz4 : ¬ 9223372036854775807 < 1 + s.size + 1 + t.size + 1 := by omega)); go_simp
    refine hK.out _ _ (repS HH.out) (fun hHeld => ?_)
    clear hK K
    try simp only [Act.put, pA, pB, pC]
    refine tkH 9 (v := ?vp) (nth rfl) (by kernel_rfl) (by kernel_rfl) (by kernel_rfl) (fun _ _ _ h => h) (by rfl) hHeld ?yp ?rp
    case yp => (intro w hSw; (try dsimp only at hSw); go_simp; (try with_reducible rfl))
    try simp only [Act.put, pA, pB, pC]
    refine tkH 10 (v := ?vq) (nth rfl) (by kernel_rfl) (by kernel_rfl) (by kernel_rfl) (fun _ _ _ h => h) (by rfl) hHeld ?yq ?rq
    case yq => (intro w hSw; (try dsimp only at hSw); go_simp; (try with_reducible rfl))
    try simp only [Act.put, pA, pB, pC]
    refine wpAnyH_ready (rs := [11]) (by kernel_rfl) (by simp) ?_
    refine AllReadyH.cons (nth rfl) (fun K hK => ?_) AllReadyH.nil
    ·go_simp
     (with_reducible refine (wstr_any HR.out.bd (({ data := #[123] } : ByteArray) ++ s ++ { data := #[44] } ++ t ++ { data := #[125] }) 64 (br_size2 Hs.out Ht.out _ _ (by decide) (by decide)) hn (HR.out.hB hB)).mono ?_); rintro e w3 ⟨z, rfl, hb3⟩; have Hb3 := Lib.hid (HR.out.trans hb3); go_simp
     refine hK.out _ _ (repS (bdp_heap hb3 HH.out Hne.out (by decide))) (fun hHeld => ?_)
     clear hK K
     try simp only [Act.put, pA, pB, pC]
     refine wpAnyH_done (by kernel_rfl) (NoPanic.normal ?_) _
     go_wp2_with fail
     go_end0
     exact ⟨rfl, Hb3.out⟩
end Go.Proofs.YthhnmpkgleelfaaGreatDoor
