import Derived.Test.YthhnmpkgleelfaaGreatDoorL24
import Derived.Test.YthhnmpkgleelfaaGreatDoorL15
set_option linter.unusedVariables false
set_option linter.unusedSimpArgs false
namespace Go.Proofs.YthhnmpkgleelfaaGreatDoor
open Go.RowKit
def zsL (r : Rx) (x : List Bool) (s : List Int) : List Bool := List.zipWith (fun b c => b && atomT r c) x s
theorem zs_get {r : Rx} {x : List Bool} {s : List Int} {k : Nat} {b : Bool} {c : Int} (hb : x[k]? = some b) (hc : s[k]? = some c) : (false :: zsL r x s)[k + 1]? = some (b && atomT r c) := by
 rw [List.getElem?_cons_succ]; unfold zsL; rw [List.getElem?_zipWith, hb, hc]
theorem zs_len {r : Rx} {x : List Bool} {s : List Int} (h : x.length = s.length + 1) : (false :: zsL r x s).length = x.length := by
 unfold zsL; rw [List.length_cons, List.length_zipWith]; omega
theorem img_atom {r : Rx} {x : List Bool} {s : List Int} (h : x.length = s.length + 1) : Img (fun i j => j = i + 1 ∧ ∃ c, s[i]? = some c ∧ atomT r c = true) x (false :: zsL r x s) := by
 refine ⟨zs_len h, fun j => ?_⟩
 cases j with
 | zero => simp
 | succ j =>
  constructor
  ·intro e
   rw [List.getElem?_cons_succ] at e
   unfold zsL at e
   rw [List.getElem?_zipWith] at e
   cases hb : x[j]? with
   | none => rw [hb] at e; simp at e
   | some b =>
    cases hc : s[j]? with
    | none => rw [hb, hc] at e; simp at e
    | some c =>
     rw [hb, hc] at e
     simp at e
     exact ⟨j, by rw [hb, e.1], rfl, c, hc, e.2⟩
  ·rintro ⟨i, hi, e, c, hc, ht⟩
   obtain rfl : j = i := by omega
   rw [zs_get hi hc, ht]
   rfl
def AtRel (w : World) (l : List Bool) (x0 : Array Value) (n : Nat) (s11 : Value) (wr : World) : Prop := ∃ k : Nat, k + 1 ≤ l.length ∧ s11 = .int .i64 k ∧ Below w.heap.size w wr ∧ wr.heap[w.heap.size]? = some (.cells x0 60 (0, 0)) ∧ Fls wr 0 (.slice (some ⟨w.heap.size + 1, 0, none⟩) n n) (l.take (k + 1) ++ List.replicate (l.length - (k + 1)) false) ∧ w.heap.size + 2 ≤ wr.heap.size
set_option maxHeartbeats 16000000 in
set_option maxRecDepth 100000 in
theorem fr_at2 {s : List Int} {r : Rx} (cc : Int) (rg : ByteArray) (hfl0 : ∀ p, r.flat p = [⟨2, cc, rg, 0, 0, 0, 0⟩]) (hT : ∀ (c : Int) (w : World), Calls Tryz.prog 73 #[.agg #[.int .i64 2, .int .i32 cc, .string rg, .int .i64 0, .int .i64 0, .int .i64 0, .int .i64 0], .int .i32 c] w fun e w' => TkP (atomT r c) w e w') (hM : ∀ i j, Mt s r i j ↔ (j = i + 1 ∧ ∃ c, s[i]? = some c ∧ atomT r c = true)) : FrAt s r := by
 intro p w v vs inn ys x h1 h2 h3 h4 h5 h6 h7
 obtain ⟨A0, q0, rfl, hA0⟩ := h6.form
 have hx0 : ys[p]? = some ⟨2, cc, rg, 0, 0, 0, 0⟩ := h2 0 _ (by rw [hfl0]; rfl)
 obtain ⟨g, q, rfl, hp, c0, c1, c2, c3, c4, c5, c6⟩ := node_at h1 hx0
 dsimp only at c0 c1 c2 c3 c4 c5 c6
 have hpi : (p : Int) < ys.length := by omega
 obtain ⟨As, qs, rfl, -, -, -⟩ := ownsRow_slice h4
 have hmk := run_make_flags x.length (by omega)
 have H1 := Lib.hid h1
 have H2 := Lib.hid h2
 have H4 := Lib.hid h4
 have H6 := Lib.hid h6
 have H7 := Lib.hid h7
 have HA0 := Lib.hid hA0
 have hxl : x.length ≤ 100001 := by omega
 have hx0l : 0 < x.length := by omega
 clear h1 h2 h4 h6 h7 hx0 hA0
 have hb2 : Below w.heap.size w ((w.alloc (.cells #[.int .i64 2, .int .i32 cc, .string rg, .int .i64 0, .int .i64 0, .int .i64 0, .int .i64 0] 60)).alloc (.cells (Array.replicate x.length (.bool false)) 4)) := ((Below.refl _ _).alloc (Nat.le_refl w.heap.size) _).alloc (by simp) _
 have hfl : Fls ((w.alloc (.cells #[.int .i64 2, .int .i32 cc, .string rg, .int .i64 0, .int .i64 0, .int .i64 0, .int .i64 0] 60)).alloc (.cells (Array.replicate x.length (.bool false)) 4)) 0 (.slice (some ⟨w.heap.size + 1, 0, none⟩) x.length x.length) (List.replicate x.length false) := by have h9 := fls_made (w.alloc (.cells #[.int .i64 2, .int .i32 cc, .string rg, .int .i64 0, .int .i64 0, .int .i64 0, .int .i64 0] 60)) x.length (by omega) (Nat.zero_le _); rwa [show (w.alloc (.cells #[.int .i64 2, .int .i32 cc, .string rg, .int .i64 0, .int .i64 0, .int .i64 0, .int .i64 0] 60)).heap.size = w.heap.size + 1 by simp] at h9
 have hbx : (((w.alloc (.cells #[.int .i64 2, .int .i32 cc, .string rg, .int .i64 0, .int .i64 0, .int .i64 0, .int .i64 0] 60)).alloc (.cells (Array.replicate x.length (.bool false)) 4))).heap[w.heap.size]? = some (.cells #[.int .i64 2, .int .i32 cc, .string rg, .int .i64 0, .int .i64 0, .int .i64 0, .int .i64 0] 60 (0, 0)) := ((alloc_below (w.alloc (.cells #[.int .i64 2, .int .i32 cc, .string rg, .int .i64 0, .int .i64 0, .int .i64 0, .int .i64 0] 60)) (.cells (Array.replicate x.length (.bool false)) 4)).block _ (by simp)).trans (heap_alloc_new w _)
 have HT := Lib.hid hT
 have HM := Lib.hid hM
 have Hb2 := Lib.hid hb2
 have Hfl := Lib.hid hfl
 have Hbx := Lib.hid hbx
 have d0 := row_cell hbx (j := 0) (u := .int .i64 2) rfl
 have hsz : (((w.alloc (.cells #[.int .i64 2, .int .i32 cc, .string rg, .int .i64 0, .int .i64 0, .int .i64 0, .int .i64 0] 60)).alloc (.cells (Array.replicate x.length (.bool false)) 4))).heap.size = w.heap.size + 2 := by simp
 clear hfl hb2 hbx hT hM hfl0
 go_enter Tryz.func48, Tryz.ntmps48
 go_upto_region 3 with fail
 generalize ((w.alloc (.cells #[.int .i64 2, .int .i32 cc, .string rg, .int .i64 0, .int .i64 0, .int .i64 0, .int .i64 0] 60)).alloc (.cells (Array.replicate x.length (.bool false)) 4)) = w2 at *
 obtain ⟨l, hl⟩ : ∃ l, (false :: zsL r x s) = l := ⟨_, rfl⟩
 have Hl := Lib.hid hl
 have Hll := Lib.hid (show l.length = x.length by rw [← hl]; exact zs_len H7.out)
 clear hl
 go_wp2_with fail
 go_loopw [11] (fun s11 wr => AtRel w l #[.int .i64 2, .int .i32 cc, .string rg, .int .i64 0, .int .i64 0, .int .i64 0, .int .i64 0] x.length s11 wr) (fun v _ => s.length - (intOf v).toNat)
 case atStart =>
  refine ⟨0, by rw [Hll.out]; omega, rfl, Hb2.out, Hbx.out, ?_, by omega⟩
  have h9 := Hfl.out
  rw [← Hl.out] at Hll ⊢
  rw [Hll.out]
  rw [show x.length = (x.length - (0 + 1)) + 1 by omega, List.replicate_succ] at h9
  rw [show x.length - (0 + 1) + 1 = x.length by omega] at h9
  exact h9
 case round =>
  obtain ⟨k, hk, rfl, hb, hbx, ho, hsr⟩ := hrel
  have hk2 : k ≤ s.length := by have := Hll.out; have := H7.out; omega
  have Hb := Lib.hid hb
  have Ho := Lib.hid ho
  have Hbxr := Lib.hid hbx
  by_cases hlt : k < s.length
  case neg =>
   obtain rfl : k = s.length := by omega
   have hlx : l.length = s.length + 1 := by rw [Hll.out, H7.out]
   rw [← hlx, List.take_length, Nat.sub_self, List.replicate_zero, List.append_nil] at Ho
   have Hlx := Lib.hid hlx
   clear hb hbx ho hlx
   go_wp2_with fail
   go_ret
   refine ⟨l, some ⟨w.heap.size + 1, 0, none⟩, x.length, by rw [Hll.out]; rfl, Hb.out, by rw [Hll.out]; exact Ho.out, ?_⟩
   rw [← Hl.out]
   exact (img_atom H7.out).wk (fun i j => (HM.out i j).symm)
  obtain ⟨g0, rfl⟩ := HA0.out (by omega)
  have hAs : ∃ gs, As = some ⟨gs, 0, none⟩ := by
   obtain ⟨_, _, e, _, _, hA⟩ := ownsRow_slice H4.out
   obtain ⟨gs, e'⟩ := hA (by omega)
   exact ⟨gs, (Value.slice.inj e).1.trans e'⟩
  obtain ⟨gs, rfl⟩ := hAs
  obtain ⟨b, hbk⟩ : ∃ b, x[k]? = some b := ⟨_, List.getElem?_eq_getElem (by have := H7.out; omega)⟩
  obtain ⟨c, hck⟩ : ∃ c, s[k]? = some c := ⟨_, List.getElem?_eq_getElem hlt⟩
  have Hg0 := Lib.hid (show some g0 ≠ some (w.heap.size + 1) from fun e => by obtain ⟨_, _, h9⟩ := ownsRow_block H6.out (g := g0) rfl; have := lt_of_heap h9; injection e with e; omega)
  have Hgs := Lib.hid (show some gs ≠ some (w.heap.size + 1) from fun e => by obtain ⟨_, _, h9⟩ := ownsRow_block H4.out (g := gs) rfl; have := lt_of_heap h9; injection e with e; omega)
  have Hgb := Lib.hid (show some w.heap.size ≠ some (w.heap.size + 1) from fun e => by injection e with e; omega)
  have e1 := (H6.out.below hb).cell hbk
  have e2 := ownsRow_cell (H4.out.below hb) rfl k (by omega)
  rw [List.getElem?_map, hck] at e2
  simp only [Option.map_some, runeV] at e2
  have f0 := row_cell hbx (j := 0) (u := .int .i64 2) rfl
  have f1 := row_cell hbx (j := 1) (u := .int .i32 cc) rfl
  have f2 := row_cell hbx (j := 2) (u := .string rg) rfl
  have f3 := row_cell hbx (j := 3) (u := .int .i64 0) rfl
  have f4 := row_cell hbx (j := 4) (u := .int .i64 0) rfl
  have f5 := row_cell hbx (j := 5) (u := .int .i64 0) rfl
  have f6 := row_cell hbx (j := 6) (u := .int .i64 0) rfl
  have HS := Lib.hid (And.intro e1 (And.intro e2 (And.intro f0 (And.intro f1 (And.intro f2 (And.intro f3 (And.intro f4 (And.intro f5 f6))))))))
  have hkl : k + 1 < l.length := by have := Hll.out; have := H7.out; omega
  have hlk : l[k + 1]? = some (b && atomT r c) := by rw [← Hl.out]; exact zs_get hbk hck
  have hfz := ho.frozen (k + 1)
  have hoc := ho.cell (fill_at false hkl)
  have hki : (k : Int) < s.length := by omega
  have hkx : (k : Int) < x.length := by have := H7.out; omega
  have Hlk := Lib.hid hlk
  have Hoc := Lib.hid hoc
  have Hfz := Lib.hid hfz
  clear e1 e2 f0 f1 f2 f3 f4 f5 f6 hb hbx ho hbk hck hlk hoc hfz
  go_wp2_with fail
  have hw1 : IntKind.i64.wrap ((k : Int) + 1) = (k : Int) + 1 := IntWalk.i64_in _ (by omega)
  have hw2 : ((k : Int) + 1).toNat = k + 1 := by omega
  have hw3 : (0 : Int) ≤ (k : Int) + 1 := by omega
  have hw4 : (k : Int) + 1 < x.length := by have := H7.out; omega
  cases b
  case false =>
   have hst := Ho.out.set (k + 1) false
   rw [set_fill (show l[k + 1]? = some false by rw [Hlk.out]; rfl)] at hst
   have HG := Lib.hid (show wr.drew.grownBy (wr.drew.setCell ⟨w.heap.size + 1, k + 1, none⟩ (.bool false)) (some (w.heap.size + 1)) from ⟨rfl, rfl, rfl, by simp, fun i _ hi => Below.heap_setCell wr.drew ⟨w.heap.size + 1, k + 1, none⟩ (.bool false) i (fun e => hi (by rw [e]))⟩)
   have Hst := Lib.hid hst.1
   clear hst
   have hocd : wr.drew.cell? ⟨w.heap.size + 1, k + 1, none⟩ = some (.bool false) := Hoc.out
   have hfzd : wr.drew.frozen? ⟨w.heap.size + 1, k + 1, none⟩ = false := Hfz.out
   refine wp_region_noPanic ?_
   refine wp_region_held_drew (S := fun w' => w'.cell? ⟨g0, k, none⟩ = some (.bool false) ∧ w'.cell? ⟨gs, k, none⟩ = some (.int .i32 c) ∧ w'.cell? ⟨w.heap.size, 0, none⟩ = some (.int .i64 2) ∧ w'.cell? ⟨w.heap.size, 1, none⟩ = some (.int .i32 cc) ∧ w'.cell? ⟨w.heap.size, 2, none⟩ = some (.string rg) ∧ w'.cell? ⟨w.heap.size, 3, none⟩ = some (.int .i64 0) ∧ w'.cell? ⟨w.heap.size, 4, none⟩ = some (.int .i64 0) ∧ w'.cell? ⟨w.heap.size, 5, none⟩ = some (.int .i64 0) ∧ w'.cell? ⟨w.heap.size, 6, none⟩ = some (.int .i64 0)) (by kernel_rfl) (HS.out) (fun hHeld => ?_)
   refine tkH 0 (v := ?v0) (nth rfl) (by kernel_rfl) (by kernel_rfl) (by kernel_rfl) (fun _ _ _ h => h) (by rfl) hHeld ?y0 ?r0
   case y0 => (intro w hSw; (try dsimp only at hSw); go_simp; (try with_reducible rfl))
   try simp only [Act.put, pA, pB, pC]
   refine tkH 1 (v := ?v1) (nth rfl) (by kernel_rfl) (by kernel_rfl) (by kernel_rfl) (fun _ _ _ h => h) (by rfl) hHeld ?y1 ?r1
   case y1 => (intro w hSw; (try dsimp only at hSw); go_simp; (try with_reducible rfl))
   try simp only [Act.put, pA, pB, pC]
   refine tkH 2 (v := ?v2) (nth rfl) (by kernel_rfl) (by kernel_rfl) (by kernel_rfl) (fun _ _ _ h => h) (by rfl) hHeld ?y2 ?r2
   case y2 => (intro w hSw; (try dsimp only at hSw); go_simp; (try with_reducible rfl))
   try simp only [Act.put, pA, pB, pC]
   refine tkH 3 (v := ?v3) (nth rfl) (by kernel_rfl) (by kernel_rfl) (by kernel_rfl) (fun _ _ _ h => h) (by rfl) hHeld ?y3 ?r3
   case y3 => (intro w hSw; (try dsimp only at hSw); go_simp; (try with_reducible rfl))
   try simp only [Act.put, pA, pB, pC]
   refine tkH 4 (v := ?v4) (nth rfl) (by kernel_rfl) (by kernel_rfl) (by kernel_rfl) (fun _ _ _ h => h) (by rfl) hHeld ?y4 ?r4
   case y4 => (intro w hSw; (try dsimp only at hSw); go_simp; (try with_reducible rfl))
   try simp only [Act.put, pA, pB, pC]
   refine tkH 5 (v := ?v5) (nth rfl) (by kernel_rfl) (by kernel_rfl) (by kernel_rfl) (fun _ _ _ h => h) (by rfl) hHeld ?y5 ?r5
   case y5 => (intro w hSw; (try dsimp only at hSw); go_simp; (try with_reducible rfl))
   try simp only [Act.put, pA, pB, pC]
   refine tkH 6 (v := ?v6) (nth rfl) (by kernel_rfl) (by kernel_rfl) (by kernel_rfl) (fun _ _ _ h => h) (by rfl) hHeld ?y6 ?r6
   case y6 => (intro w hSw; (try dsimp only at hSw); go_simp; (try with_reducible rfl))
   try simp only [Act.put, pA, pB, pC]
   refine tkH 7 (v := ?v7) (nth rfl) (by kernel_rfl) (by kernel_rfl) (by kernel_rfl) (fun _ _ _ h => h) (by rfl) hHeld ?y7 ?r7
   case y7 => (intro w hSw; (try dsimp only at hSw); go_simp; (try with_reducible rfl))
   try simp only [Act.put, pA, pB, pC]
   refine wpAnyH_take (i := 8) (v := undef) (nth rfl) (by kernel_rfl) (by kernel_rfl) (by kernel_rfl) (fun _ _ _ h => h) (Or.inr ⟨by rfl, rfl⟩) hHeld ?restr12_From_12_50_8
   try simp only [Act.put, pA, pB, pC]
   refine wpAnyH_take (i := 9) (v := undef) (nth rfl) (by kernel_rfl) (by kernel_rfl) (by kernel_rfl) (fun _ _ _ h => h) (Or.inr ⟨by rfl, rfl⟩) hHeld ?restr12_From_12_50_9
   try simp only [Act.put, pA, pB, pC]
   refine wpAnyH_take (i := 10) (v := undef) (nth rfl) (by kernel_rfl) (by kernel_rfl) (by kernel_rfl) (fun _ _ _ h => h) (Or.inr ⟨by rfl, rfl⟩) hHeld ?restr12_From_12_50_10
   try simp only [Act.put, pA, pB, pC]
   refine wpAnyH_take (i := 11) (v := undef) (nth rfl) (by kernel_rfl) (by kernel_rfl) (by kernel_rfl) (fun _ _ _ h => h) (Or.inr ⟨by rfl, rfl⟩) hHeld ?restr12_From_12_50_11
   try simp only [Act.put, pA, pB, pC]
   refine wpAnyH_take (i := 12) (v := undef) (nth rfl) (by kernel_rfl) (by kernel_rfl) (by kernel_rfl) (fun _ _ _ h => h) (Or.inr ⟨by rfl, rfl⟩) hHeld ?restr12_From_12_50_12
   try simp only [Act.put, pA, pB, pC]
   refine wpAnyH_ready (rs := [13]) (by kernel_rfl) (by simp) ?_
   refine AllReadyH.cons (nth rfl) (fun K hK => ?_) AllReadyH.nil
   go_simp
   refine hK.out _ _ (hHeld) (fun hHeld => ?_)
   clear hK K
   try simp only [Act.put, pA, pB, pC]
   refine tkH 14 (v := ?v8) (nth rfl) (by kernel_rfl) (by kernel_rfl) (by kernel_rfl) (fun _ _ _ h => h) (by rfl) hHeld ?y8 ?r8
   case y8 => (intro w hSw; (try dsimp only at hSw); go_simp; (try with_reducible rfl))
   try simp only [Act.put, pA, pB, pC]
   refine tkH 15 (v := ?v9) (nth rfl) (by kernel_rfl) (by kernel_rfl) (by kernel_rfl) (fun _ _ _ h => h) (by rfl) hHeld ?y9 ?r9
   case y9 => (intro w hSw; (try dsimp only at hSw); go_simp; (try with_reducible rfl))
   try simp only [Act.put, pA, pB, pC]
   refine wpAnyH_ready (rs := [16]) (by kernel_rfl) (by simp) ?_
   refine AllReadyH.cons (nth rfl) (fun K hK => ?_) AllReadyH.nil
   go_simp
   refine hK.out _ _ (⟨HG.out.cell hHeld.1 Hg0.out, HG.out.cell hHeld.2.1 Hgs.out, HG.out.cell hHeld.2.2.1 Hgb.out, HG.out.cell hHeld.2.2.2.1 Hgb.out, HG.out.cell hHeld.2.2.2.2.1 Hgb.out, HG.out.cell hHeld.2.2.2.2.2.1 Hgb.out, HG.out.cell hHeld.2.2.2.2.2.2.1 Hgb.out, HG.out.cell hHeld.2.2.2.2.2.2.2.1 Hgb.out, HG.out.cell hHeld.2.2.2.2.2.2.2.2 Hgb.out⟩) (fun hHeld => ?_)
   clear hK K
   try simp only [Act.put, pA, pB, pC]
   refine wpAnyH_done (by kernel_rfl) (NoPanic.normal ?_) _
   clear hHeld hw1 hw2 hw3 hw4
   go_wp2_with fail
   refine ⟨⟨k + 1, by omega, by go_num, below_set Hb.out.drew (Nat.le_succ _) (by have := Hb.out.size; exact this), ?_, Hst.out, by simp [World.setCell]; exact hsr⟩, by simp [intOf]; omega⟩
   exact (HG.out.block _ (lt_of_heap Hbxr.out) Hgb.out).trans Hbxr.out
  case true =>
   rw [Bool.true_and] at Hlk
   refine wp_region_noPanic ?_
   refine wp_region_held_drew (S := fun w' => w'.cell? ⟨g0, k, none⟩ = some (.bool true) ∧ w'.cell? ⟨gs, k, none⟩ = some (.int .i32 c) ∧ w'.cell? ⟨w.heap.size, 0, none⟩ = some (.int .i64 2) ∧ w'.cell? ⟨w.heap.size, 1, none⟩ = some (.int .i32 cc) ∧ w'.cell? ⟨w.heap.size, 2, none⟩ = some (.string rg) ∧ w'.cell? ⟨w.heap.size, 3, none⟩ = some (.int .i64 0) ∧ w'.cell? ⟨w.heap.size, 4, none⟩ = some (.int .i64 0) ∧ w'.cell? ⟨w.heap.size, 5, none⟩ = some (.int .i64 0) ∧ w'.cell? ⟨w.heap.size, 6, none⟩ = some (.int .i64 0)) (by kernel_rfl) (HS.out) (fun hHeld => ?_)
   refine tkH 0 (v := ?va) (nth rfl) (by kernel_rfl) (by kernel_rfl) (by kernel_rfl) (fun _ _ _ h => h) (by rfl) hHeld ?ya ?ra
   case ya => (intro w hSw; (try dsimp only at hSw); go_simp; (try with_reducible rfl))
   try simp only [Act.put, pA, pB, pC]
   refine tkH 1 (v := ?vb) (nth rfl) (by kernel_rfl) (by kernel_rfl) (by kernel_rfl) (fun _ _ _ h => h) (by rfl) hHeld ?yb ?rb
   case yb => (intro w hSw; (try dsimp only at hSw); go_simp; (try with_reducible rfl))
   try simp only [Act.put, pA, pB, pC]
   refine tkH 2 (v := ?vc) (nth rfl) (by kernel_rfl) (by kernel_rfl) (by kernel_rfl) (fun _ _ _ h => h) (by rfl) hHeld ?yc ?rc
   case yc => (intro w hSw; (try dsimp only at hSw); go_simp; (try with_reducible rfl))
   try simp only [Act.put, pA, pB, pC]
   refine tkH 3 (v := ?vd) (nth rfl) (by kernel_rfl) (by kernel_rfl) (by kernel_rfl) (fun _ _ _ h => h) (by rfl) hHeld ?yd ?rd
   case yd => (intro w hSw; (try dsimp only at hSw); go_simp; (try with_reducible rfl))
   try simp only [Act.put, pA, pB, pC]
   refine tkH 4 (v := ?ve) (nth rfl) (by kernel_rfl) (by kernel_rfl) (by kernel_rfl) (fun _ _ _ h => h) (by rfl) hHeld ?ye ?re
   case ye => (intro w hSw; (try dsimp only at hSw); go_simp; (try with_reducible rfl))
   try simp only [Act.put, pA, pB, pC]
   refine tkH 5 (v := ?vf) (nth rfl) (by kernel_rfl) (by kernel_rfl) (by kernel_rfl) (fun _ _ _ h => h) (by rfl) hHeld ?yf ?rf
   case yf => (intro w hSw; (try dsimp only at hSw); go_simp; (try with_reducible rfl))
   try simp only [Act.put, pA, pB, pC]
   refine tkH 6 (v := ?vg) (nth rfl) (by kernel_rfl) (by kernel_rfl) (by kernel_rfl) (fun _ _ _ h => h) (by rfl) hHeld ?yg ?rg
   case yg => (intro w hSw; (try dsimp only at hSw); go_simp; (try with_reducible rfl))
   try simp only [Act.put, pA, pB, pC]
   refine tkH 7 (v := ?vh) (nth rfl) (by kernel_rfl) (by kernel_rfl) (by kernel_rfl) (fun _ _ _ h => h) (by rfl) hHeld ?yh ?rh
   case yh => (intro w hSw; (try dsimp only at hSw); go_simp; (try with_reducible rfl))
   try simp only [Act.put, pA, pB, pC]
   refine tkH 8 (v := ?vi) (nth rfl) (by kernel_rfl) (by kernel_rfl) (by kernel_rfl) (fun _ _ _ h => h) (by rfl) hHeld ?yi ?ri
   case yi => (intro w hSw; (try dsimp only at hSw); go_simp; (try with_reducible rfl))
   try simp only [Act.put, pA, pB, pC]
   refine tkH 9 (v := ?vj) (nth rfl) (by kernel_rfl) (by kernel_rfl) (by kernel_rfl) (fun _ _ _ h => h) (by rfl) hHeld ?yj ?rj
   case yj => (intro w hSw; (try dsimp only at hSw); go_simp; (try with_reducible rfl))
   try simp only [Act.put, pA, pB, pC]
   refine tkH 10 (v := ?vk) (nth rfl) (by kernel_rfl) (by kernel_rfl) (by kernel_rfl) (fun _ _ _ h => h) (by rfl) hHeld ?yk ?rk
   case yk => (intro w hSw; (try dsimp only at hSw); go_simp; (try with_reducible rfl))
   try simp only [Act.put, pA, pB, pC]
   refine tkH 11 (v := ?vl) (nth rfl) (by kernel_rfl) (by kernel_rfl) (by kernel_rfl) (fun _ _ _ h => h) (by rfl) hHeld ?yl ?rl
   case yl => (intro w hSw; (try dsimp only at hSw); go_simp; (try with_reducible rfl))
   try simp only [Act.put, pA, pB, pC]
   refine tkH 12 (v := ?vm) (nth rfl) (by kernel_rfl) (by kernel_rfl) (by kernel_rfl) (fun _ _ _ h => h) (by rfl) hHeld ?ym ?rm
   case ym => (intro w hSw; (try dsimp only at hSw); go_simp; (try with_reducible rfl))
   try simp only [Act.put, pA, pB, pC]
   refine wpAnyH_ready (rs := [13]) (by kernel_rfl) (by simp) ?_
   refine AllReadyH.cons (nth rfl) (fun K hK => ?_) AllReadyH.nil
   go_simp
   refine (HT.out c wr.drew).mono ?_; rintro e w6 ⟨rfl, hb6⟩; have ho6 := Ho.out.below (w' := w6) ((Below.refl wr.heap.size wr).drew.trans hb6); have Hb6 := Lib.hid (Hb.out.trans (((Below.refl wr.heap.size wr).drew.trans hb6).mono Hb.out.size)); have hoc6 := ho6.cell (fill_at false hkl); have hfz6 := ho6.frozen (k + 1); have HG := Lib.hid (ho6.set (k + 1) (atomT r c)).2; have Hst := Lib.hid (ho6.set (k + 1) (atomT r c)).1; have Hbx6 := Lib.hid ((((Below.refl wr.heap.size wr).drew.trans hb6).block _ (lt_of_heap Hbxr.out)).trans Hbxr.out); have hs6 : w.heap.size + 2 ≤ w6.heap.size := Nat.le_trans hsr ((Below.refl wr.heap.size wr).drew.trans hb6).size; clear ho6; go_simp
   refine hK.out _ _ (⟨cell_later hb6 hHeld.1, cell_later hb6 hHeld.2.1, cell_later hb6 hHeld.2.2.1, cell_later hb6 hHeld.2.2.2.1, cell_later hb6 hHeld.2.2.2.2.1, cell_later hb6 hHeld.2.2.2.2.2.1, cell_later hb6 hHeld.2.2.2.2.2.2.1, cell_later hb6 hHeld.2.2.2.2.2.2.2.1, cell_later hb6 hHeld.2.2.2.2.2.2.2.2⟩) (fun hHeld => ?_)
   clear hK K
   try simp only [Act.put, pA, pB, pC]
   refine tkH 14 (v := ?vn) (nth rfl) (by kernel_rfl) (by kernel_rfl) (by kernel_rfl) (fun _ _ _ h => h) (by rfl) hHeld ?yn ?rn
   case yn => (intro w hSw; (try dsimp only at hSw); go_simp; (try with_reducible rfl))
   try simp only [Act.put, pA, pB, pC]
   refine tkH 15 (v := ?vo) (nth rfl) (by kernel_rfl) (by kernel_rfl) (by kernel_rfl) (fun _ _ _ h => h) (by rfl) hHeld ?yo ?ro
   case yo => (intro w hSw; (try dsimp only at hSw); go_simp; (try with_reducible rfl))
   try simp only [Act.put, pA, pB, pC]
   refine wpAnyH_ready (rs := [16]) (by kernel_rfl) (by simp) ?_
   refine AllReadyH.cons (nth rfl) (fun K hK => ?_) AllReadyH.nil
   go_simp
   refine hK.out _ _ (⟨HG.out.cell hHeld.1 Hg0.out, HG.out.cell hHeld.2.1 Hgs.out, HG.out.cell hHeld.2.2.1 Hgb.out, HG.out.cell hHeld.2.2.2.1 Hgb.out, HG.out.cell hHeld.2.2.2.2.1 Hgb.out, HG.out.cell hHeld.2.2.2.2.2.1 Hgb.out, HG.out.cell hHeld.2.2.2.2.2.2.1 Hgb.out, HG.out.cell hHeld.2.2.2.2.2.2.2.1 Hgb.out, HG.out.cell hHeld.2.2.2.2.2.2.2.2 Hgb.out⟩) (fun hHeld => ?_)
   clear hK K
   try simp only [Act.put, pA, pB, pC]
   refine wpAnyH_done (by kernel_rfl) (NoPanic.normal ?_) _
   rw [set_fill Hlk.out] at Hst
   clear hHeld hw1 hw2 hw3 hw4
   go_wp2_with fail
   refine ⟨⟨k + 1, by omega, by go_num, below_set Hb6.out (Nat.le_succ _) Hb6.out.size, ?_, Hst.out, by simp [World.setCell]; exact hs6⟩, by simp [intOf]; omega⟩
   exact (HG.out.block _ (lt_of_heap Hbx6.out) Hgb.out).trans Hbx6.out
set_option maxHeartbeats 16000000 in
set_option maxRecDepth 100000 in
theorem fr_at3 {s : List Int} {r : Rx} (cc : Int) (rg : ByteArray) (hfl0 : ∀ p, r.flat p = [⟨3, cc, rg, 0, 0, 0, 0⟩]) (hT : ∀ (c : Int) (w : World), Calls Tryz.prog 73 #[.agg #[.int .i64 3, .int .i32 cc, .string rg, .int .i64 0, .int .i64 0, .int .i64 0, .int .i64 0], .int .i32 c] w fun e w' => TkP (atomT r c) w e w') (hM : ∀ i j, Mt s r i j ↔ (j = i + 1 ∧ ∃ c, s[i]? = some c ∧ atomT r c = true)) : FrAt s r := by
 intro p w v vs inn ys x h1 h2 h3 h4 h5 h6 h7
 obtain ⟨A0, q0, rfl, hA0⟩ := h6.form
 have hx0 : ys[p]? = some ⟨3, cc, rg, 0, 0, 0, 0⟩ := h2 0 _ (by rw [hfl0]; rfl)
 obtain ⟨g, q, rfl, hp, c0, c1, c2, c3, c4, c5, c6⟩ := node_at h1 hx0
 dsimp only at c0 c1 c2 c3 c4 c5 c6
 have hpi : (p : Int) < ys.length := by omega
 obtain ⟨As, qs, rfl, -, -, -⟩ := ownsRow_slice h4
 have hmk := run_make_flags x.length (by omega)
 have H1 := Lib.hid h1
 have H2 := Lib.hid h2
 have H4 := Lib.hid h4
 have H6 := Lib.hid h6
 have H7 := Lib.hid h7
 have HA0 := Lib.hid hA0
 have hxl : x.length ≤ 100001 := by omega
 have hx0l : 0 < x.length := by omega
 clear h1 h2 h4 h6 h7 hx0 hA0
 have hb2 : Below w.heap.size w ((w.alloc (.cells #[.int .i64 3, .int .i32 cc, .string rg, .int .i64 0, .int .i64 0, .int .i64 0, .int .i64 0] 60)).alloc (.cells (Array.replicate x.length (.bool false)) 4)) := ((Below.refl _ _).alloc (Nat.le_refl w.heap.size) _).alloc (by simp) _
 have hfl : Fls ((w.alloc (.cells #[.int .i64 3, .int .i32 cc, .string rg, .int .i64 0, .int .i64 0, .int .i64 0, .int .i64 0] 60)).alloc (.cells (Array.replicate x.length (.bool false)) 4)) 0 (.slice (some ⟨w.heap.size + 1, 0, none⟩) x.length x.length) (List.replicate x.length false) := by have h9 := fls_made (w.alloc (.cells #[.int .i64 3, .int .i32 cc, .string rg, .int .i64 0, .int .i64 0, .int .i64 0, .int .i64 0] 60)) x.length (by omega) (Nat.zero_le _); rwa [show (w.alloc (.cells #[.int .i64 3, .int .i32 cc, .string rg, .int .i64 0, .int .i64 0, .int .i64 0, .int .i64 0] 60)).heap.size = w.heap.size + 1 by simp] at h9
 have hbx : (((w.alloc (.cells #[.int .i64 3, .int .i32 cc, .string rg, .int .i64 0, .int .i64 0, .int .i64 0, .int .i64 0] 60)).alloc (.cells (Array.replicate x.length (.bool false)) 4))).heap[w.heap.size]? = some (.cells #[.int .i64 3, .int .i32 cc, .string rg, .int .i64 0, .int .i64 0, .int .i64 0, .int .i64 0] 60 (0, 0)) := ((alloc_below (w.alloc (.cells #[.int .i64 3, .int .i32 cc, .string rg, .int .i64 0, .int .i64 0, .int .i64 0, .int .i64 0] 60)) (.cells (Array.replicate x.length (.bool false)) 4)).block _ (by simp)).trans (heap_alloc_new w _)
 have HT := Lib.hid hT
 have HM := Lib.hid hM
 have Hb2 := Lib.hid hb2
 have Hfl := Lib.hid hfl
 have Hbx := Lib.hid hbx
 have d0 := row_cell hbx (j := 0) (u := .int .i64 3) rfl
 have hsz : (((w.alloc (.cells #[.int .i64 3, .int .i32 cc, .string rg, .int .i64 0, .int .i64 0, .int .i64 0, .int .i64 0] 60)).alloc (.cells (Array.replicate x.length (.bool false)) 4))).heap.size = w.heap.size + 2 := by simp
 clear hfl hb2 hbx hT hM hfl0
 go_enter Tryz.func48, Tryz.ntmps48
 go_upto_region 3 with fail
 generalize ((w.alloc (.cells #[.int .i64 3, .int .i32 cc, .string rg, .int .i64 0, .int .i64 0, .int .i64 0, .int .i64 0] 60)).alloc (.cells (Array.replicate x.length (.bool false)) 4)) = w2 at *
 obtain ⟨l, hl⟩ : ∃ l, (false :: zsL r x s) = l := ⟨_, rfl⟩
 have Hl := Lib.hid hl
 have Hll := Lib.hid (show l.length = x.length by rw [← hl]; exact zs_len H7.out)
 clear hl
 go_wp2_with fail
 go_loopw [11] (fun s11 wr => AtRel w l #[.int .i64 3, .int .i32 cc, .string rg, .int .i64 0, .int .i64 0, .int .i64 0, .int .i64 0] x.length s11 wr) (fun v _ => s.length - (intOf v).toNat)
 case atStart =>
  refine ⟨0, by rw [Hll.out]; omega, rfl, Hb2.out, Hbx.out, ?_, by omega⟩
  have h9 := Hfl.out
  rw [← Hl.out] at Hll ⊢
  rw [Hll.out]
  rw [show x.length = (x.length - (0 + 1)) + 1 by omega, List.replicate_succ] at h9
  rw [show x.length - (0 + 1) + 1 = x.length by omega] at h9
  exact h9
 case round =>
  obtain ⟨k, hk, rfl, hb, hbx, ho, hsr⟩ := hrel
  have hk2 : k ≤ s.length := by have := Hll.out; have := H7.out; omega
  have Hb := Lib.hid hb
  have Ho := Lib.hid ho
  have Hbxr := Lib.hid hbx
  by_cases hlt : k < s.length
  case neg =>
   obtain rfl : k = s.length := by omega
   have hlx : l.length = s.length + 1 := by rw [Hll.out, H7.out]
   rw [← hlx, List.take_length, Nat.sub_self, List.replicate_zero, List.append_nil] at Ho
   have Hlx := Lib.hid hlx
   clear hb hbx ho hlx
   go_wp2_with fail
   go_ret
   refine ⟨l, some ⟨w.heap.size + 1, 0, none⟩, x.length, by rw [Hll.out]; rfl, Hb.out, by rw [Hll.out]; exact Ho.out, ?_⟩
   rw [← Hl.out]
   exact (img_atom H7.out).wk (fun i j => (HM.out i j).symm)
  obtain ⟨g0, rfl⟩ := HA0.out (by omega)
  have hAs : ∃ gs, As = some ⟨gs, 0, none⟩ := by
   obtain ⟨_, _, e, _, _, hA⟩ := ownsRow_slice H4.out
   obtain ⟨gs, e'⟩ := hA (by omega)
   exact ⟨gs, (Value.slice.inj e).1.trans e'⟩
  obtain ⟨gs, rfl⟩ := hAs
  obtain ⟨b, hbk⟩ : ∃ b, x[k]? = some b := ⟨_, List.getElem?_eq_getElem (by have := H7.out; omega)⟩
  obtain ⟨c, hck⟩ : ∃ c, s[k]? = some c := ⟨_, List.getElem?_eq_getElem hlt⟩
  have Hg0 := Lib.hid (show some g0 ≠ some (w.heap.size + 1) from fun e => by obtain ⟨_, _, h9⟩ := ownsRow_block H6.out (g := g0) rfl; have := lt_of_heap h9; injection e with e; omega)
  have Hgs := Lib.hid (show some gs ≠ some (w.heap.size + 1) from fun e => by obtain ⟨_, _, h9⟩ := ownsRow_block H4.out (g := gs) rfl; have := lt_of_heap h9; injection e with e; omega)
  have Hgb := Lib.hid (show some w.heap.size ≠ some (w.heap.size + 1) from fun e => by injection e with e; omega)
  have e1 := (H6.out.below hb).cell hbk
  have e2 := ownsRow_cell (H4.out.below hb) rfl k (by omega)
  rw [List.getElem?_map, hck] at e2
  simp only [Option.map_some, runeV] at e2
  have f0 := row_cell hbx (j := 0) (u := .int .i64 3) rfl
  have f1 := row_cell hbx (j := 1) (u := .int .i32 cc) rfl
  have f2 := row_cell hbx (j := 2) (u := .string rg) rfl
  have f3 := row_cell hbx (j := 3) (u := .int .i64 0) rfl
  have f4 := row_cell hbx (j := 4) (u := .int .i64 0) rfl
  have f5 := row_cell hbx (j := 5) (u := .int .i64 0) rfl
  have f6 := row_cell hbx (j := 6) (u := .int .i64 0) rfl
  have HS := Lib.hid (And.intro e1 (And.intro e2 (And.intro f0 (And.intro f1 (And.intro f2 (And.intro f3 (And.intro f4 (And.intro f5 f6))))))))
  have hkl : k + 1 < l.length := by have := Hll.out; have := H7.out; omega
  have hlk : l[k + 1]? = some (b && atomT r c) := by rw [← Hl.out]; exact zs_get hbk hck
  have hfz := ho.frozen (k + 1)
  have hoc := ho.cell (fill_at false hkl)
  have hki : (k : Int) < s.length := by omega
  have hkx : (k : Int) < x.length := by have := H7.out; omega
  have Hlk := Lib.hid hlk
  have Hoc := Lib.hid hoc
  have Hfz := Lib.hid hfz
  clear e1 e2 f0 f1 f2 f3 f4 f5 f6 hb hbx ho hbk hck hlk hoc hfz
  go_wp2_with fail
  have hw1 : IntKind.i64.wrap ((k : Int) + 1) = (k : Int) + 1 := IntWalk.i64_in _ (by omega)
  have hw2 : ((k : Int) + 1).toNat = k + 1 := by omega
  have hw3 : (0 : Int) ≤ (k : Int) + 1 := by omega
  have hw4 : (k : Int) + 1 < x.length := by have := H7.out; omega
  cases b
  case false =>
   have hst := Ho.out.set (k + 1) false
   rw [set_fill (show l[k + 1]? = some false by rw [Hlk.out]; rfl)] at hst
   have HG := Lib.hid (show wr.drew.grownBy (wr.drew.setCell ⟨w.heap.size + 1, k + 1, none⟩ (.bool false)) (some (w.heap.size + 1)) from ⟨rfl, rfl, rfl, by simp, fun i _ hi => Below.heap_setCell wr.drew ⟨w.heap.size + 1, k + 1, none⟩ (.bool false) i (fun e => hi (by rw [e]))⟩)
   have Hst := Lib.hid hst.1
   clear hst
   have hocd : wr.drew.cell? ⟨w.heap.size + 1, k + 1, none⟩ = some (.bool false) := Hoc.out
   have hfzd : wr.drew.frozen? ⟨w.heap.size + 1, k + 1, none⟩ = false := Hfz.out
   refine wp_region_noPanic ?_
   refine wp_region_held_drew (S := fun w' => w'.cell? ⟨g0, k, none⟩ = some (.bool false) ∧ w'.cell? ⟨gs, k, none⟩ = some (.int .i32 c) ∧ w'.cell? ⟨w.heap.size, 0, none⟩ = some (.int .i64 3) ∧ w'.cell? ⟨w.heap.size, 1, none⟩ = some (.int .i32 cc) ∧ w'.cell? ⟨w.heap.size, 2, none⟩ = some (.string rg) ∧ w'.cell? ⟨w.heap.size, 3, none⟩ = some (.int .i64 0) ∧ w'.cell? ⟨w.heap.size, 4, none⟩ = some (.int .i64 0) ∧ w'.cell? ⟨w.heap.size, 5, none⟩ = some (.int .i64 0) ∧ w'.cell? ⟨w.heap.size, 6, none⟩ = some (.int .i64 0)) (by kernel_rfl) (HS.out) (fun hHeld => ?_)
   refine tkH 0 (v := ?vp) (nth rfl) (by kernel_rfl) (by kernel_rfl) (by kernel_rfl) (fun _ _ _ h => h) (by rfl) hHeld ?yp ?rp
   case yp => (intro w hSw; (try dsimp only at hSw); go_simp; (try with_reducible rfl))
   try simp only [Act.put, pA, pB, pC]
   refine tkH 1 (v := ?vq) (nth rfl) (by kernel_rfl) (by kernel_rfl) (by kernel_rfl) (fun _ _ _ h => h) (by rfl) hHeld ?yq ?rq
   case yq => (intro w hSw; (try dsimp only at hSw); go_simp; (try with_reducible rfl))
   try simp only [Act.put, pA, pB, pC]
   refine tkH 2 (v := ?vr) (nth rfl) (by kernel_rfl) (by kernel_rfl) (by kernel_rfl) (fun _ _ _ h => h) (by rfl) hHeld ?yr ?rr
   case yr => (intro w hSw; (try dsimp only at hSw); go_simp; (try with_reducible rfl))
   try simp only [Act.put, pA, pB, pC]
   refine tkH 3 (v := ?vs) (nth rfl) (by kernel_rfl) (by kernel_rfl) (by kernel_rfl) (fun _ _ _ h => h) (by rfl) hHeld ?ys ?rs
   case ys => (intro w hSw; (try dsimp only at hSw); go_simp; (try with_reducible rfl))
   try simp only [Act.put, pA, pB, pC]
   refine tkH 4 (v := ?vt) (nth rfl) (by kernel_rfl) (by kernel_rfl) (by kernel_rfl) (fun _ _ _ h => h) (by rfl) hHeld ?yt ?rt
   case yt => (intro w hSw; (try dsimp only at hSw); go_simp; (try with_reducible rfl))
   try simp only [Act.put, pA, pB, pC]
   refine tkH 5 (v := ?vu) (nth rfl) (by kernel_rfl) (by kernel_rfl) (by kernel_rfl) (fun _ _ _ h => h) (by rfl) hHeld ?yu ?ru
   case yu => (intro w hSw; (try dsimp only at hSw); go_simp; (try with_reducible rfl))
   try simp only [Act.put, pA, pB, pC]
   refine tkH 6 (v := ?vv) (nth rfl) (by kernel_rfl) (by kernel_rfl) (by kernel_rfl) (fun _ _ _ h => h) (by rfl) hHeld ?yv ?rv
   case yv => (intro w hSw; (try dsimp only at hSw); go_simp; (try with_reducible rfl))
   try simp only [Act.put, pA, pB, pC]
   refine tkH 7 (v := ?vw) (nth rfl) (by kernel_rfl) (by kernel_rfl) (by kernel_rfl) (fun _ _ _ h => h) (by rfl) hHeld ?yw ?rw
   case yw => (intro w hSw; (try dsimp only at hSw); go_simp; (try with_reducible rfl))
   try simp only [Act.put, pA, pB, pC]
   refine wpAnyH_take (i := 8) (v := undef) (nth rfl) (by kernel_rfl) (by kernel_rfl) (by kernel_rfl) (fun _ _ _ h => h) (Or.inr ⟨by rfl, rfl⟩) hHeld ?restr12_From_12_52_8
   try simp only [Act.put, pA, pB, pC]
   refine wpAnyH_take (i := 9) (v := undef) (nth rfl) (by kernel_rfl) (by kernel_rfl) (by kernel_rfl) (fun _ _ _ h => h) (Or.inr ⟨by rfl, rfl⟩) hHeld ?restr12_From_12_52_9
   try simp only [Act.put, pA, pB, pC]
   refine wpAnyH_take (i := 10) (v := undef) (nth rfl) (by kernel_rfl) (by kernel_rfl) (by kernel_rfl) (fun _ _ _ h => h) (Or.inr ⟨by rfl, rfl⟩) hHeld ?restr12_From_12_52_10
   try simp only [Act.put, pA, pB, pC]
   refine wpAnyH_take (i := 11) (v := undef) (nth rfl) (by kernel_rfl) (by kernel_rfl) (by kernel_rfl) (fun _ _ _ h => h) (Or.inr ⟨by rfl, rfl⟩) hHeld ?restr12_From_12_52_11
   try simp only [Act.put, pA, pB, pC]
   refine wpAnyH_take (i := 12) (v := undef) (nth rfl) (by kernel_rfl) (by kernel_rfl) (by kernel_rfl) (fun _ _ _ h => h) (Or.inr ⟨by rfl, rfl⟩) hHeld ?restr12_From_12_52_12
   try simp only [Act.put, pA, pB, pC]
   refine wpAnyH_ready (rs := [13]) (by kernel_rfl) (by simp) ?_
   refine AllReadyH.cons (nth rfl) (fun K hK => ?_) AllReadyH.nil
   go_simp
   refine hK.out _ _ (hHeld) (fun hHeld => ?_)
   clear hK K
   try simp only [Act.put, pA, pB, pC]
   refine tkH 14 (v := ?vx) (nth rfl) (by kernel_rfl) (by kernel_rfl) (by kernel_rfl) (fun _ _ _ h => h) (by rfl) hHeld ?yx ?rx
   case yx => (intro w hSw; (try dsimp only at hSw); go_simp; (try with_reducible rfl))
   try simp only [Act.put, pA, pB, pC]
   refine tkH 15 (v := ?vy) (nth rfl) (by kernel_rfl) (by kernel_rfl) (by kernel_rfl) (fun _ _ _ h => h) (by rfl) hHeld ?yy ?ry
   case yy => (intro w hSw; (try dsimp only at hSw); go_simp; (try with_reducible rfl))
   try simp only [Act.put, pA, pB, pC]
   refine wpAnyH_ready (rs := [16]) (by kernel_rfl) (by simp) ?_
   refine AllReadyH.cons (nth rfl) (fun K hK => ?_) AllReadyH.nil
   go_simp
   refine hK.out _ _ (⟨HG.out.cell hHeld.1 Hg0.out, HG.out.cell hHeld.2.1 Hgs.out, HG.out.cell hHeld.2.2.1 Hgb.out, HG.out.cell hHeld.2.2.2.1 Hgb.out, HG.out.cell hHeld.2.2.2.2.1 Hgb.out, HG.out.cell hHeld.2.2.2.2.2.1 Hgb.out, HG.out.cell hHeld.2.2.2.2.2.2.1 Hgb.out, HG.out.cell hHeld.2.2.2.2.2.2.2.1 Hgb.out, HG.out.cell hHeld.2.2.2.2.2.2.2.2 Hgb.out⟩) (fun hHeld => ?_)
   clear hK K
   try simp only [Act.put, pA, pB, pC]
   refine wpAnyH_done (by kernel_rfl) (NoPanic.normal ?_) _
   clear hHeld hw1 hw2 hw3 hw4
   go_wp2_with fail
   refine ⟨⟨k + 1, by omega, by go_num, below_set Hb.out.drew (Nat.le_succ _) (by have := Hb.out.size; exact this), ?_, Hst.out, by simp [World.setCell]; exact hsr⟩, by simp [intOf]; omega⟩
   exact (HG.out.block _ (lt_of_heap Hbxr.out) Hgb.out).trans Hbxr.out
  case true =>
   rw [Bool.true_and] at Hlk
   refine wp_region_noPanic ?_
   refine wp_region_held_drew (S := fun w' => w'.cell? ⟨g0, k, none⟩ = some (.bool true) ∧ w'.cell? ⟨gs, k, none⟩ = some (.int .i32 c) ∧ w'.cell? ⟨w.heap.size, 0, none⟩ = some (.int .i64 3) ∧ w'.cell? ⟨w.heap.size, 1, none⟩ = some (.int .i32 cc) ∧ w'.cell? ⟨w.heap.size, 2, none⟩ = some (.string rg) ∧ w'.cell? ⟨w.heap.size, 3, none⟩ = some (.int .i64 0) ∧ w'.cell? ⟨w.heap.size, 4, none⟩ = some (.int .i64 0) ∧ w'.cell? ⟨w.heap.size, 5, none⟩ = some (.int .i64 0) ∧ w'.cell? ⟨w.heap.size, 6, none⟩ = some (.int .i64 0)) (by kernel_rfl) (HS.out) (fun hHeld => ?_)
   refine tkH 0 (v := ?vz) (nth rfl) (by kernel_rfl) (by kernel_rfl) (by kernel_rfl) (fun _ _ _ h => h) (by rfl) hHeld ?yz ?rz
   case yz => (intro w hSw; (try dsimp only at hSw); go_simp; (try with_reducible rfl))
   try simp only [Act.put, pA, pB, pC]
   refine tkH 1 (v := ?v10) (nth rfl) (by kernel_rfl) (by kernel_rfl) (by kernel_rfl) (fun _ _ _ h => h) (by rfl) hHeld ?y10 ?r10
   case y10 => (intro w hSw; (try dsimp only at hSw); go_simp; (try with_reducible rfl))
   try simp only [Act.put, pA, pB, pC]
   refine tkH 2 (v := ?v11) (nth rfl) (by kernel_rfl) (by kernel_rfl) (by kernel_rfl) (fun _ _ _ h => h) (by rfl) hHeld ?y11 ?r11
   case y11 => (intro w hSw; (try dsimp only at hSw); go_simp; (try with_reducible rfl))
   try simp only [Act.put, pA, pB, pC]
   refine tkH 3 (v := ?v12) (nth rfl) (by kernel_rfl) (by kernel_rfl) (by kernel_rfl) (fun _ _ _ h => h) (by rfl) hHeld ?y12 ?r12
   case y12 => (intro w hSw; (try dsimp only at hSw); go_simp; (try with_reducible rfl))
   try simp only [Act.put, pA, pB, pC]
   refine tkH 4 (v := ?v13) (nth rfl) (by kernel_rfl) (by kernel_rfl) (by kernel_rfl) (fun _ _ _ h => h) (by rfl) hHeld ?y13 ?r13
   case y13 => (intro w hSw; (try dsimp only at hSw); go_simp; (try with_reducible rfl))
   try simp only [Act.put, pA, pB, pC]
   refine tkH 5 (v := ?v14) (nth rfl) (by kernel_rfl) (by kernel_rfl) (by kernel_rfl) (fun _ _ _ h => h) (by rfl) hHeld ?y14 ?r14
   case y14 => (intro w hSw; (try dsimp only at hSw); go_simp; (try with_reducible rfl))
   try simp only [Act.put, pA, pB, pC]
   refine tkH 6 (v := ?v15) (nth rfl) (by kernel_rfl) (by kernel_rfl) (by kernel_rfl) (fun _ _ _ h => h) (by rfl) hHeld ?y15 ?r15
   case y15 => (intro w hSw; (try dsimp only at hSw); go_simp; (try with_reducible rfl))
   try simp only [Act.put, pA, pB, pC]
   refine tkH 7 (v := ?v16) (nth rfl) (by kernel_rfl) (by kernel_rfl) (by kernel_rfl) (fun _ _ _ h => h) (by rfl) hHeld ?y16 ?r16
   case y16 => (intro w hSw; (try dsimp only at hSw); go_simp; (try with_reducible rfl))
   try simp only [Act.put, pA, pB, pC]
   refine tkH 8 (v := ?v17) (nth rfl) (by kernel_rfl) (by kernel_rfl) (by kernel_rfl) (fun _ _ _ h => h) (by rfl) hHeld ?y17 ?r17
   case y17 => (intro w hSw; (try dsimp only at hSw); go_simp; (try with_reducible rfl))
   try simp only [Act.put, pA, pB, pC]
   refine tkH 9 (v := ?v18) (nth rfl) (by kernel_rfl) (by kernel_rfl) (by kernel_rfl) (fun _ _ _ h => h) (by rfl) hHeld ?y18 ?r18
   case y18 => (intro w hSw; (try dsimp only at hSw); go_simp; (try with_reducible rfl))
   try simp only [Act.put, pA, pB, pC]
   refine tkH 10 (v := ?v19) (nth rfl) (by kernel_rfl) (by kernel_rfl) (by kernel_rfl) (fun _ _ _ h => h) (by rfl) hHeld ?y19 ?r19
   case y19 => (intro w hSw; (try dsimp only at hSw); go_simp; (try with_reducible rfl))
   try simp only [Act.put, pA, pB, pC]
   refine tkH 11 (v := ?v1a) (nth rfl) (by kernel_rfl) (by kernel_rfl) (by kernel_rfl) (fun _ _ _ h => h) (by rfl) hHeld ?y1a ?r1a
   case y1a => (intro w hSw; (try dsimp only at hSw); go_simp; (try with_reducible rfl))
   try simp only [Act.put, pA, pB, pC]
   refine tkH 12 (v := ?v1b) (nth rfl) (by kernel_rfl) (by kernel_rfl) (by kernel_rfl) (fun _ _ _ h => h) (by rfl) hHeld ?y1b ?r1b
   case y1b => (intro w hSw; (try dsimp only at hSw); go_simp; (try with_reducible rfl))
   try simp only [Act.put, pA, pB, pC]
   refine wpAnyH_ready (rs := [13]) (by kernel_rfl) (by simp) ?_
   refine AllReadyH.cons (nth rfl) (fun K hK => ?_) AllReadyH.nil
   go_simp
   refine (HT.out c wr.drew).mono ?_; rintro e w6 ⟨rfl, hb6⟩; have ho6 := Ho.out.below (w' := w6) ((Below.refl wr.heap.size wr).drew.trans hb6); have Hb6 := Lib.hid (Hb.out.trans (((Below.refl wr.heap.size wr).drew.trans hb6).mono Hb.out.size)); have hoc6 := ho6.cell (fill_at false hkl); have hfz6 := ho6.frozen (k + 1); have HG := Lib.hid (ho6.set (k + 1) (atomT r c)).2; have Hst := Lib.hid (ho6.set (k + 1) (atomT r c)).1; have Hbx6 := Lib.hid ((((Below.refl wr.heap.size wr).drew.trans hb6).block _ (lt_of_heap Hbxr.out)).trans Hbxr.out); have hs6 : w.heap.size + 2 ≤ w6.heap.size := Nat.le_trans hsr ((Below.refl wr.heap.size wr).drew.trans hb6).size; clear ho6; go_simp
   refine hK.out _ _ (⟨cell_later hb6 hHeld.1, cell_later hb6 hHeld.2.1, cell_later hb6 hHeld.2.2.1, cell_later hb6 hHeld.2.2.2.1, cell_later hb6 hHeld.2.2.2.2.1, cell_later hb6 hHeld.2.2.2.2.2.1, cell_later hb6 hHeld.2.2.2.2.2.2.1, cell_later hb6 hHeld.2.2.2.2.2.2.2.1, cell_later hb6 hHeld.2.2.2.2.2.2.2.2⟩) (fun hHeld => ?_)
   clear hK K
   try simp only [Act.put, pA, pB, pC]
   refine tkH 14 (v := ?v1c) (nth rfl) (by kernel_rfl) (by kernel_rfl) (by kernel_rfl) (fun _ _ _ h => h) (by rfl) hHeld ?y1c ?r1c
   case y1c => (intro w hSw; (try dsimp only at hSw); go_simp; (try with_reducible rfl))
   try simp only [Act.put, pA, pB, pC]
   refine tkH 15 (v := ?v1d) (nth rfl) (by kernel_rfl) (by kernel_rfl) (by kernel_rfl) (fun _ _ _ h => h) (by rfl) hHeld ?y1d ?r1d
   case y1d => (intro w hSw; (try dsimp only at hSw); go_simp; (try with_reducible rfl))
   try simp only [Act.put, pA, pB, pC]
   refine wpAnyH_ready (rs := [16]) (by kernel_rfl) (by simp) ?_
   refine AllReadyH.cons (nth rfl) (fun K hK => ?_) AllReadyH.nil
   go_simp
   refine hK.out _ _ (⟨HG.out.cell hHeld.1 Hg0.out, HG.out.cell hHeld.2.1 Hgs.out, HG.out.cell hHeld.2.2.1 Hgb.out, HG.out.cell hHeld.2.2.2.1 Hgb.out, HG.out.cell hHeld.2.2.2.2.1 Hgb.out, HG.out.cell hHeld.2.2.2.2.2.1 Hgb.out, HG.out.cell hHeld.2.2.2.2.2.2.1 Hgb.out, HG.out.cell hHeld.2.2.2.2.2.2.2.1 Hgb.out, HG.out.cell hHeld.2.2.2.2.2.2.2.2 Hgb.out⟩) (fun hHeld => ?_)
   clear hK K
   try simp only [Act.put, pA, pB, pC]
   refine wpAnyH_done (by kernel_rfl) (NoPanic.normal ?_) _
   rw [set_fill Hlk.out] at Hst
   clear hHeld hw1 hw2 hw3 hw4
   go_wp2_with fail
   refine ⟨⟨k + 1, by omega, by go_num, below_set Hb6.out (Nat.le_succ _) Hb6.out.size, ?_, Hst.out, by simp [World.setCell]; exact hs6⟩, by simp [intOf]; omega⟩
   exact (HG.out.block _ (lt_of_heap Hbx6.out) Hgb.out).trans Hbx6.out
set_option maxHeartbeats 16000000 in
set_option maxRecDepth 100000 in
theorem fr_at4 {s : List Int} {r : Rx} (cc : Int) (rg : ByteArray) (hfl0 : ∀ p, r.flat p = [⟨4, cc, rg, 0, 0, 0, 0⟩]) (hT : ∀ (c : Int) (w : World), Calls Tryz.prog 73 #[.agg #[.int .i64 4, .int .i32 cc, .string rg, .int .i64 0, .int .i64 0, .int .i64 0, .int .i64 0], .int .i32 c] w fun e w' => TkP (atomT r c) w e w') (hM : ∀ i j, Mt s r i j ↔ (j = i + 1 ∧ ∃ c, s[i]? = some c ∧ atomT r c = true)) : FrAt s r := by
 intro p w v vs inn ys x h1 h2 h3 h4 h5 h6 h7
 obtain ⟨A0, q0, rfl, hA0⟩ := h6.form
 have hx0 : ys[p]? = some ⟨4, cc, rg, 0, 0, 0, 0⟩ := h2 0 _ (by rw [hfl0]; rfl)
 obtain ⟨g, q, rfl, hp, c0, c1, c2, c3, c4, c5, c6⟩ := node_at h1 hx0
 dsimp only at c0 c1 c2 c3 c4 c5 c6
 have hpi : (p : Int) < ys.length := by omega
 obtain ⟨As, qs, rfl, -, -, -⟩ := ownsRow_slice h4
 have hmk := run_make_flags x.length (by omega)
 have H1 := Lib.hid h1
 have H2 := Lib.hid h2
 have H4 := Lib.hid h4
 have H6 := Lib.hid h6
 have H7 := Lib.hid h7
 have HA0 := Lib.hid hA0
 have hxl : x.length ≤ 100001 := by omega
 have hx0l : 0 < x.length := by omega
 clear h1 h2 h4 h6 h7 hx0 hA0
 have hb2 : Below w.heap.size w ((w.alloc (.cells #[.int .i64 4, .int .i32 cc, .string rg, .int .i64 0, .int .i64 0, .int .i64 0, .int .i64 0] 60)).alloc (.cells (Array.replicate x.length (.bool false)) 4)) := ((Below.refl _ _).alloc (Nat.le_refl w.heap.size) _).alloc (by simp) _
 have hfl : Fls ((w.alloc (.cells #[.int .i64 4, .int .i32 cc, .string rg, .int .i64 0, .int .i64 0, .int .i64 0, .int .i64 0] 60)).alloc (.cells (Array.replicate x.length (.bool false)) 4)) 0 (.slice (some ⟨w.heap.size + 1, 0, none⟩) x.length x.length) (List.replicate x.length false) := by have h9 := fls_made (w.alloc (.cells #[.int .i64 4, .int .i32 cc, .string rg, .int .i64 0, .int .i64 0, .int .i64 0, .int .i64 0] 60)) x.length (by omega) (Nat.zero_le _); rwa [show (w.alloc (.cells #[.int .i64 4, .int .i32 cc, .string rg, .int .i64 0, .int .i64 0, .int .i64 0, .int .i64 0] 60)).heap.size = w.heap.size + 1 by simp] at h9
 have hbx : (((w.alloc (.cells #[.int .i64 4, .int .i32 cc, .string rg, .int .i64 0, .int .i64 0, .int .i64 0, .int .i64 0] 60)).alloc (.cells (Array.replicate x.length (.bool false)) 4))).heap[w.heap.size]? = some (.cells #[.int .i64 4, .int .i32 cc, .string rg, .int .i64 0, .int .i64 0, .int .i64 0, .int .i64 0] 60 (0, 0)) := ((alloc_below (w.alloc (.cells #[.int .i64 4, .int .i32 cc, .string rg, .int .i64 0, .int .i64 0, .int .i64 0, .int .i64 0] 60)) (.cells (Array.replicate x.length (.bool false)) 4)).block _ (by simp)).trans (heap_alloc_new w _)
 have HT := Lib.hid hT
 have HM := Lib.hid hM
 have Hb2 := Lib.hid hb2
 have Hfl := Lib.hid hfl
 have Hbx := Lib.hid hbx
 have d0 := row_cell hbx (j := 0) (u := .int .i64 4) rfl
 have hsz : (((w.alloc (.cells #[.int .i64 4, .int .i32 cc, .string rg, .int .i64 0, .int .i64 0, .int .i64 0, .int .i64 0] 60)).alloc (.cells (Array.replicate x.length (.bool false)) 4))).heap.size = w.heap.size + 2 := by simp
 clear hfl hb2 hbx hT hM hfl0
 go_enter Tryz.func48, Tryz.ntmps48
 go_upto_region 3 with fail
 generalize ((w.alloc (.cells #[.int .i64 4, .int .i32 cc, .string rg, .int .i64 0, .int .i64 0, .int .i64 0, .int .i64 0] 60)).alloc (.cells (Array.replicate x.length (.bool false)) 4)) = w2 at *
 obtain ⟨l, hl⟩ : ∃ l, (false :: zsL r x s) = l := ⟨_, rfl⟩
 have Hl := Lib.hid hl
 have Hll := Lib.hid (show l.length = x.length by rw [← hl]; exact zs_len H7.out)
 clear hl
 go_wp2_with fail
 go_loopw [11] (fun s11 wr => AtRel w l #[.int .i64 4, .int .i32 cc, .string rg, .int .i64 0, .int .i64 0, .int .i64 0, .int .i64 0] x.length s11 wr) (fun v _ => s.length - (intOf v).toNat)
 case atStart =>
  refine ⟨0, by rw [Hll.out]; omega, rfl, Hb2.out, Hbx.out, ?_, by omega⟩
  have h9 := Hfl.out
  rw [← Hl.out] at Hll ⊢
  rw [Hll.out]
  rw [show x.length = (x.length - (0 + 1)) + 1 by omega, List.replicate_succ] at h9
  rw [show x.length - (0 + 1) + 1 = x.length by omega] at h9
  exact h9
 case round =>
  obtain ⟨k, hk, rfl, hb, hbx, ho, hsr⟩ := hrel
  have hk2 : k ≤ s.length := by have := Hll.out; have := H7.out; omega
  have Hb := Lib.hid hb
  have Ho := Lib.hid ho
  have Hbxr := Lib.hid hbx
  by_cases hlt : k < s.length
  case neg =>
   obtain rfl : k = s.length := by omega
   have hlx : l.length = s.length + 1 := by rw [Hll.out, H7.out]
   rw [← hlx, List.take_length, Nat.sub_self, List.replicate_zero, List.append_nil] at Ho
   have Hlx := Lib.hid hlx
   clear hb hbx ho hlx
   go_wp2_with fail
   go_ret
   refine ⟨l, some ⟨w.heap.size + 1, 0, none⟩, x.length, by rw [Hll.out]; rfl, Hb.out, by rw [Hll.out]; exact Ho.out, ?_⟩
   rw [← Hl.out]
   exact (img_atom H7.out).wk (fun i j => (HM.out i j).symm)
  obtain ⟨g0, rfl⟩ := HA0.out (by omega)
  have hAs : ∃ gs, As = some ⟨gs, 0, none⟩ := by
   obtain ⟨_, _, e, _, _, hA⟩ := ownsRow_slice H4.out
   obtain ⟨gs, e'⟩ := hA (by omega)
   exact ⟨gs, (Value.slice.inj e).1.trans e'⟩
  obtain ⟨gs, rfl⟩ := hAs
  obtain ⟨b, hbk⟩ : ∃ b, x[k]? = some b := ⟨_, List.getElem?_eq_getElem (by have := H7.out; omega)⟩
  obtain ⟨c, hck⟩ : ∃ c, s[k]? = some c := ⟨_, List.getElem?_eq_getElem hlt⟩
  have Hg0 := Lib.hid (show some g0 ≠ some (w.heap.size + 1) from fun e => by obtain ⟨_, _, h9⟩ := ownsRow_block H6.out (g := g0) rfl; have := lt_of_heap h9; injection e with e; omega)
  have Hgs := Lib.hid (show some gs ≠ some (w.heap.size + 1) from fun e => by obtain ⟨_, _, h9⟩ := ownsRow_block H4.out (g := gs) rfl; have := lt_of_heap h9; injection e with e; omega)
  have Hgb := Lib.hid (show some w.heap.size ≠ some (w.heap.size + 1) from fun e => by injection e with e; omega)
  have e1 := (H6.out.below hb).cell hbk
  have e2 := ownsRow_cell (H4.out.below hb) rfl k (by omega)
  rw [List.getElem?_map, hck] at e2
  simp only [Option.map_some, runeV] at e2
  have f0 := row_cell hbx (j := 0) (u := .int .i64 4) rfl
  have f1 := row_cell hbx (j := 1) (u := .int .i32 cc) rfl
  have f2 := row_cell hbx (j := 2) (u := .string rg) rfl
  have f3 := row_cell hbx (j := 3) (u := .int .i64 0) rfl
  have f4 := row_cell hbx (j := 4) (u := .int .i64 0) rfl
  have f5 := row_cell hbx (j := 5) (u := .int .i64 0) rfl
  have f6 := row_cell hbx (j := 6) (u := .int .i64 0) rfl
  have HS := Lib.hid (And.intro e1 (And.intro e2 (And.intro f0 (And.intro f1 (And.intro f2 (And.intro f3 (And.intro f4 (And.intro f5 f6))))))))
  have hkl : k + 1 < l.length := by have := Hll.out; have := H7.out; omega
  have hlk : l[k + 1]? = some (b && atomT r c) := by rw [← Hl.out]; exact zs_get hbk hck
  have hfz := ho.frozen (k + 1)
  have hoc := ho.cell (fill_at false hkl)
  have hki : (k : Int) < s.length := by omega
  have hkx : (k : Int) < x.length := by have := H7.out; omega
  have Hlk := Lib.hid hlk
  have Hoc := Lib.hid hoc
  have Hfz := Lib.hid hfz
  clear e1 e2 f0 f1 f2 f3 f4 f5 f6 hb hbx ho hbk hck hlk hoc hfz
  go_wp2_with fail
  have hw1 : IntKind.i64.wrap ((k : Int) + 1) = (k : Int) + 1 := IntWalk.i64_in _ (by omega)
  have hw2 : ((k : Int) + 1).toNat = k + 1 := by omega
  have hw3 : (0 : Int) ≤ (k : Int) + 1 := by omega
  have hw4 : (k : Int) + 1 < x.length := by have := H7.out; omega
  cases b
  case false =>
   have hst := Ho.out.set (k + 1) false
   rw [set_fill (show l[k + 1]? = some false by rw [Hlk.out]; rfl)] at hst
   have HG := Lib.hid (show wr.drew.grownBy (wr.drew.setCell ⟨w.heap.size + 1, k + 1, none⟩ (.bool false)) (some (w.heap.size + 1)) from ⟨rfl, rfl, rfl, by simp, fun i _ hi => Below.heap_setCell wr.drew ⟨w.heap.size + 1, k + 1, none⟩ (.bool false) i (fun e => hi (by rw [e]))⟩)
   have Hst := Lib.hid hst.1
   clear hst
   have hocd : wr.drew.cell? ⟨w.heap.size + 1, k + 1, none⟩ = some (.bool false) := Hoc.out
   have hfzd : wr.drew.frozen? ⟨w.heap.size + 1, k + 1, none⟩ = false := Hfz.out
   refine wp_region_noPanic ?_
   refine wp_region_held_drew (S := fun w' => w'.cell? ⟨g0, k, none⟩ = some (.bool false) ∧ w'.cell? ⟨gs, k, none⟩ = some (.int .i32 c) ∧ w'.cell? ⟨w.heap.size, 0, none⟩ = some (.int .i64 4) ∧ w'.cell? ⟨w.heap.size, 1, none⟩ = some (.int .i32 cc) ∧ w'.cell? ⟨w.heap.size, 2, none⟩ = some (.string rg) ∧ w'.cell? ⟨w.heap.size, 3, none⟩ = some (.int .i64 0) ∧ w'.cell? ⟨w.heap.size, 4, none⟩ = some (.int .i64 0) ∧ w'.cell? ⟨w.heap.size, 5, none⟩ = some (.int .i64 0) ∧ w'.cell? ⟨w.heap.size, 6, none⟩ = some (.int .i64 0)) (by kernel_rfl) (HS.out) (fun hHeld => ?_)
   refine tkH 0 (v := ?v1e) (nth rfl) (by kernel_rfl) (by kernel_rfl) (by kernel_rfl) (fun _ _ _ h => h) (by rfl) hHeld ?y1e ?r1e
   case y1e => (intro w hSw; (try dsimp only at hSw); go_simp; (try with_reducible rfl))
   try simp only [Act.put, pA, pB, pC]
   refine tkH 1 (v := ?v1f) (nth rfl) (by kernel_rfl) (by kernel_rfl) (by kernel_rfl) (fun _ _ _ h => h) (by rfl) hHeld ?y1f ?r1f
   case y1f => (intro w hSw; (try dsimp only at hSw); go_simp; (try with_reducible rfl))
   try simp only [Act.put, pA, pB, pC]
   refine tkH 2 (v := ?v1g) (nth rfl) (by kernel_rfl) (by kernel_rfl) (by kernel_rfl) (fun _ _ _ h => h) (by rfl) hHeld ?y1g ?r1g
   case y1g => (intro w hSw; (try dsimp only at hSw); go_simp; (try with_reducible rfl))
   try simp only [Act.put, pA, pB, pC]
   refine tkH 3 (v := ?v1h) (nth rfl) (by kernel_rfl) (by kernel_rfl) (by kernel_rfl) (fun _ _ _ h => h) (by rfl) hHeld ?y1h ?r1h
   case y1h => (intro w hSw; (try dsimp only at hSw); go_simp; (try with_reducible rfl))
   try simp only [Act.put, pA, pB, pC]
   refine tkH 4 (v := ?v1i) (nth rfl) (by kernel_rfl) (by kernel_rfl) (by kernel_rfl) (fun _ _ _ h => h) (by rfl) hHeld ?y1i ?r1i
   case y1i => (intro w hSw; (try dsimp only at hSw); go_simp; (try with_reducible rfl))
   try simp only [Act.put, pA, pB, pC]
   refine tkH 5 (v := ?v1j) (nth rfl) (by kernel_rfl) (by kernel_rfl) (by kernel_rfl) (fun _ _ _ h => h) (by rfl) hHeld ?y1j ?r1j
   case y1j => (intro w hSw; (try dsimp only at hSw); go_simp; (try with_reducible rfl))
   try simp only [Act.put, pA, pB, pC]
   refine tkH 6 (v := ?v1k) (nth rfl) (by kernel_rfl) (by kernel_rfl) (by kernel_rfl) (fun _ _ _ h => h) (by rfl) hHeld ?y1k ?r1k
   case y1k => (intro w hSw; (try dsimp only at hSw); go_simp; (try with_reducible rfl))
   try simp only [Act.put, pA, pB, pC]
   refine tkH 7 (v := ?v1l) (nth rfl) (by kernel_rfl) (by kernel_rfl) (by kernel_rfl) (fun _ _ _ h => h) (by rfl) hHeld ?y1l ?r1l
   case y1l => (intro w hSw; (try dsimp only at hSw); go_simp; (try with_reducible rfl))
   try simp only [Act.put, pA, pB, pC]
   refine wpAnyH_take (i := 8) (v := undef) (nth rfl) (by kernel_rfl) (by kernel_rfl) (by kernel_rfl) (fun _ _ _ h => h) (Or.inr ⟨by rfl, rfl⟩) hHeld ?restr12_From_12_54_8
   try simp only [Act.put, pA, pB, pC]
   refine wpAnyH_take (i := 9) (v := undef) (nth rfl) (by kernel_rfl) (by kernel_rfl) (by kernel_rfl) (fun _ _ _ h => h) (Or.inr ⟨by rfl, rfl⟩) hHeld ?restr12_From_12_54_9
   try simp only [Act.put, pA, pB, pC]
   refine wpAnyH_take (i := 10) (v := undef) (nth rfl) (by kernel_rfl) (by kernel_rfl) (by kernel_rfl) (fun _ _ _ h => h) (Or.inr ⟨by rfl, rfl⟩) hHeld ?restr12_From_12_54_10
   try simp only [Act.put, pA, pB, pC]
   refine wpAnyH_take (i := 11) (v := undef) (nth rfl) (by kernel_rfl) (by kernel_rfl) (by kernel_rfl) (fun _ _ _ h => h) (Or.inr ⟨by rfl, rfl⟩) hHeld ?restr12_From_12_54_11
   try simp only [Act.put, pA, pB, pC]
   refine wpAnyH_take (i := 12) (v := undef) (nth rfl) (by kernel_rfl) (by kernel_rfl) (by kernel_rfl) (fun _ _ _ h => h) (Or.inr ⟨by rfl, rfl⟩) hHeld ?restr12_From_12_54_12
   try simp only [Act.put, pA, pB, pC]
   refine wpAnyH_ready (rs := [13]) (by kernel_rfl) (by simp) ?_
   refine AllReadyH.cons (nth rfl) (fun K hK => ?_) AllReadyH.nil
   go_simp
   refine hK.out _ _ (hHeld) (fun hHeld => ?_)
   clear hK K
   try simp only [Act.put, pA, pB, pC]
   refine tkH 14 (v := ?v1m) (nth rfl) (by kernel_rfl) (by kernel_rfl) (by kernel_rfl) (fun _ _ _ h => h) (by rfl) hHeld ?y1m ?r1m
   case y1m => (intro w hSw; (try dsimp only at hSw); go_simp; (try with_reducible rfl))
   try simp only [Act.put, pA, pB, pC]
   refine tkH 15 (v := ?v1n) (nth rfl) (by kernel_rfl) (by kernel_rfl) (by kernel_rfl) (fun _ _ _ h => h) (by rfl) hHeld ?y1n ?r1n
   case y1n => (intro w hSw; (try dsimp only at hSw); go_simp; (try with_reducible rfl))
   try simp only [Act.put, pA, pB, pC]
   refine wpAnyH_ready (rs := [16]) (by kernel_rfl) (by simp) ?_
   refine AllReadyH.cons (nth rfl) (fun K hK => ?_) AllReadyH.nil
   go_simp
   refine hK.out _ _ (⟨HG.out.cell hHeld.1 Hg0.out, HG.out.cell hHeld.2.1 Hgs.out, HG.out.cell hHeld.2.2.1 Hgb.out, HG.out.cell hHeld.2.2.2.1 Hgb.out, HG.out.cell hHeld.2.2.2.2.1 Hgb.out, HG.out.cell hHeld.2.2.2.2.2.1 Hgb.out, HG.out.cell hHeld.2.2.2.2.2.2.1 Hgb.out, HG.out.cell hHeld.2.2.2.2.2.2.2.1 Hgb.out, HG.out.cell hHeld.2.2.2.2.2.2.2.2 Hgb.out⟩) (fun hHeld => ?_)
   clear hK K
   try simp only [Act.put, pA, pB, pC]
   refine wpAnyH_done (by kernel_rfl) (NoPanic.normal ?_) _
   clear hHeld hw1 hw2 hw3 hw4
   go_wp2_with fail
   refine ⟨⟨k + 1, by omega, by go_num, below_set Hb.out.drew (Nat.le_succ _) (by have := Hb.out.size; exact this), ?_, Hst.out, by simp [World.setCell]; exact hsr⟩, by simp [intOf]; omega⟩
   exact (HG.out.block _ (lt_of_heap Hbxr.out) Hgb.out).trans Hbxr.out
  case true =>
   rw [Bool.true_and] at Hlk
   refine wp_region_noPanic ?_
   refine wp_region_held_drew (S := fun w' => w'.cell? ⟨g0, k, none⟩ = some (.bool true) ∧ w'.cell? ⟨gs, k, none⟩ = some (.int .i32 c) ∧ w'.cell? ⟨w.heap.size, 0, none⟩ = some (.int .i64 4) ∧ w'.cell? ⟨w.heap.size, 1, none⟩ = some (.int .i32 cc) ∧ w'.cell? ⟨w.heap.size, 2, none⟩ = some (.string rg) ∧ w'.cell? ⟨w.heap.size, 3, none⟩ = some (.int .i64 0) ∧ w'.cell? ⟨w.heap.size, 4, none⟩ = some (.int .i64 0) ∧ w'.cell? ⟨w.heap.size, 5, none⟩ = some (.int .i64 0) ∧ w'.cell? ⟨w.heap.size, 6, none⟩ = some (.int .i64 0)) (by kernel_rfl) (HS.out) (fun hHeld => ?_)
   refine tkH 0 (v := ?v1o) (nth rfl) (by kernel_rfl) (by kernel_rfl) (by kernel_rfl) (fun _ _ _ h => h) (by rfl) hHeld ?y1o ?r1o
   case y1o => (intro w hSw; (try dsimp only at hSw); go_simp; (try with_reducible rfl))
   try simp only [Act.put, pA, pB, pC]
   refine tkH 1 (v := ?v1p) (nth rfl) (by kernel_rfl) (by kernel_rfl) (by kernel_rfl) (fun _ _ _ h => h) (by rfl) hHeld ?y1p ?r1p
   case y1p => (intro w hSw; (try dsimp only at hSw); go_simp; (try with_reducible rfl))
   try simp only [Act.put, pA, pB, pC]
   refine tkH 2 (v := ?v1q) (nth rfl) (by kernel_rfl) (by kernel_rfl) (by kernel_rfl) (fun _ _ _ h => h) (by rfl) hHeld ?y1q ?r1q
   case y1q => (intro w hSw; (try dsimp only at hSw); go_simp; (try with_reducible rfl))
   try simp only [Act.put, pA, pB, pC]
   refine tkH 3 (v := ?v1r) (nth rfl) (by kernel_rfl) (by kernel_rfl) (by kernel_rfl) (fun _ _ _ h => h) (by rfl) hHeld ?y1r ?r1r
   case y1r => (intro w hSw; (try dsimp only at hSw); go_simp; (try with_reducible rfl))
   try simp only [Act.put, pA, pB, pC]
   refine tkH 4 (v := ?v1s) (nth rfl) (by kernel_rfl) (by kernel_rfl) (by kernel_rfl) (fun _ _ _ h => h) (by rfl) hHeld ?y1s ?r1s
   case y1s => (intro w hSw; (try dsimp only at hSw); go_simp; (try with_reducible rfl))
   try simp only [Act.put, pA, pB, pC]
   refine tkH 5 (v := ?v1t) (nth rfl) (by kernel_rfl) (by kernel_rfl) (by kernel_rfl) (fun _ _ _ h => h) (by rfl) hHeld ?y1t ?r1t
   case y1t => (intro w hSw; (try dsimp only at hSw); go_simp; (try with_reducible rfl))
   try simp only [Act.put, pA, pB, pC]
   refine tkH 6 (v := ?v1u) (nth rfl) (by kernel_rfl) (by kernel_rfl) (by kernel_rfl) (fun _ _ _ h => h) (by rfl) hHeld ?y1u ?r1u
   case y1u => (intro w hSw; (try dsimp only at hSw); go_simp; (try with_reducible rfl))
   try simp only [Act.put, pA, pB, pC]
   refine tkH 7 (v := ?v1v) (nth rfl) (by kernel_rfl) (by kernel_rfl) (by kernel_rfl) (fun _ _ _ h => h) (by rfl) hHeld ?y1v ?r1v
   case y1v => (intro w hSw; (try dsimp only at hSw); go_simp; (try with_reducible rfl))
   try simp only [Act.put, pA, pB, pC]
   refine tkH 8 (v := ?v1w) (nth rfl) (by kernel_rfl) (by kernel_rfl) (by kernel_rfl) (fun _ _ _ h => h) (by rfl) hHeld ?y1w ?r1w
   case y1w => (intro w hSw; (try dsimp only at hSw); go_simp; (try with_reducible rfl))
   try simp only [Act.put, pA, pB, pC]
   refine tkH 9 (v := ?v1x) (nth rfl) (by kernel_rfl) (by kernel_rfl) (by kernel_rfl) (fun _ _ _ h => h) (by rfl) hHeld ?y1x ?r1x
   case y1x => (intro w hSw; (try dsimp only at hSw); go_simp; (try with_reducible rfl))
   try simp only [Act.put, pA, pB, pC]
   refine tkH 10 (v := ?v1y) (nth rfl) (by kernel_rfl) (by kernel_rfl) (by kernel_rfl) (fun _ _ _ h => h) (by rfl) hHeld ?y1y ?r1y
   case y1y => (intro w hSw; (try dsimp only at hSw); go_simp; (try with_reducible rfl))
   try simp only [Act.put, pA, pB, pC]
   refine tkH 11 (v := ?v1z) (nth rfl) (by kernel_rfl) (by kernel_rfl) (by kernel_rfl) (fun _ _ _ h => h) (by rfl) hHeld ?y1z ?r1z
   case y1z => (intro w hSw; (try dsimp only at hSw); go_simp; (try with_reducible rfl))
   try simp only [Act.put, pA, pB, pC]
   refine tkH 12 (v := ?v20) (nth rfl) (by kernel_rfl) (by kernel_rfl) (by kernel_rfl) (fun _ _ _ h => h) (by rfl) hHeld ?y20 ?r20
   case y20 => (intro w hSw; (try dsimp only at hSw); go_simp; (try with_reducible rfl))
   try simp only [Act.put, pA, pB, pC]
   refine wpAnyH_ready (rs := [13]) (by kernel_rfl) (by simp) ?_
   refine AllReadyH.cons (nth rfl) (fun K hK => ?_) AllReadyH.nil
   go_simp
   refine (HT.out c wr.drew).mono ?_; rintro e w6 ⟨rfl, hb6⟩; have ho6 := Ho.out.below (w' := w6) ((Below.refl wr.heap.size wr).drew.trans hb6); have Hb6 := Lib.hid (Hb.out.trans (((Below.refl wr.heap.size wr).drew.trans hb6).mono Hb.out.size)); have hoc6 := ho6.cell (fill_at false hkl); have hfz6 := ho6.frozen (k + 1); have HG := Lib.hid (ho6.set (k + 1) (atomT r c)).2; have Hst := Lib.hid (ho6.set (k + 1) (atomT r c)).1; have Hbx6 := Lib.hid ((((Below.refl wr.heap.size wr).drew.trans hb6).block _ (lt_of_heap Hbxr.out)).trans Hbxr.out); have hs6 : w.heap.size + 2 ≤ w6.heap.size := Nat.le_trans hsr ((Below.refl wr.heap.size wr).drew.trans hb6).size; clear ho6; go_simp
   refine hK.out _ _ (⟨cell_later hb6 hHeld.1, cell_later hb6 hHeld.2.1, cell_later hb6 hHeld.2.2.1, cell_later hb6 hHeld.2.2.2.1, cell_later hb6 hHeld.2.2.2.2.1, cell_later hb6 hHeld.2.2.2.2.2.1, cell_later hb6 hHeld.2.2.2.2.2.2.1, cell_later hb6 hHeld.2.2.2.2.2.2.2.1, cell_later hb6 hHeld.2.2.2.2.2.2.2.2⟩) (fun hHeld => ?_)
   clear hK K
   try simp only [Act.put, pA, pB, pC]
   refine tkH 14 (v := ?v21) (nth rfl) (by kernel_rfl) (by kernel_rfl) (by kernel_rfl) (fun _ _ _ h => h) (by rfl) hHeld ?y21 ?r21
   case y21 => (intro w hSw; (try dsimp only at hSw); go_simp; (try with_reducible rfl))
   try simp only [Act.put, pA, pB, pC]
   refine tkH 15 (v := ?v22) (nth rfl) (by kernel_rfl) (by kernel_rfl) (by kernel_rfl) (fun _ _ _ h => h) (by rfl) hHeld ?y22 ?r22
   case y22 => (intro w hSw; (try dsimp only at hSw); go_simp; (try with_reducible rfl))
   try simp only [Act.put, pA, pB, pC]
   refine wpAnyH_ready (rs := [16]) (by kernel_rfl) (by simp) ?_
   refine AllReadyH.cons (nth rfl) (fun K hK => ?_) AllReadyH.nil
   go_simp
   refine hK.out _ _ (⟨HG.out.cell hHeld.1 Hg0.out, HG.out.cell hHeld.2.1 Hgs.out, HG.out.cell hHeld.2.2.1 Hgb.out, HG.out.cell hHeld.2.2.2.1 Hgb.out, HG.out.cell hHeld.2.2.2.2.1 Hgb.out, HG.out.cell hHeld.2.2.2.2.2.1 Hgb.out, HG.out.cell hHeld.2.2.2.2.2.2.1 Hgb.out, HG.out.cell hHeld.2.2.2.2.2.2.2.1 Hgb.out, HG.out.cell hHeld.2.2.2.2.2.2.2.2 Hgb.out⟩) (fun hHeld => ?_)
   clear hK K
   try simp only [Act.put, pA, pB, pC]
   refine wpAnyH_done (by kernel_rfl) (NoPanic.normal ?_) _
   rw [set_fill Hlk.out] at Hst
   clear hHeld hw1 hw2 hw3 hw4
   go_wp2_with fail
   refine ⟨⟨k + 1, by omega, by go_num, below_set Hb6.out (Nat.le_succ _) Hb6.out.size, ?_, Hst.out, by simp [World.setCell]; exact hs6⟩, by simp [intOf]; omega⟩
   exact (HG.out.block _ (lt_of_heap Hbx6.out) Hgb.out).trans Hbx6.out
end Go.Proofs.YthhnmpkgleelfaaGreatDoor
