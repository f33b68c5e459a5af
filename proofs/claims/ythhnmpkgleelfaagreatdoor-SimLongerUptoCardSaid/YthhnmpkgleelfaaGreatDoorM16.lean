import Derived.Test.YthhnmpkgleelfaaGreatDoorM12
import Derived.StillTailTactics
import Derived.Test.YthhnmpkgleelfaaGreatDoorM15
set_option linter.unusedVariables false
set_option linter.unusedSimpArgs false
namespace Go.Proofs.YthhnmpkgleelfaaGreatDoor
open Go.RowKit
theorem flatS_nil_iff {L : Spans} (h : (flatS L).length = 0) : L = [] := by
 rw [flatS_len] at h
 exact List.eq_nil_of_length_eq_zero (by omega)
theorem rplaced_any {w : World} {A : Option Addr} {n q : Nat} {L : Spans} (h : Rns w 0 (.slice A n q) (flatS L)) (hl : L.length ≤ 100000) (a b : Int) (hb : ∀ p ∈ L, -10 ≤ p.1 ∧ p.1 ≤ 1114120) : Calls Tryz.prog 166 #[.slice A n q, .int .i32 a, .int .i32 b] w fun e w' => PlP w L a b e w' := by
 rcases ownsRow_form h with ⟨e, hn, _⟩ | ⟨g, cap, e, _, _, _⟩
 ·obtain ⟨rfl, rfl, rfl⟩ := Value.slice.inj e
  obtain rfl := flatS_nil_iff hn
  exact rplaced_nil a b
 ·obtain ⟨rfl, rfl, rfl⟩ := Value.slice.inj e
  rw [flatS_len] at h ⊢
  exact rplaced_some h hl a b hb
def InRel (wo : World) (O : Spans) (a0 b0 : Int) (s5 s6 s7 s8 : Value) (wr : World) : Prop := ∃ (i : Nat) (a b : Int) (pre : Spans) (A : Option Addr) (q : Nat), i ≤ O.length ∧ s5 = .int .i32 a ∧ s6 = .int .i32 b ∧ s7 = .slice A (2 * pre.length) q ∧ s8 = .int .i64 (2 * (i : Int)) ∧ Below wo.heap.size wo wr ∧ Rns wr wo.heap.size (.slice A (2 * pre.length) q) (flatS pre) ∧ pre.length ≤ i ∧ (0 ≤ a ∧ a ≤ 1114111) ∧ (0 ≤ b ∧ b ≤ 1114111) ∧
 mergeF O a0 b0 = ((mergeF (O.drop i) a b).1, (mergeF (O.drop i) a b).2.1, pre ++ (mergeF (O.drop i) a b).2.2)
theorem mergeF_keep {p : Int × Int} {l : Spans} {a b : Int} (h : p.2 + 1 < a ∨ b + 1 < p.1) : mergeF (p :: l) a b = ((mergeF l a b).1, (mergeF l a b).2.1, p :: (mergeF l a b).2.2) := by
 conv => lhs; unfold mergeF
 rw [if_pos h]
theorem mergeF_join {p : Int × Int} {l : Spans} {a b : Int} (h : ¬ (p.2 + 1 < a ∨ b + 1 < p.1)) : mergeF (p :: l) a b = mergeF l (min a p.1) (max b p.2) := by
 conv => lhs; unfold mergeF
 rw [if_neg h]
def OutRel (w : World) (L : Spans) (s3 s4 : Value) (wr : World) : Prop := ∃ (i : Nat) (O : Spans) (A : Option Addr) (q : Nat), i ≤ L.length ∧ s3 = .slice A (2 * O.length) q ∧ s4 = .int .i64 (2 * (i : Int)) ∧ Below w.heap.size w wr ∧ Rns wr w.heap.size (.slice A (2 * O.length) q) (flatS O) ∧ GapsS O ∧ O.length ≤ i ∧ (∀ c, inSp O c ↔ inSp (L.take i) c) ∧ (∀ p ∈ O, 0 ≤ p.1 ∧ p.1 ≤ 1114111 ∧ 0 ≤ p.2 ∧ p.2 ≤ 1114111)
def RiP (w : World) (L : Spans) (e : Ending) (w' : World) : Prop := ∃ (O : Spans) (A : Option Addr) (q : Nat), e = .returned (.slice A (2 * O.length) q) ∧ Below w.heap.size w w' ∧ Rns w' w.heap.size (.slice A (2 * O.length) q) (flatS O) ∧ GapsS O ∧ O.length ≤ L.length ∧ (∀ c, inSp O c ↔ inSp L c) ∧ (∀ p ∈ O, 0 ≤ p.1 ∧ p.1 ≤ 1114111 ∧ 0 ≤ p.2 ∧ p.2 ≤ 1114111)
theorem out_next {L O : Spans} {i j : Nat} {a0 b0 : Int} (hx : L[i]? = some (a0, b0)) (hab : a0 ≤ b0) (h0 : 0 ≤ a0 ∧ b0 ≤ 1114111) (hg : GapsS O) (hm : ∀ c, inSp O c ↔ inSp (L.take i) c) (hb : ∀ p ∈ O, 0 ≤ p.1 ∧ p.1 ≤ 1114111 ∧ 0 ≤ p.2 ∧ p.2 ≤ 1114111)
  (h1 : ∀ p ∈ (mergeF O a0 b0).2.2.take j, p.1 < (mergeF O a0 b0).1) (h2 : ∀ p, (mergeF O a0 b0).2.2[j]? = some p → (mergeF O a0 b0).1 ≤ p.1) :
  GapsS ((mergeF O a0 b0).2.2.take j ++ ((mergeF O a0 b0).1, (mergeF O a0 b0).2.1) :: (mergeF O a0 b0).2.2.drop j) ∧ (∀ c, inSp ((mergeF O a0 b0).2.2.take j ++ ((mergeF O a0 b0).1, (mergeF O a0 b0).2.1) :: (mergeF O a0 b0).2.2.drop j) c ↔ inSp (L.take (i + 1)) c) ∧
  (∀ p ∈ (mergeF O a0 b0).2.2.take j ++ ((mergeF O a0 b0).1, (mergeF O a0 b0).2.1) :: (mergeF O a0 b0).2.2.drop j, 0 ≤ p.1 ∧ p.1 ≤ 1114111 ∧ 0 ≤ p.2 ∧ p.2 ≤ 1114111) ∧ (0 ≤ (mergeF O a0 b0).1 ∧ (mergeF O a0 b0).1 ≤ 1114111) ∧ (0 ≤ (mergeF O a0 b0).2.1 ∧ (mergeF O a0 b0).2.1 ≤ 1114111) := by
 have M := merge_spec O a0 b0 hg hab
 have hl1 := M.le1; have hl2 := M.le2
 obtain ⟨k1, k2⟩ := placed_spec (j := j) M.gaps (by omega) M.sep h1 h2
 have ha : 0 ≤ (mergeF O a0 b0).1 ∧ (mergeF O a0 b0).1 ≤ 1114111 := by
  rcases M.lo' with h | ⟨r, hr, h⟩
  ·rw [h]; omega
  ·have := hb r hr; rw [h]; omega
 have hb' : 0 ≤ (mergeF O a0 b0).2.1 ∧ (mergeF O a0 b0).2.1 ≤ 1114111 := by
  rcases M.hi' with h | ⟨r, hr, h⟩
  ·rw [h]; omega
  ·have := hb r hr; rw [h]; omega
 refine ⟨k1, fun c => ?_, fun p hp => ?_, ha, hb'⟩
 ·rw [k2, M.mem, hm, take_next hx, inSp_append]
  have : inSp [(a0, b0)] c ↔ (a0 ≤ c ∧ c ≤ b0) := by simp [inSp]
  rw [this]
 ·rcases List.mem_append.1 hp with hp | hp
  ·exact hb p (M.sub p (List.mem_of_mem_take hp))
  ·rcases List.mem_cons.1 hp with rfl | hp
   ·exact ⟨ha.1, ha.2, hb'.1, hb'.2⟩
   ·exact hb p (M.sub p (List.mem_of_mem_drop hp))
set_option maxHeartbeats 8000000 in
set_option maxRecDepth 100000 in
theorem rrising_any {w : World} {A0 : Option Addr} {n0 q0 : Nat} {L : Spans} (h : Rns w 0 (.slice A0 n0 q0) (flatS L)) (hl : L.length ≤ 10000) (hok : ∀ p ∈ L, 0 ≤ p.1 ∧ p.1 ≤ p.2 ∧ p.2 ≤ 1114111) : Calls Tryz.prog 149 #[.slice A0 n0 q0] w fun e w' => RiP w L e w' := by
 obtain ⟨_, _, e, hq0, _, hA0⟩ := ownsRow_slice h
 obtain ⟨rfl, rfl, rfl⟩ := Value.slice.inj e
 clear e
 rw [flatS_len] at hq0 hA0 ⊢
 have H := Lib.hid h
 have HA := Lib.hid hA0
 have Hok := Lib.hid hok
 clear h hA0 hok
 go_enter Tryz.func149, Tryz.ntmps149
 go_wp2_with fail
 go_loopw [3, 4, 5, 6, 7, 8] (fun s3 s4 _ _ _ _ wr => OutRel w L s3 s4 wr) (fun _ v _ _ _ _ _ => 2 * L.length - (intOf v).toNat)
 case atStart => exact ⟨0, [], none, 0, Nat.zero_le _, rfl, rfl, Below.refl _ _, Rns.nil _ _, GapsS.nil, Nat.le_refl _, fun c => by simp, by simp⟩
 case round =>
  obtain ⟨i, O, A, q, hi, rfl, rfl, hb, ho, hg, hOl, hm, hbd⟩ := hrel
  have Hb := Lib.hid hb
  have hbs := hb.size
  have Ho := Lib.hid ho
  have Hg := Lib.hid hg
  have Hm := Lib.hid hm
  have Hbd := Lib.hid hbd
  by_cases hlt : i < L.length
  ·obtain ⟨g, rfl⟩ := HA.out (by omega)
   obtain ⟨⟨a0, b0⟩, hx⟩ : ∃ x, L[i]? = some x := ⟨_, List.getElem?_eq_getElem hlt⟩
   obtain ⟨ga, gb⟩ := flatS_get L i a0 b0 hx
   have hrow := H.out.below hb
   unfold Rns at hrow
   rw [flatS_len] at hrow
   have ca := ownsRow_cell hrow rfl (2 * i) (by omega)
   have cb := ownsRow_cell hrow rfl (2 * i + 1) (by omega)
   rw [List.getElem?_map, ga] at ca
   rw [List.getElem?_map, gb] at cb
   simp only [Option.map_some, runeV] at ca cb
   obtain ⟨p1, p2, p3⟩ := Hok.out (a0, b0) (List.mem_of_getElem? hx)
   dsimp only at p1 p2 p3
   have Hx := Lib.hid hx
   have h2i : ((2 * i : Nat) : Int) < ((2 * L.length : Nat) : Int) := by omega
   clear hb ho hg hm hbd hrow ga gb hx
   go_wp2_with fail
   obtain ⟨wo, rfl⟩ : ∃ wo : World, wo = wr := ⟨_, rfl⟩
   go_loopw [5, 6, 7, 8] (fun s5 s6 s7 s8 wx => InRel wo O a0 b0 s5 s6 s7 s8 wx) (fun _ _ _ v _ => 2 * O.length - (intOf v).toNat)
   case atStart => exact ⟨0, a0, b0, [], none, 0, Nat.zero_le _, rfl, rfl, rfl, rfl, Below.refl _ _, Rns.nil _ _, Nat.le_refl _, by omega, by omega, by simp⟩
   case round =>
    obtain ⟨k, a, b, pre, A7, q7, hk, rfl, rfl, rfl, rfl, hb7, ho7, hpl, ⟨ha1, ha2⟩, ⟨hb1, hb2⟩, hmg⟩ := hrel
    have Hb7 := Lib.hid hb7
    have hbs7 := hb7.size
    have Ho7 := Lib.hid ho7
    have Hmg := Lib.hid hmg
    clear ca cb
    by_cases hkt : k < O.length
    ·have hO : ∃ gO, A = some ⟨gO, 0, none⟩ := by
      obtain ⟨_, _, e, _, _, hA⟩ := ownsRow_slice Ho.out
      obtain ⟨gO, e'⟩ := hA (by rw [flatS_len]; omega)
      exact ⟨gO, (Value.slice.inj e).1.trans e'⟩
     obtain ⟨gO, rfl⟩ := hO
     obtain ⟨⟨c0, d0⟩, hy⟩ : ∃ x, O[k]? = some x := ⟨_, List.getElem?_eq_getElem hkt⟩
     obtain ⟨gc, gd⟩ := flatS_get O k c0 d0 hy
     have hrow2 := Ho.out
     unfold Rns at hrow2
     rw [flatS_len] at hrow2
     have cc := ownsRow_cell hrow2 rfl (2 * k) (by omega)
     have cd := ownsRow_cell hrow2 rfl (2 * k + 1) (by omega)
     rw [List.getElem?_map, gc] at cc
     rw [List.getElem?_map, gd] at cd
     simp only [Option.map_some, runeV] at cc cd
     have cc := cell_later Hb7.out cc
     have cd := cell_later Hb7.out cd
     obtain ⟨r1, r2, r3, r4⟩ := Hbd.out (c0, d0) (List.mem_of_getElem? hy)
     dsimp only at r1 r2 r3 r4
     have Hdr := Lib.hid (show O.drop k = (c0, d0) :: O.drop (k + 1) by obtain ⟨hh, e⟩ := List.getElem?_eq_some_iff.1 hy; rw [List.drop_eq_getElem_cons hh, e])
     have h2k : ((2 * k : Nat) : Int) < ((2 * O.length : Nat) : Int) := by omega
     have hne : some gO ≠ (Value.slice A7 (2 * pre.length) q7).ownBlock := by
      intro e
      have h1 := (ownsRow_block Ho7.out e.symm).1
      obtain ⟨_, _, h2⟩ := ownsRow_block Ho.out (g := gO) rfl
      have := lt_of_heap h2
      omega
     have Hne := Lib.hid hne
     clear hrow2 gc gd hy hb7 ho7 hmg hne
     by_cases hk1 : d0 + 1 < a
     ·skip
      have Hst := Lib.hid (show mergeF O a0 b0 = ((mergeF (O.drop (k + 1)) a b).1, (mergeF (O.drop (k + 1)) a b).2.1, (pre ++ [(c0, d0)]) ++ (mergeF (O.drop (k + 1)) a b).2.2) by rw [Hmg.out, Hdr.out, mergeF_keep (p := (c0, d0)) (.inl hk1)]; simp)
      have Hcn := Lib.hid (cells_new wr.drew [.int .i32 c0, .int .i32 d0] 21)
      have Hoa := Lib.hid (show (wr.drew.alloc (.cells #[.int .i32 c0, .int .i32 d0] 21)).ownsRow wo.heap.size 21 1 (.slice A7 (2 * pre.length) q7) (2 * pre.length) ((flatS pre).map runeV) by have h9 : Rns wr.drew wo.heap.size (.slice A7 (2 * pre.length) q7) (flatS pre) := Ho7.out; have := h9.below (alloc_below wr.drew (.cells #[.int .i32 c0, .int .i32 d0] 21)); unfold Rns at this; rw [flatS_len] at this; exact this)
      go_wp2_with fail
      have hw1 : IntKind.i64.wrap (2 * (k : Int) + 1) = 2 * (k : Int) + 1 := IntWalk.i64_in _ (by omega)
      have hw2 : (2 * (k : Int) + 1).toNat = 2 * k + 1 := by omega
      have hw3 : (0 : Int) ≤ 2 * (k : Int) + 1 := by omega
      have hw4 : 2 * (k : Int) + 1 < 2 * (O.length : Int) := by omega
      have hw5 : (2 * (k : Int)).toNat = 2 * k := by omega
      have hw6 : (0 : Int) ≤ 2 * (k : Int) := by omega
      have hw7 : 2 * (k : Int) < 2 * (O.length : Int) := by omega
      have Hcc := Lib.hid cc
      have Hcd := Lib.hid cd
      clear cc cd
      refine wp_region_noPanic ?_
      refine wp_region_held_drew (S := fun w' => w'.cell? ⟨gO, 2 * k, none⟩ = some (.int .i32 c0) ∧ w'.cell? ⟨gO, 2 * k + 1, none⟩ = some (.int .i32 d0)) (by kernel_rfl) (⟨Hcc.out, Hcd.out⟩) (fun hHeld => ?_)
      refine tkH 0 (v := ?v0) (nth rfl) (by kernel_rfl) (by kernel_rfl) (by kernel_rfl) (fun _ _ _ h => h) (by rfl) hHeld ?y0 ?r0
      case y0 => (intro w hSw; (try dsimp only at hSw); go_simp; (try with_reducible rfl))
      try simp only [Act.put, pA, pB, pC]
      refine tkH 1 (v := ?v1) (nth rfl) (by kernel_rfl) (by kernel_rfl) (by kernel_rfl) (fun _ _ _ h => h) (by rfl) hHeld ?y1 ?r1
      case y1 => (intro w hSw; (try dsimp only at hSw); go_simp; (try with_reducible rfl))
      try simp only [Act.put, pA, pB, pC]
      refine tkH 2 (v := ?v2) (nth rfl) (by kernel_rfl) (by kernel_rfl) (by kernel_rfl) (fun _ _ _ h => h) (by rfl) hHeld ?y2 ?r2
      case y2 => (intro w hSw; (try dsimp only at hSw); go_simp; (try with_reducible rfl))
      try simp only [Act.put, pA, pB, pC]
      refine tkH 3 (v := ?v3) (nth rfl) (by kernel_rfl) (by kernel_rfl) (by kernel_rfl) (fun _ _ _ h => h) (by rfl) hHeld ?y3 ?r3
      case y3 => (intro w hSw; (try dsimp only at hSw); go_simp; (try with_reducible rfl))
      try simp only [Act.put, pA, pB, pC]
      refine tkH 4 (v := ?v4) (nth rfl) (by kernel_rfl) (by kernel_rfl) (by kernel_rfl) (fun _ _ _ h => h) (by rfl) hHeld ?y4 ?r4
      case y4 => (intro w hSw; (try dsimp only at hSw); go_simp; (try with_reducible rfl))
      try simp only [Act.put, pA, pB, pC]
      refine tkH 5 (v := ?v5) (nth rfl) (by kernel_rfl) (by kernel_rfl) (by kernel_rfl) (fun _ _ _ h => h) (by rfl) hHeld ?y5 ?r5
      case y5 => (intro w hSw; (try dsimp only at hSw); go_simp; (try with_reducible rfl))
      try simp only [Act.put, pA, pB, pC]
      refine tkH 6 (v := ?v6) (nth rfl) (by kernel_rfl) (by kernel_rfl) (by kernel_rfl) (fun _ _ _ h => h) (by rfl) hHeld ?y6 ?r6
      case y6 => (intro w hSw; (try dsimp only at hSw); go_simp; (try with_reducible rfl))
      try simp only [Act.put, pA, pB, pC]
      refine tkH 7 (v := ?v7) (nth rfl) (by kernel_rfl) (by kernel_rfl) (by kernel_rfl) (fun _ _ _ h => h) (by rfl) hHeld ?y7 ?r7
      case y7 => (intro w hSw; (try dsimp only at hSw); go_simp; (try with_reducible rfl))
      try simp only [Act.put, pA, pB, pC]
      refine tkH 8 (v := ?v8) (nth rfl) (by kernel_rfl) (by kernel_rfl) (by kernel_rfl) (fun _ _ _ h => h) (by rfl) hHeld ?y8 ?r8
      case y8 => (intro w hSw; (try dsimp only at hSw); go_simp; (try with_reducible rfl))
      try simp only [Act.put, pA, pB, pC]
      refine tkH 9 (v := ?v9) (nth rfl) (by kernel_rfl) (by kernel_rfl) (by kernel_rfl) (fun _ _ _ h => h) (by rfl) hHeld ?y9 ?r9
      case y9 => (intro w hSw; (try dsimp only at hSw); go_simp; (try with_reducible rfl))
      try simp only [Act.put, pA, pB, pC]
      refine wpAnyH_ready (rs := [10]) (by kernel_rfl) (by simp) ?_
      refine AllReadyH.cons (nth rfl) (fun K hK => ?_) AllReadyH.nil
      go_simp
      refine hK.out _ _ (⟨cell_later (alloc_below _ _) hHeld.1, cell_later (alloc_below _ _) hHeld.2⟩) (fun hHeld => ?_)
      clear hK K
      try simp only [Act.put, pA, pB, pC]
      refine wpAnyH_ready (rs := [11]) (by kernel_rfl) (by simp) ?_
      refine AllReadyH.cons (nth rfl) (fun K hK => ?_) AllReadyH.nil
      refine step_append_k elRune rfl (.tmp 61) (.tmp 71) rfl wo.heap.size (.slice A7 (2 * pre.length) q7) (2 * pre.length) wr.heap.size 2 2 ((flatS pre).map runeV) [.int .i32 c0, .int .i32 d0] (by simp [Act.eval]) Hoa.out (by simp [Act.eval]) rfl Hcn.out (by simp [Value.oneCell']) (by unfold maxLen; omega) (by omega) (by simp; omega) ?_; intro v' w5 h1 h2 h3; have Hp := Lib.hid h1; have Hgr := Lib.hid h2; clear h1 h2 h3
      refine hK.out _ _ (⟨Hgr.out.cell hHeld.1 Hne.out, Hgr.out.cell hHeld.2 Hne.out⟩) (fun hHeld => ?_)
      clear hK K
      try simp only [Act.put, pA, pB, pC]
      refine tkH 12 (v := ?va) (nth rfl) (by kernel_rfl) (by kernel_rfl) (by kernel_rfl) (fun _ _ _ h => h) (by rfl) hHeld ?ya ?ra
      case ya => (intro w hSw; (try dsimp only at hSw); go_simp; (try with_reducible rfl))
      try simp only [Act.put, pA, pB, pC]
      refine wpAnyH_done (by kernel_rfl) (NoPanic.normal ?_) _
      clear hHeld hw1 hw2 hw3 hw4 hw5 hw6 hw7
      obtain ⟨A5, q5, rfl, -, -, -⟩ := ownsRow_slice Hp.out
      go_wp2_with fail
      have hb2 : Below wo.heap.size wo (wr.drew.alloc (.cells #[.int .i32 c0, .int .i32 d0] 21)) := (Hb7.out.drew).alloc (by simp; omega) _
      have hl5 : 2 * (pre ++ [(c0, d0)]).length = 2 * pre.length + 2 := by simp; omega
      refine ⟨⟨k + 1, a, b, pre ++ [(c0, d0)], A5, q5, by omega, rfl, rfl, by rw [hl5], by go_num, own_below hb2 Hoa.out hb2.size Hgr.out, ?_, by simp; omega, by omega, by omega, Hst.out⟩, by simp [intOf]; omega⟩
      rw [hl5, flatS_append]
      exact Rns.app Hp.out (by rw [flatS_len]; rfl) rfl
     by_cases hk2 : b + 1 < c0
     ·skip
      have Hst := Lib.hid (show mergeF O a0 b0 = ((mergeF (O.drop (k + 1)) a b).1, (mergeF (O.drop (k + 1)) a b).2.1, (pre ++ [(c0, d0)]) ++ (mergeF (O.drop (k + 1)) a b).2.2) by rw [Hmg.out, Hdr.out, mergeF_keep (p := (c0, d0)) (.inr hk2)]; simp)
      have Hcn := Lib.hid (cells_new wr.drew [.int .i32 c0, .int .i32 d0] 21)
      have Hoa := Lib.hid (show (wr.drew.alloc (.cells #[.int .i32 c0, .int .i32 d0] 21)).ownsRow wo.heap.size 21 1 (.slice A7 (2 * pre.length) q7) (2 * pre.length) ((flatS pre).map runeV) by have h9 : Rns wr.drew wo.heap.size (.slice A7 (2 * pre.length) q7) (flatS pre) := Ho7.out; have := h9.below (alloc_below wr.drew (.cells #[.int .i32 c0, .int .i32 d0] 21)); unfold Rns at this; rw [flatS_len] at this; exact this)
      go_wp2_with fail
      have hw1 : IntKind.i64.wrap (2 * (k : Int) + 1) = 2 * (k : Int) + 1 := IntWalk.i64_in _ (by omega)
      have hw2 : (2 * (k : Int) + 1).toNat = 2 * k + 1 := by omega
      have hw3 : (0 : Int) ≤ 2 * (k : Int) + 1 := by omega
      have hw4 : 2 * (k : Int) + 1 < 2 * (O.length : Int) := by omega
      have hw5 : (2 * (k : Int)).toNat = 2 * k := by omega
      have hw6 : (0 : Int) ≤ 2 * (k : Int) := by omega
      have hw7 : 2 * (k : Int) < 2 * (O.length : Int) := by omega
      have Hcc := Lib.hid cc
      have Hcd := Lib.hid cd
      clear cc cd
      refine wp_region_noPanic ?_
      refine wp_region_held_drew (S := fun w' => w'.cell? ⟨gO, 2 * k, none⟩ = some (.int .i32 c0) ∧ w'.cell? ⟨gO, 2 * k + 1, none⟩ = some (.int .i32 d0)) (by kernel_rfl) (⟨Hcc.out, Hcd.out⟩) (fun hHeld => ?_)
      refine tkH 0 (v := ?vb) (nth rfl) (by kernel_rfl) (by kernel_rfl) (by kernel_rfl) (fun _ _ _ h => h) (by rfl) hHeld ?yb ?rb
      case yb => (intro w hSw; (try dsimp only at hSw); go_simp; (try with_reducible rfl))
      try simp only [Act.put, pA, pB, pC]
      refine tkH 1 (v := ?vc) (nth rfl) (by kernel_rfl) (by kernel_rfl) (by kernel_rfl) (fun _ _ _ h => h) (by rfl) hHeld ?yc ?rc
      case yc => (intro w hSw; (try dsimp only at hSw); go_simp; (try with_reducible rfl))
      try simp only [Act.put, pA, pB, pC]
      refine tkH 2 (v := ?vd) (nth rfl) (by kernel_rfl) (by kernel_rfl) (by kernel_rfl) (fun _ _ _ h => h) (by rfl) hHeld ?yd ?rd
      case yd => (intro w hSw; (try dsimp only at hSw); go_simp; (try with_reducible rfl))
      try simp only [Act.put, pA, pB, pC]
      refine tkH 3 (v := ?ve) (nth rfl) (by kernel_rfl) (by kernel_rfl) (by kernel_rfl) (fun _ _ _ h => h) (by rfl) hHeld ?ye ?re
      case ye => (intro w hSw; (try dsimp only at hSw); go_simp; (try with_reducible rfl))
      try simp only [Act.put, pA, pB, pC]
      refine tkH 4 (v := ?vf) (nth rfl) (by kernel_rfl) (by kernel_rfl) (by kernel_rfl) (fun _ _ _ h => h) (by rfl) hHeld ?yf ?rf
      case yf => (intro w hSw; (try dsimp only at hSw); go_simp; (try with_reducible rfl))
      try simp only [Act.put, pA, pB, pC]
      refine tkH 5 (v := ?vg) (nth rfl) (by kernel_rfl) (by kernel_rfl) (by kernel_rfl) (fun _ _ _ h => h) (by rfl) hHeld ?yg ?rg
      case yg => (intro w hSw; (try dsimp only at hSw); go_simp; (try with_reducible rfl))
      try simp only [Act.put, pA, pB, pC]
      refine tkH 6 (v := ?vh) (nth rfl) (by kernel_rfl) (by kernel_rfl) (by kernel_rfl) (fun _ _ _ h => h) (by rfl) hHeld ?yh ?rh
      case yh => (intro w hSw; (try dsimp only at hSw); go_simp; (try with_reducible rfl))
      try simp only [Act.put, pA, pB, pC]
      refine tkH 7 (v := ?vi) (nth rfl) (by kernel_rfl) (by kernel_rfl) (by kernel_rfl) (fun _ _ _ h => h) (by rfl) hHeld ?yi ?ri
      case yi => (intro w hSw; (try dsimp only at hSw); go_simp; (try with_reducible rfl))
      try simp only [Act.put, pA, pB, pC]
      refine tkH 8 (v := ?vj) (nth rfl) (by kernel_rfl) (by kernel_rfl) (by kernel_rfl) (fun _ _ _ h => h) (by rfl) hHeld ?yj ?rj
      case yj => (intro w hSw; (try dsimp only at hSw); go_simp; (try with_reducible rfl))
      try simp only [Act.put, pA, pB, pC]
      refine tkH 9 (v := ?vk) (nth rfl) (by kernel_rfl) (by kernel_rfl) (by kernel_rfl) (fun _ _ _ h => h) (by rfl) hHeld ?yk ?rk
      case yk => (intro w hSw; (try dsimp only at hSw); go_simp; (try with_reducible rfl))
      try simp only [Act.put, pA, pB, pC]
      refine wpAnyH_ready (rs := [10]) (by kernel_rfl) (by simp) ?_
      refine AllReadyH.cons (nth rfl) (fun K hK => ?_) AllReadyH.nil
      go_simp
      refine hK.out _ _ (⟨cell_later (alloc_below _ _) hHeld.1, cell_later (alloc_below _ _) hHeld.2⟩) (fun hHeld => ?_)
      clear hK K
      try simp only [Act.put, pA, pB, pC]
      refine wpAnyH_ready (rs := [11]) (by kernel_rfl) (by simp) ?_
      refine AllReadyH.cons (nth rfl) (fun K hK => ?_) AllReadyH.nil
      refine step_append_k elRune rfl (.tmp 61) (.tmp 71) rfl wo.heap.size (.slice A7 (2 * pre.length) q7) (2 * pre.length) wr.heap.size 2 2 ((flatS pre).map runeV) [.int .i32 c0, .int .i32 d0] (by simp [Act.eval]) Hoa.out (by simp [Act.eval]) rfl Hcn.out (by simp [Value.oneCell']) (by unfold maxLen; omega) (by omega) (by simp; omega) ?_; intro v' w5 h1 h2 h3; have Hp := Lib.hid h1; have Hgr := Lib.hid h2; clear h1 h2 h3
      refine hK.out _ _ (⟨Hgr.out.cell hHeld.1 Hne.out, Hgr.out.cell hHeld.2 Hne.out⟩) (fun hHeld => ?_)
      clear hK K
      try simp only [Act.put, pA, pB, pC]
      refine tkH 12 (v := ?vl) (nth rfl) (by kernel_rfl) (by kernel_rfl) (by kernel_rfl) (fun _ _ _ h => h) (by rfl) hHeld ?yl ?rl
      case yl => (intro w hSw; (try dsimp only at hSw); go_simp; (try with_reducible rfl))
      try simp only [Act.put, pA, pB, pC]
      refine wpAnyH_done (by kernel_rfl) (NoPanic.normal ?_) _
      clear hHeld hw1 hw2 hw3 hw4 hw5 hw6 hw7
      obtain ⟨A5, q5, rfl, -, -, -⟩ := ownsRow_slice Hp.out
      go_wp2_with fail
      have hb2 : Below wo.heap.size wo (wr.drew.alloc (.cells #[.int .i32 c0, .int .i32 d0] 21)) := (Hb7.out.drew).alloc (by simp; omega) _
      have hl5 : 2 * (pre ++ [(c0, d0)]).length = 2 * pre.length + 2 := by simp; omega
      refine ⟨⟨k + 1, a, b, pre ++ [(c0, d0)], A5, q5, by omega, rfl, rfl, by rw [hl5], by go_num, own_below hb2 Hoa.out hb2.size Hgr.out, ?_, by simp; omega, by omega, by omega, Hst.out⟩, by simp [intOf]; omega⟩
      rw [hl5, flatS_append]
      exact Rns.app Hp.out (by rw [flatS_len]; rfl) rfl
     have Hst := Lib.hid (show mergeF O a0 b0 = ((mergeF (O.drop (k + 1)) (min a c0) (max b d0)).1, (mergeF (O.drop (k + 1)) (min a c0) (max b d0)).2.1, pre ++ (mergeF (O.drop (k + 1)) (min a c0) (max b d0)).2.2) by rw [Hmg.out, Hdr.out, mergeF_join (p := (c0, d0)) (by simp only; omega)])
     go_wp2_with fail
     exact ⟨⟨k + 1, min a c0, max b d0, pre, A7, q7, by omega, congrArg _ (by split <;> omega), congrArg _ (by split <;> omega), rfl, by go_num, Hb7.out, Ho7.out, by omega, by omega, by omega, Hst.out⟩, by simp [intOf]; omega⟩
    ·obtain rfl : k = O.length := by omega
     have Hmg2 := Lib.hid (show mergeF O a0 b0 = (a, b, pre) by rw [Hmg.out, List.drop_length]; simp [mergeF])
     have Msp := Lib.hid (merge_spec O a0 b0 Hg.out p2)
     have Hpb := Lib.hid (show ∀ p ∈ pre, -10 ≤ p.1 ∧ p.1 ≤ 1114120 by
      intro p hp
      have hs := Msp.out.sub p (by rw [Hmg2.out]; exact hp)
      have := Hbd.out p hs
      omega)
     clear hb7 ho7 hmg
     go_wp2_with fail
     (with_reducible refine (rplaced_any (Rns.low Ho7.out (Nat.zero_le _)) (by omega) a b Hpb.out).mono ?_)
     rintro e w5 ⟨j, hj, hl1, hl2, A5, q5, rfl, hb5, hr5⟩
     have hlen : (flatS (pre.take j ++ (a, b) :: pre.drop j)).length = 2 * (pre.take j ++ (a, b) :: pre.drop j).length := flatS_len _
     have hlen2 : (pre.take j ++ (a, b) :: pre.drop j).length = pre.length + 1 := by simp; omega
     have hnx := out_next (j := j) Hx.out p2 ⟨p1, p3⟩ Hg.out Hm.out Hbd.out (by rw [Hmg2.out]; exact hl1) (by rw [Hmg2.out]; exact hl2)
     rw [Hmg2.out] at hnx
     obtain ⟨n1, n2, n3, -, -⟩ := hnx
     have Hmg3 := Lib.hid Hmg2.out
     clear Hmg Hmg2 Msp Hpb
     generalize hO2 : pre.take j ++ (a, b) :: pre.drop j = O2 at *
     clear hO2
     have N1 := Lib.hid n1
     have N2 := Lib.hid n2
     have N3 := Lib.hid n3
     have Hb5 := Lib.hid (Hb.out.trans ((Hb7.out.mono hbs).trans (hb5.mono (Nat.le_trans hbs hbs7))))
     rw [hlen] at hr5
     have Hr5 := Lib.hid (hr5.low (Nat.le_trans hbs hbs7))
     rw [hlen]
     have Hl2 := Lib.hid hlen2
     clear n1 n2 n3 hb5 hr5 hl1 hl2 hlen hlen2
     go_wp2_with fail
     exact ⟨⟨i + 1, O2, A5, q5, by omega, rfl, by go_num, Hb5.out, Hr5.out, N1.out, by rw [Hl2.out]; omega, N2.out, N3.out⟩, by simp [intOf]; omega⟩
  ·obtain rfl : i = L.length := by omega
   clear hb ho hg hm hbd
   go_wp2_with fail
   go_ret
   exact ⟨O, A, q, rfl, Hb.out, Ho.out, Hg.out, hOl, by have := Hm.out; rwa [List.take_length] at this, Hbd.out⟩
def OwnP (w : World) (xs : List UInt8) (e : Ending) (w' : World) : Prop := ∃ (A : Option Addr) (q : Nat), e = .returned (.slice A xs.length q) ∧ Below w.heap.size w w' ∧ OwnB w' w.heap.size (.slice A xs.length q) xs
theorem own_of4 {w : World} {base g n : Nat} {cur : Array Value} (xs : List UInt8) (h4 : xs.length ≤ 4) (hn : n = xs.length) (hg : w.heap[g]? = some (.cells cur 5 (0, 0))) (hb : base ≤ g) (he : cur = (bvs xs).toArray) : OwnB w base (.slice (some ⟨g, 0, none⟩) n n) xs := by
 subst he hn
 exact ownsRow_lit hg hb (by unfold maxLen; omega) (by simp [bvs_len])
set_option maxHeartbeats 1000000 in
theorem form_own {w : World} (c : Int) (hc : isR c = true) : Calls Tryz.prog 84 #[.int .i32 c] w fun e w' => OwnP w (frm c) e w' := by
 have hr' := hc
 simp only [isR, Bool.and_eq_true, decide_eq_true_eq, Bool.not_eq_true', Bool.and_eq_false_iff, decide_eq_false_iff_not] at hr'
 have hr0 := hr'.1.1
 have hr1 := hr'.1.2
 clear hr'
 by_cases h1 : c < 128
 ·have e := Lib.hid (show frm c = [UInt8.ofNat c.toNat] by rw [frm, if_pos hc, if_pos h1])
  have el := Lib.hid (show (frm c).length = 1 by rw [e.out]; rfl)
  clear hc
  go_enter Tryz.func84, Tryz.ntmps84
  go_wp2
  go_ret
  refine ⟨some ⟨w.heap.size, 0, none⟩, 1, by rw [el.out]; rfl, alloc_below _ _, ?_⟩
  rw [e.out]
  exact own_of4 [_] (by simp) (by simp) (heap_alloc_new _ _) (Nat.le_refl _) (by simp only [bvs, bv, List.map]; rw [ofNat_toNat8 _ (by omega)])
 by_cases h2 : c < 2048
 ·have e := Lib.hid (show frm c = [UInt8.ofNat (192 + c / 64).toNat, UInt8.ofNat (128 + c % 64).toNat] by rw [frm, if_pos hc, if_neg h1, if_pos h2])
  have el := Lib.hid (show (frm c).length = 2 by rw [e.out]; rfl)
  clear hc
  go_enter Tryz.func84, Tryz.ntmps84
  go_wp2
  go_ret
  refine ⟨some ⟨w.heap.size, 0, none⟩, 2, by rw [el.out]; rfl, alloc_below _ _, ?_⟩
  rw [e.out]
  exact own_of4 [_, _] (by simp) (by simp) (heap_alloc_new _ _) (Nat.le_refl _) (by simp only [bvs, bv, List.map]; rw [ofNat_toNat8 _ (by omega), ofNat_toNat8 _ (by omega)])
 by_cases h3 : c < 65536
 ·have e := Lib.hid (show frm c = [UInt8.ofNat (224 + c / 4096).toNat, UInt8.ofNat (128 + c / 64 % 64).toNat, UInt8.ofNat (128 + c % 64).toNat] by rw [frm, if_pos hc, if_neg h1, if_neg h2, if_pos h3])
  have el := Lib.hid (show (frm c).length = 3 by rw [e.out]; rfl)
  clear hc
  go_enter Tryz.func84, Tryz.ntmps84
  go_wp2
  go_ret
  refine ⟨some ⟨w.heap.size, 0, none⟩, 3, by rw [el.out]; rfl, alloc_below _ _, ?_⟩
  rw [e.out]
  exact own_of4 [_, _, _] (by simp) (by simp) (heap_alloc_new _ _) (Nat.le_refl _) (by simp only [bvs, bv, List.map]; rw [ofNat_toNat8 _ (by omega), ofNat_toNat8 _ (by omega), ofNat_toNat8 _ (by omega)])
 ·have e := Lib.hid (show frm c = [UInt8.ofNat (240 + c / 262144).toNat, UInt8.ofNat (128 + c / 4096 % 64).toNat, UInt8.ofNat (128 + c / 64 % 64).toNat, UInt8.ofNat (128 + c % 64).toNat] by rw [frm, if_pos hc, if_neg h1, if_neg h2, if_neg h3])
  have el := Lib.hid (show (frm c).length = 4 by rw [e.out]; rfl)
  clear hc
  go_enter Tryz.func84, Tryz.ntmps84
  go_wp2
  go_ret
  refine ⟨some ⟨w.heap.size, 0, none⟩, 4, by rw [el.out]; rfl, alloc_below _ _, ?_⟩
  rw [e.out]
  exact own_of4 [_, _, _, _] (by simp) (by simp) (heap_alloc_new _ _) (Nat.le_refl _) (by simp only [bvs, bv, List.map]; rw [ofNat_toNat8 _ (by omega), ofNat_toNat8 _ (by omega), ofNat_toNat8 _ (by omega), ofNat_toNat8 _ (by omega)])
def spB (p : Int × Int) : List UInt8 := (flatS (cutS p)).flatMap frm
def spsB (L : Spans) : List UInt8 := (flatS (L.flatMap cutS)).flatMap frm
theorem frm_len4 (c : Int) : (frm c).length ≤ 4 := by
 unfold frm
 split
 ·split
  ·simp
  ·split
   ·simp
   ·split <;> simp
 ·simp
theorem spB_one {a b : Int} (h : isR a = true) (k : isR b = true) (hab : a ≤ b) (hn : ¬ (a < 55296 ∧ 57343 < b)) : spB (a, b) = frm a ++ frm b := by
 have hr : ∀ c : Int, isR c = true ↔ 0 ≤ c ∧ c ≤ 1114111 ∧ ¬ (55296 ≤ c ∧ c ≤ 57343) := by intro c; unfold isR; simp; omega
 have ha := (hr a).1 h
 have hb := (hr b).1 k
 have e1 : loC a = a := by unfold loC; rw [if_neg (by omega)]
 have e2 : hiC b = b := by unfold hiC; rw [if_neg (by omega)]
 unfold spB cutS
 simp only [e1, e2]
 rw [if_neg (by omega), if_neg hn]
 simp [flatS]
set_option maxHeartbeats 2000000 in
set_option maxRecDepth 100000 in
theorem span_leaf {w : World} (a b : Int) (h : isR a = true) (k : isR b = true) (hab : a ≤ b) (hn : ¬ (a < 55296 ∧ 57343 < b)) : Calls Tryz.prog 150 #[.int .i32 a, .int .i32 b] w fun e w' => OwnP w (frm a ++ frm b) e w' := by
 have hr : ∀ c : Int, isR c = true ↔ 0 ≤ c ∧ c ≤ 1114111 ∧ ¬ (55296 ≤ c ∧ c ≤ 57343) := by intro c; unfold isR; simp; omega
 have ha := (hr a).1 h
 have hb := (hr b).1 k
 clear hr
 have la := frm_len4 a
 have lb := frm_len4 b
 have H := Lib.hid h
 have K := Lib.hid k
 clear h k
 go_enter Tryz.func150, Tryz.ntmps150
 have c1 : ((decide (55296 ≤ a)) && (decide (a ≤ 57343))) = false := by simp; omega
 have c2 : ((decide (55296 ≤ b)) && (decide (b ≤ 57343))) = false := by simp; omega
 have hca : a < 55296 ∨ 57343 < a := by omega
 have hcb : b < 55296 ∨ 57343 < b := by omega
 rcases hca with hca | hca <;> rcases hcb with hcb | hcb
 ·skip
  go_wp2_with fail
  (with_reducible refine (form_own a H.out).mono ?_)
  rintro e w1 ⟨A1, q1, rfl, hb1, ho1⟩
  have Hb1 := Lib.hid hb1
  have Ho1 := Lib.hid ho1
  have hs1 := hb1.size
  clear hb1 ho1
  go_wp2_with fail
  (with_reducible refine (form_own b K.out).mono ?_)
  rintro e w2 ⟨A2, q2, rfl, hb2, ho2⟩
  have Hb2 := Lib.hid hb2
  have Ho2 := Lib.hid ho2
  have hs2 := hb2.size
  have Ho12 := Lib.hid (Ho1.out.below Hb2.out (Nat.le_refl _))
  clear hb2 ho2
  go_wp2_with (at_builtin; refine wpList_append_bs rfl (.tmp 32) (.tmp 34) rfl w.heap.size (.slice A1 (frm a).length q1) (.slice A2 (frm b).length q2) (frm a) (frm b) (by simp [Act.eval]) Ho12.out (by simp [Act.eval]) Ho2.out.bs (by omega) (by omega) ?_; intro v' w3 h1 h2 h3; have HK := Lib.hid h1; have HG := Lib.hid h2; clear h1 h2 h3)
  obtain ⟨A5, q5, rfl, -, -, -⟩ := ownsRow_slice HK.out
  go_ret
  exact ⟨A5, q5, rfl, own_below (Hb1.out.trans (Hb2.out.mono hs1)) Ho12.out (Nat.le_trans hs1 hs2) HG.out, HK.out⟩
 ·exfalso; exact hn ⟨hca, hcb⟩
 ·exfalso; omega
 ·skip
  go_wp2_with fail
  (with_reducible refine (form_own a H.out).mono ?_)
  rintro e w1 ⟨A1, q1, rfl, hb1, ho1⟩
  have Hb1 := Lib.hid hb1
  have Ho1 := Lib.hid ho1
  have hs1 := hb1.size
  clear hb1 ho1
  go_wp2_with fail
  (with_reducible refine (form_own b K.out).mono ?_)
  rintro e w2 ⟨A2, q2, rfl, hb2, ho2⟩
  have Hb2 := Lib.hid hb2
  have Ho2 := Lib.hid ho2
  have hs2 := hb2.size
  have Ho12 := Lib.hid (Ho1.out.below Hb2.out (Nat.le_refl _))
  clear hb2 ho2
  go_wp2_with (at_builtin; refine wpList_append_bs rfl (.tmp 32) (.tmp 34) rfl w.heap.size (.slice A1 (frm a).length q1) (.slice A2 (frm b).length q2) (frm a) (frm b) (by simp [Act.eval]) Ho12.out (by simp [Act.eval]) Ho2.out.bs (by omega) (by omega) ?_; intro v' w3 h1 h2 h3; have HK := Lib.hid h1; have HG := Lib.hid h2; clear h1 h2 h3)
  obtain ⟨A5, q5, rfl, -, -, -⟩ := ownsRow_slice HK.out
  go_ret
  exact ⟨A5, q5, rfl, own_below (Hb1.out.trans (Hb2.out.mono hs1)) Ho12.out (Nat.le_trans hs1 hs2) HG.out, HK.out⟩
set_option maxHeartbeats 4000000 in
set_option maxRecDepth 100000 in
theorem span_any {w : World} (a b : Int) (h : 0 ≤ a) (hab : a ≤ b) (hb : b ≤ 1114111) : Calls Tryz.prog 150 #[.int .i32 a, .int .i32 b] w fun e w' => OwnP w (spB (a, b)) e w' := by
 have hr : ∀ c : Int, isR c = true ↔ 0 ≤ c ∧ c ≤ 1114111 ∧ ¬ (55296 ≤ c ∧ c ≤ 57343) := by intro c; unfold isR; simp; omega
 have Hr := Lib.hid hr
 clear hr
 by_cases sa1 : 55296 ≤ a
 ·by_cases sa2 : a ≤ 57343
  ·have e1 : loC a = 57344 := by unfold loC; rw [if_pos ⟨sa1, sa2⟩]
   by_cases sb1 : 55296 ≤ b
   ·by_cases sb2 : b ≤ 57343
    ·have e2 : hiC b = 55295 := by unfold hiC; rw [if_pos ⟨sb1, sb2⟩]
     have hsp := Lib.hid (show spB (a, b) = [] by unfold spB cutS; simp only [e1, e2]; rfl)
     clear e1 e2
     go_enter Tryz.func150, Tryz.ntmps150
     go_wp2_with fail
     go_ret
     rw [hsp.out]
     exact ⟨none, 0, rfl, Below.refl _ _, OwnB.nil _ _⟩
    ·have e2 : hiC b = b := by unfold hiC; rw [if_neg (fun x => sb2 x.2)]
     by_cases hlt : b < 57344
     ·exfalso; omega
     have H := Lib.hid (show isR 57344 = true from by decide)
     have K := Lib.hid (show isR b = true from (Hr.out b).2 (by omega))
     have hsp := Lib.hid (show spB (a, b) = frm 57344 ++ frm b by unfold spB cutS; simp only [e1, e2]; rw [if_neg (by omega), if_neg (by omega)]; simp [flatS])
     clear e1 e2
     have la := frm_len4 57344
     have lb := frm_len4 b
     go_enter Tryz.func150, Tryz.ntmps150
     go_wp2_with fail
     (with_reducible refine (form_own 57344 (H.out)).mono ?_)
     rintro e w1 ⟨A1, q1, rfl, hb1, ho1⟩
     have Hb1 := Lib.hid hb1
     have Ho1 := Lib.hid ho1
     have hs1 := hb1.size
     clear hb1 ho1
     go_wp2_with fail
     (with_reducible refine (form_own b (K.out)).mono ?_)
     rintro e w2 ⟨A2, q2, rfl, hb2, ho2⟩
     have Hb2 := Lib.hid hb2
     have Ho2 := Lib.hid ho2
     have hs2 := hb2.size
     have Ho12 := Lib.hid (Ho1.out.below Hb2.out (Nat.le_refl _))
     clear hb2 ho2
     go_wp2_with (at_builtin; refine wpList_append_bs rfl (.tmp 32) (.tmp 34) rfl w.heap.size (.slice A1 (frm 57344).length q1) (.slice A2 (frm b).length q2) (frm 57344) (frm b) (by simp [Act.eval]) Ho12.out (by simp [Act.eval]) Ho2.out.bs (by omega) (by omega) ?_; intro v' w3 h1 h2 h3; have HK := Lib.hid h1; have HG := Lib.hid h2; clear h1 h2 h3)
     obtain ⟨A5, q5, rfl, -, -, -⟩ := ownsRow_slice HK.out
     go_ret
     rw [hsp.out]
     exact ⟨A5, q5, rfl, own_below (Hb1.out.trans (Hb2.out.mono hs1)) Ho12.out (Nat.le_trans hs1 hs2) HG.out, HK.out⟩
   ·exfalso; omega
  ·have e1 : loC a = a := by unfold loC; rw [if_neg (fun x => sa2 x.2)]
   have e2 : hiC b = b := by unfold hiC; rw [if_neg (by omega)]
   exact (span_leaf a b ((Hr.out a).2 (by omega)) ((Hr.out b).2 (by omega)) hab (by omega)).mono (by rw [spB_one ((Hr.out a).2 (by omega)) ((Hr.out b).2 (by omega)) hab (by omega)]; exact fun _ _ h => h)
 ·have e1 : loC a = a := by unfold loC; rw [if_neg (fun x => sa1 x.1)]
  by_cases sb1 : 55296 ≤ b
  ·by_cases sb2 : b ≤ 57343
   ·have e2 : hiC b = 55295 := by unfold hiC; rw [if_pos ⟨sb1, sb2⟩]
    by_cases hlt : 55295 < a
    ·exfalso; omega
    have H := Lib.hid (show isR a = true from (Hr.out a).2 (by omega))
    have K := Lib.hid (show isR 55295 = true from by decide)
    have hsp := Lib.hid (show spB (a, b) = frm a ++ frm 55295 by unfold spB cutS; simp only [e1, e2]; rw [if_neg (by omega), if_neg (by omega)]; simp [flatS])
    clear e1 e2
    have la := frm_len4 a
    have lb := frm_len4 55295
    go_enter Tryz.func150, Tryz.ntmps150
    go_wp2_with fail
    (with_reducible refine (form_own a (H.out)).mono ?_)
    rintro e w1 ⟨A1, q1, rfl, hb1, ho1⟩
    have Hb1 := Lib.hid hb1
    have Ho1 := Lib.hid ho1
    have hs1 := hb1.size
    clear hb1 ho1
    go_wp2_with fail
    (with_reducible refine (form_own 55295 (K.out)).mono ?_)
    rintro e w2 ⟨A2, q2, rfl, hb2, ho2⟩
    have Hb2 := Lib.hid hb2
    have Ho2 := Lib.hid ho2
    have hs2 := hb2.size
    have Ho12 := Lib.hid (Ho1.out.below Hb2.out (Nat.le_refl _))
    clear hb2 ho2
    go_wp2_with (at_builtin; refine wpList_append_bs rfl (.tmp 32) (.tmp 34) rfl w.heap.size (.slice A1 (frm a).length q1) (.slice A2 (frm 55295).length q2) (frm a) (frm 55295) (by simp [Act.eval]) Ho12.out (by simp [Act.eval]) Ho2.out.bs (by omega) (by omega) ?_; intro v' w3 h1 h2 h3; have HK := Lib.hid h1; have HG := Lib.hid h2; clear h1 h2 h3)
    obtain ⟨A5, q5, rfl, -, -, -⟩ := ownsRow_slice HK.out
    go_ret
    rw [hsp.out]
    exact ⟨A5, q5, rfl, own_below (Hb1.out.trans (Hb2.out.mono hs1)) Ho12.out (Nat.le_trans hs1 hs2) HG.out, HK.out⟩
   ·have e2 : hiC b = b := by unfold hiC; rw [if_neg (fun x => sb2 x.2)]
    have hsp := Lib.hid (show spB (a, b) = (frm a ++ frm 55295) ++ (frm 57344 ++ frm b) by unfold spB cutS; simp only [e1, e2]; rw [if_neg (by omega), if_pos (by omega)]; simp [flatS])
    clear e1 e2
    have l1 := frm_len4 a
    have l2 := frm_len4 b
    have l3 := frm_len4 55295
    have l4 := frm_len4 57344
    have la : (frm a ++ frm 55295).length ≤ 8 := by rw [List.length_append]; omega
    have lb : (frm 57344 ++ frm b).length ≤ 8 := by rw [List.length_append]; omega
    clear l1 l2 l3 l4
    go_enter Tryz.func150, Tryz.ntmps150
    go_wp2_with fail
    (with_reducible refine (span_leaf a 55295 ((Hr.out a).2 (by omega)) (by decide) (by omega) (by omega)).mono ?_)
    rintro e w1 ⟨A1, q1, rfl, hb1, ho1⟩
    generalize hX : frm a ++ frm 55295 = X at *
    have Hb1 := Lib.hid hb1
    have Ho1 := Lib.hid ho1
    have hs1 := hb1.size
    clear hb1 ho1
    go_wp2_with fail
    (with_reducible refine (span_leaf 57344 b (by decide) ((Hr.out b).2 (by omega)) (by omega) (by omega)).mono ?_)
    rintro e w2 ⟨A2, q2, rfl, hb2, ho2⟩
    generalize hY : frm 57344 ++ frm b = Y at *
    have Hb2 := Lib.hid hb2
    have Ho2 := Lib.hid ho2
    have hs2 := hb2.size
    have Ho12 := Lib.hid (Ho1.out.below Hb2.out (Nat.le_refl _))
    clear hb2 ho2 hX hY
    go_wp2_with (at_builtin; refine wpList_append_bs rfl (.tmp 27) (.tmp 29) rfl w.heap.size (.slice A1 X.length q1) (.slice A2 Y.length q2) X Y (by simp [Act.eval]) Ho12.out (by simp [Act.eval]) Ho2.out.bs (by omega) (by omega) ?_; intro v' w3 h1 h2 h3; have HK := Lib.hid h1; have HG := Lib.hid h2; clear h1 h2 h3)
    obtain ⟨A5, q5, rfl, -, -, -⟩ := ownsRow_slice HK.out
    go_ret
    rw [hsp.out]
    exact ⟨A5, q5, rfl, own_below (Hb1.out.trans (Hb2.out.mono hs1)) Ho12.out (Nat.le_trans hs1 hs2) HG.out, HK.out⟩
  ·have e2 : hiC b = b := by unfold hiC; rw [if_neg (fun x => sb1 x.1)]
   exact (span_leaf a b ((Hr.out a).2 (by omega)) ((Hr.out b).2 (by omega)) hab (by omega)).mono (by rw [spB_one ((Hr.out a).2 (by omega)) ((Hr.out b).2 (by omega)) hab (by omega)]; exact fun _ _ h => h)
end Go.Proofs.YthhnmpkgleelfaaGreatDoor
