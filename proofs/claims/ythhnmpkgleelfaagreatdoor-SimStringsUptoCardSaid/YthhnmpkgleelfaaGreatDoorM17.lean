import Derived.Test.YthhnmpkgleelfaaGreatDoorM16
import Derived.Test.YthhnmpkgleelfaaGreatDoorM15
import Derived.Test.YthhnmpkgleelfaaGreatDoorM3
set_option linter.unusedVariables false
set_option linter.unusedSimpArgs false
namespace Go.Proofs.YthhnmpkgleelfaaGreatDoor
open Go.RowKit
def butP (L : Spans) (but : Bool) (c : Int) : Prop := if but = true then ¬ inSp L c else inSp L c
def RgP (w : World) (L : Spans) (but : Bool) (e : Ending) (w' : World) : Prop := ∃ cs : List Int, e = .returned (.tuple #[.string (rngB cs), .bool true]) ∧ SetOf (butP L but) cs ∧ Below w.heap.size w w'
def CkRel (w : World) (L : Spans) (s6 : Value) (wr : World) : Prop := ∃ i : Nat, i ≤ L.length ∧ s6 = .int .i64 (2 * (i : Int)) ∧ ∃ m, wr = w.drewN m
def MRel (w : World) (L : Spans) (but : Bool) (s9 : Value) (wr : World) : Prop := ∃ (M : Spans) (A : Option Addr) (q : Nat), s9 = .slice A (2 * M.length) q ∧ Below w.heap.size w wr ∧ Rns wr w.heap.size (.slice A (2 * M.length) q) (flatS M) ∧ GapsS M ∧ M.length ≤ 10001 ∧ (∀ p ∈ M, 0 ≤ p.1 ∧ p.2 ≤ 1114111) ∧ (∀ c, 0 ≤ c → c ≤ 1114111 → (inSp M c ↔ butP L but c))
def TxRel (w : World) (M : Spans) (s10 s11 : Value) (wr : World) : Prop := ∃ (i : Nat) (A : Option Addr) (q : Nat), i ≤ M.length ∧ s10 = .slice A (spsB (M.take i)).length q ∧ s11 = .int .i64 (2 * (i : Int)) ∧ Below w.heap.size w wr ∧ OwnB wr w.heap.size (.slice A (spsB (M.take i)).length q) (spsB (M.take i))
theorem spB_len (p : Int × Int) : (spB p).length ≤ 16 := by
 have key : ∀ l : List Int, (l.flatMap frm).length ≤ 4 * l.length := by
  intro l
  induction l with
  | nil => simp
  | cons x l ih => have := frm_len4 x; rw [List.flatMap_cons, List.length_append, List.length_cons]; omega
 have h1 := key (flatS (cutS p))
 have h2 : (flatS (cutS p)).length ≤ 4 := by
  rw [flatS_len]
  unfold cutS
  split
  ·simp
  ·split <;> simp
 unfold spB
 omega
theorem spsB_next {M : Spans} {i : Nat} {p : Int × Int} (h : M[i]? = some p) : spsB (M.take (i + 1)) = spsB (M.take i) ++ spB p := by
 unfold spsB spB
 rw [take_next h, List.flatMap_append, flatS_append, List.flatMap_append]
 simp
theorem spsB_len (M : Spans) : (spsB M).length ≤ 16 * M.length := by
 induction M with
 | nil => simp [spsB, flatS]
 | cons p M ih =>
  have h1 := spB_len p
  have h2 : spsB (p :: M) = spB p ++ spsB M := by unfold spsB spB; rw [List.flatMap_cons, flatS_append, List.flatMap_append]
  rw [h2, List.length_append]
  simp only [List.length_cons]
  omega
theorem others_len : ∀ (l : Spans) (f : Int), (othersF f l).length ≤ l.length + 1
 | [], f => by unfold othersF; split <;> simp
 | (a, b) :: l, f => by
  have := others_len l (b + 1)
  unfold othersF
  split <;> simp <;> omega
theorem rng_of {M L : Spans} {but : Bool} (hg : GapsS M) (hb : ∀ p ∈ M, 0 ≤ p.1 ∧ p.2 ≤ 1114111) (hm : ∀ c, 0 ≤ c → c ≤ 1114111 → (inSp M c ↔ butP L but c)) : ∃ cs : List Int, ByteArray.mk (spsB M).toArray = rngB cs ∧ SetOf (butP L but) cs :=
 ⟨flatS (M.flatMap cutS), rfl, (setOf_cuts hg hb).wk (fun c hc => by simp [isR] at hc; exact hm c (by omega) (by omega))⟩
set_option maxHeartbeats 8000000 in
set_option maxRecDepth 100000 in
theorem rranges_any {w : World} {A0 : Option Addr} {n0 q0 : Nat} {L : Spans} (h : Rns w 0 (.slice A0 n0 q0) (flatS L)) (hl : L.length ≤ 10000) (hok : OkSp L) (but : Bool) : Calls Tryz.prog 121 #[.slice A0 n0 q0, .bool but] w fun e w' => RgP w L but e w' := by
 obtain ⟨_, _, e, hq0, _, hA0⟩ := ownsRow_slice h
 obtain ⟨rfl, rfl, rfl⟩ := Value.slice.inj e
 clear e
 rw [flatS_len] at hq0 hA0 ⊢
 have H := Lib.hid h
 have HA := Lib.hid hA0
 have Hok := Lib.hid hok
 clear h hA0 hok
 go_enter Tryz.func121, Tryz.ntmps121
 have hmod : ((2 * L.length : Nat) : Int) % 2 = 0 := by omega
 go_wp2_with fail
 go_loopw [6, 7, 8] (fun s6 _ _ wr => CkRel w L s6 wr) (fun v _ _ _ => 2 * L.length - (intOf v).toNat)
 case atStart => exact ⟨0, Nat.zero_le _, rfl, 0, rfl⟩
 case round =>
  obtain ⟨i, hi, rfl, hw⟩ := hrel
  have Hw := Lib.hid hw
  by_cases hlt : i < L.length
  ·obtain ⟨g, rfl⟩ := HA.out (by omega)
   obtain ⟨⟨a, b⟩, hx⟩ : ∃ x, L[i]? = some x := ⟨_, List.getElem?_eq_getElem hlt⟩
   obtain ⟨ga, gb⟩ := flatS_get L i a b hx
   have hrow : Rns wr 0 (.slice (some ⟨g, 0, none⟩) (2 * L.length) q0) (flatS L) := by obtain ⟨m, rfl⟩ := hw; have h9 : Rns (w.drewN m) 0 (.slice (some ⟨g, 0, none⟩) (flatS L).length q0) (flatS L) := ownsRow_drewN H.out m; rwa [flatS_len] at h9
   clear hw
   unfold Rns at hrow
   rw [flatS_len] at hrow
   have ca := ownsRow_cell hrow rfl (2 * i) (by omega)
   have cb := ownsRow_cell hrow rfl (2 * i + 1) (by omega)
   rw [List.getElem?_map, ga] at ca
   rw [List.getElem?_map, gb] at cb
   simp only [Option.map_some, runeV] at ca cb
   obtain ⟨p1, p2, p3⟩ := Hok.out (a, b) (List.mem_of_getElem? hx)
   dsimp only at p1 p2 p3
   have h2i : ((2 * i : Nat) : Int) < ((2 * L.length : Nat) : Int) := by omega
   have hw0 : (2 * (i : Int)).toNat = 2 * i := by omega
   have hw1 : IntKind.i64.wrap (2 * (i : Int) + 1) = 2 * (i : Int) + 1 := IntWalk.i64_in _ (by omega)
   have hw2 : (2 * (i : Int) + 1).toNat = 2 * i + 1 := by omega
   have hw3 : (0 : Int) ≤ 2 * (i : Int) + 1 := by omega
   have hw4 : 2 * (i : Int) + 1 < 2 * (L.length : Int) := by omega
   have P1 := Lib.hid p1
   have P2 := Lib.hid p2
   clear hrow ga gb hx p1 p2
   go_wp2_with fail
   (with_reducible refine (refis_any a _).mono ?_)
   rintro e w1 ⟨rfl, rfl⟩
   rw [P1.out]
   go_wp2_with fail
   (with_reducible refine (refis_any b _).mono ?_)
   rintro e w1 ⟨rfl, rfl⟩
   rw [P2.out]
   have hba : ¬ b < a := by omega
   go_wp2_with fail
   go_quiet (fail)
   clear hw0 hw1 hw2 hw3 hw4
   go_wp2_with fail
   refine ⟨⟨i + 1, by omega, by go_num, by obtain ⟨m, e⟩ := Hw.out; exact ⟨m + nq, by rw [e, World.drewN_drewN]⟩⟩, by simp [intOf]; omega⟩
  ·obtain rfl : i = L.length := by omega
   go_wp2_with fail
   have hrow : Rns wr 0 (.slice A0 (2 * L.length) q0) (flatS L) := by obtain ⟨m, rfl⟩ := hw; have h9 : Rns (w.drewN m) 0 (.slice A0 (flatS L).length q0) (flatS L) := ownsRow_drewN H.out m; rwa [flatS_len] at h9
   have hb0 : Below w.heap.size w wr := by obtain ⟨m, rfl⟩ := hw; exact blw_drewN (Below.refl _ _) _
   have Hb0 := Lib.hid hb0
   have hs0 := hb0.size
   clear hw hb0
   (with_reducible refine (rrising_any hrow hl (fun p hp => ?_)).mono ?_)
   ·have h1 := Hok.out p hp
    have h2 := isR_pos h1.1
    have h3 := h1.2.1
    simp only [isR, Bool.and_eq_true, decide_eq_true_eq] at h3
    omega
   rintro e w1 ⟨M, A1, q1, rfl, hb1, ho1, hg1, hl1, hm1, hbd1⟩
   have Hb1 := Lib.hid (Hb0.out.trans (hb1.mono hs0))
   have Ho1 := Lib.hid (ho1.low hs0)
   have hs1 := Hb1.out.size
   have Hg1 := Lib.hid hg1
   have Hm1 := Lib.hid hm1
   have Hbd1 := Lib.hid hbd1
   clear hb1 ho1 hg1 hm1 hbd1 hrow Hb0
   go_upto_if 53 with fail
   obtain ⟨w2, hw2⟩ : ∃ w2 : World, w1 = w2 := ⟨_, rfl⟩
   subst hw2
   go_cut [9] (fun s9 wx => MRel w L but s9 wx)
   case first =>
    cases but with
    | false =>
     go_wp2_with fail
     go_meet
     case rel => exact ⟨M, A1, q1, rfl, Hb1.out, Ho1.out, Hg1.out, by omega, (fun p hp => ⟨(Hbd1.out p hp).1, (Hbd1.out p hp).2.2.2⟩), (fun c _ _ => by unfold butP; rw [if_neg (by decide)]; exact Hm1.out c)⟩
    | true =>
     go_wp2_with fail
     (with_reducible refine (rothers_any (Ho1.out.low (Nat.zero_le _)) (fun p hp => Hbd1.out p hp) (by omega)).mono ?_)
     rintro e w3 ⟨A3, q3, rfl, hb3, ho3⟩
     have hsp := others_spec M 0 Hg1.out (fun p hp => ⟨(Hbd1.out p hp).1, (Hbd1.out p hp).2.2.2⟩)
     have hol := others_len M 0
     rw [show othersF 0 M = spOther M from rfl] at hsp hol
     rw [flatS_len] at ho3 ⊢
     have Hb3 := Lib.hid (Hb1.out.trans (hb3.mono hs1))
     have Ho3 := Lib.hid (ho3.low hs1)
     have Hsp := Lib.hid hsp
     clear hb3 ho3 hsp
     go_wp2_with fail
     go_meet
     case rel => exact ⟨spOther M, A3, q3, rfl, Hb3.out, Ho3.out, Hsp.out.1, by omega, (fun p hp => Hsp.out.2.1 p hp), (fun c h1 h2 => by unfold butP; rw [if_pos rfl, Hsp.out.2.2 c, Hm1.out c]; exact ⟨fun h => h.2.2, fun h => ⟨h1, h2, h⟩⟩)⟩
   case rest =>
    obtain ⟨N, A4, q4, rfl, hb4, ho4, hg4, hl4, hbd4, hm4⟩ := hcut
    have Hb4 := Lib.hid hb4
    have Ho4 := Lib.hid ho4
    have Hg4 := Lib.hid hg4
    have Hbd4 := Lib.hid hbd4
    have Hm4 := Lib.hid hm4
    have hs4 := hb4.size
    clear hb4 ho4 hg4 hbd4 hm4 Hb1 Ho1 Hg1 Hm1 Hbd1
    obtain ⟨wo, hwo⟩ : ∃ wo : World, wc = wo := ⟨_, rfl⟩
    subst hwo
    go_wp2_with fail
    go_loopw [10, 11] (fun s10 s11 wx => TxRel wc N s10 s11 wx) (fun _ v _ => 2 * N.length - (intOf v).toNat)
    case atStart => exact ⟨0, none, 0, Nat.zero_le _, rfl, rfl, Below.refl _ _, OwnB.nil _ _⟩
    case round =>
     obtain ⟨k, A5, q5, hk, rfl, rfl, hb5, ho5⟩ := hrel
     have Hb5 := Lib.hid hb5
     have Ho5 := Lib.hid ho5
     have hs5 := hb5.size
     by_cases hlt : k < N.length
     ·have hO : ∃ g4, A4 = some ⟨g4, 0, none⟩ := by
       obtain ⟨_, _, e, _, _, hA⟩ := ownsRow_slice Ho4.out
       obtain ⟨g4, e'⟩ := hA (by rw [flatS_len]; omega)
       exact ⟨g4, (Value.slice.inj e).1.trans e'⟩
      obtain ⟨g4, rfl⟩ := hO
      obtain ⟨⟨a, b⟩, hx⟩ : ∃ x, N[k]? = some x := ⟨_, List.getElem?_eq_getElem hlt⟩
      obtain ⟨ga, gb⟩ := flatS_get N k a b hx
      have hrow := Ho4.out
      unfold Rns at hrow
      rw [flatS_len] at hrow
      have ca := ownsRow_cell hrow rfl (2 * k) (by omega)
      have cb := ownsRow_cell hrow rfl (2 * k + 1) (by omega)
      rw [List.getElem?_map, ga] at ca
      rw [List.getElem?_map, gb] at cb
      simp only [Option.map_some, runeV] at ca cb
      have ca := cell_later Hb5.out ca
      have cb := cell_later Hb5.out cb
      obtain ⟨p1, p2⟩ := Hbd4.out (a, b) (List.mem_of_getElem? hx)
      have p3 := Hg4.out.mem (a, b) (List.mem_of_getElem? hx)
      dsimp only at p1 p2 p3
      have hne : some g4 ≠ (Value.slice A5 (spsB (N.take k)).length q5).ownBlock := by
       intro e
       have h1 := (ownsRow_block Ho5.out e.symm).1
       obtain ⟨_, _, h2⟩ := ownsRow_block Ho4.out (g := g4) rfl
       have := lt_of_heap h2
       omega
      have Hne := Lib.hid hne
      have Hnx := Lib.hid (spsB_next hx)
      have hl5 := spsB_len (N.take k)
      have hl6 : (N.take k).length ≤ N.length := by simp; omega
      have hl7 := spB_len (a, b)
      generalize hX : spsB (N.take k) = X at *
      clear hrow ga gb hx hne hb5 ho5 hX
      go_wp2_with fail
      have hw1 : IntKind.i64.wrap (2 * (k : Int) + 1) = 2 * (k : Int) + 1 := IntWalk.i64_in _ (by omega)
      have hw2 : (2 * (k : Int) + 1).toNat = 2 * k + 1 := by omega
      have hw3 : (0 : Int) ≤ 2 * (k : Int) + 1 := by omega
      have hw4 : 2 * (k : Int) + 1 < 2 * (N.length : Int) := by omega
      have hw5 : (2 * (k : Int)).toNat = 2 * k := by omega
      have hw6 : (0 : Int) ≤ 2 * (k : Int) := by omega
      have hw7 : 2 * (k : Int) < 2 * (N.length : Int) := by omega
      have Hcc := Lib.hid ca
      have Hcd := Lib.hid cb
      clear ca cb
      refine wp_region_noPanic ?_
      refine wp_region_held_drew (S := fun w' => w'.cell? ⟨g4, 2 * k, none⟩ = some (.int .i32 a) ∧ w'.cell? ⟨g4, 2 * k + 1, none⟩ = some (.int .i32 b)) (by kernel_rfl) (⟨Hcc.out, Hcd.out⟩) (fun hHeld => ?_)
      refine tkH 0 (v := ?v0) (nth rfl) (by kernel_rfl) (by kernel_rfl) (by kernel_rfl) (fun _ _ _ h => h) (by rfl) hHeld ?y0 ?r0
      case y0 => (intro w hSw; (try dsimp only at hSw); go_simp; (try with_reducible rfl))
      try simp only [Act.put, pA, pB, pC]
      refine tkH 1 (v := ?v1) (nth rfl) (by kernel_rfl) (by kernel_rfl) (by kernel_rfl) (fun _ _ _ h => h) (by rfl) hHeld ?y1 ?r1
      case y1 => (intro w hSw; (try dsimp only at hSw); go_simp; (try with_reducible rfl))
      try simp only [Act.put, pA, pB, pC]
      refine tkH 2 (v := ?v2) (nth rfl) (by kernel_rfl) (by kernel_rfl) (by kernel_rfl) (fun _ _ _ h => h) (by rfl) hHeld ?y2 ?r2
      case y2 => (intro w hSw; (try dsimp only at hSw); go_simp; (try with_reducible rfl))
      try simp only [Act.put, pA, pB, pC]
      refine tkH 3 (v := ?v3) (nth rfl) (by kernel_rfl) (by kernel_rfl) (by kernel_rfl) (fun _ _ _ h => h) (by rfl) hHeld ?y3 ?r3
      case y3 => (intro w hSw; (try dsimp only at hSw); go_simp; (try with_reducible rfl))
      try simp only [Act.put, pA, pB, pC]
      refine tkH 4 (v := ?v4) (nth rfl) (by kernel_rfl) (by kernel_rfl) (by kernel_rfl) (fun _ _ _ h => h) (by rfl) hHeld ?y4 ?r4
      case y4 => (intro w hSw; (try dsimp only at hSw); go_simp; (try with_reducible rfl))
      try simp only [Act.put, pA, pB, pC]
      refine tkH 5 (v := ?v5) (nth rfl) (by kernel_rfl) (by kernel_rfl) (by kernel_rfl) (fun _ _ _ h => h) (by rfl) hHeld ?y5 ?r5
      case y5 => (intro w hSw; (try dsimp only at hSw); go_simp; (try with_reducible rfl))
      try simp only [Act.put, pA, pB, pC]
      refine tkH 6 (v := ?v6) (nth rfl) (by kernel_rfl) (by kernel_rfl) (by kernel_rfl) (fun _ _ _ h => h) (by rfl) hHeld ?y6 ?r6
      case y6 => (intro w hSw; (try dsimp only at hSw); go_simp; (try with_reducible rfl))
      try simp only [Act.put, pA, pB, pC]
      refine tkH 7 (v := ?v7) (nth rfl) (by kernel_rfl) (by kernel_rfl) (by kernel_rfl) (fun _ _ _ h => h) (by rfl) hHeld ?y7 ?r7
      case y7 => (intro w hSw; (try dsimp only at hSw); go_simp; (try with_reducible rfl))
      try simp only [Act.put, pA, pB, pC]
      refine tkH 8 (v := ?v8) (nth rfl) (by kernel_rfl) (by kernel_rfl) (by kernel_rfl) (fun _ _ _ h => h) (by rfl) hHeld ?y8 ?r8
      case y8 => (intro w hSw; (try dsimp only at hSw); go_simp; (try with_reducible rfl))
      try simp only [Act.put, pA, pB, pC]
      refine tkH 9 (v := ?v9) (nth rfl) (by kernel_rfl) (by kernel_rfl) (by kernel_rfl) (fun _ _ _ h => h) (by rfl) hHeld ?y9 ?r9
      case y9 => (intro w hSw; (try dsimp only at hSw); go_simp; (try with_reducible rfl))
      try simp only [Act.put, pA, pB, pC]
      refine wpAnyH_ready (rs := [10]) (by kernel_rfl) (by simp) ?_
      refine AllReadyH.cons (nth rfl) (fun K hK => ?_) AllReadyH.nil
      go_simp
      refine (span_any a b p1 p3 p2).mono ?_; rintro e w7 ⟨A7, q7, rfl, hb7, ho7⟩; have hb7' : Below wr.heap.size wr w7 := (Below.refl wr.heap.size wr).drew.trans hb7; have Hb7 := Lib.hid hb7'; have Ho7 := Lib.hid ho7; have Ho57 := Lib.hid (Ho5.out.below Hb7.out (Nat.le_refl _)); have hs7 := hb7'.size; clear hb7' ho7; go_simp
      refine hK.out _ _ (⟨cell_later hb7 hHeld.1, cell_later hb7 hHeld.2⟩) (fun hHeld => ?_)
      clear hK K
      try simp only [Act.put, pA, pB, pC]
      refine wpAnyH_ready (rs := [11]) (by kernel_rfl) (by simp) ?_
      refine AllReadyH.cons (nth rfl) (fun K hK => ?_) AllReadyH.nil
      refine step_append_bs rfl (.tmp 62) (.tmp 72) rfl wc.heap.size (.slice A5 X.length q5) (.slice A7 (spB (a, b)).length q7) X (spB (a, b)) (by simp [Act.eval]) Ho57.out (by simp [Act.eval]) Ho7.out.bs (by omega) (by omega) ?_; intro v' w8 h1 h2 h3; have HK := Lib.hid h1; have HG := Lib.hid h2; clear h1 h2 h3
      refine hK.out _ _ (⟨HG.out.cell hHeld.1 Hne.out, HG.out.cell hHeld.2 Hne.out⟩) (fun hHeld => ?_)
      clear hK K
      try simp only [Act.put, pA, pB, pC]
      refine tkH 12 (v := ?va) (nth rfl) (by kernel_rfl) (by kernel_rfl) (by kernel_rfl) (fun _ _ _ h => h) (by rfl) hHeld ?ya ?ra
      case ya => (intro w hSw; (try dsimp only at hSw); go_simp; (try with_reducible rfl))
      try simp only [Act.put, pA, pB, pC]
      refine wpAnyH_done (by kernel_rfl) (NoPanic.normal ?_) _
      clear hHeld hw1 hw2 hw3 hw4 hw5 hw6 hw7
      obtain ⟨A8, q8, rfl, -, -, -⟩ := ownsRow_slice HK.out
      go_wp2_with fail
      refine ⟨⟨k + 1, A8, q8, by omega, by simp only [Hnx.out, List.length_append], by go_num, own_below (Hb5.out.trans (Hb7.out.mono hs5)) Ho57.out (Nat.le_trans hs5 hs7) HG.out, by rw [Hnx.out]; exact HK.out⟩, by simp [intOf]; omega⟩
     ·obtain rfl : k = N.length := by omega
      rw [List.take_length] at Ho5 ho5
      obtain ⟨cs, hcs, hset⟩ := rng_of Hg4.out Hbd4.out Hm4.out
      have hq := string_of_bs Ho5.out.bs
      rw [hcs] at hq
      clear hcs hb5 ho5
      have Hset := Lib.hid hset
      clear hset
      rw [List.take_length]
      go_wp2_with fail
      go_ret2
      exact ⟨cs, rfl, Hset.out, Hb4.out.trans (Hb5.out.mono hs4)⟩
theorem wpList_append_slo {t e : TypeId} {z : Value} {k B : Nat} (E : ElemK t e z k B) {ops : Array Oper} {rest : List Oper} {o : Oper} {a : Act} {Q : Exit → Act → World → Prop} {w : World} (hgd : o.guard = none) (s x : Operand)
  (ho : o.op = .call { callee := .builtin .append, args := #[s, x], argTypes := #[t, t] })
  (base : Nat) (v : Value) (n : Nat) (A : Option Addr) (c m : Nat) (us news : List Value) (hs : a.eval s = v) (hown : w.ownsRow base e k v n us) (hx : a.eval x = .slice A m c) (hsl : SlK k w (.slice A m c) m news)
  (h1 : ∀ u ∈ news, u.oneCell' = true) (hlen : n + m ≤ maxLen) (hby : (n + m) * B ≤ 140737488355328) (hbase : base ≤ w.heap.size)
  (h : ∀ v' w', w'.ownsRow base e k v' (n + m) (us ++ news) → w.grownBy w' v.ownBlock → (v'.ownBlock = v.ownBlock ∨ v'.ownBlock = some w.heap.size) → wpList Tryz.prog ops Q rest (a.put o.dst v') w') : wpList Tryz.prog ops Q (o :: rest) a w := by
 cases A with
 | some ad => exact wpList_append_sl E hgd s x ho base v n ad c m us news hs hown hx hsl h1 hlen hby hbase h
 | none =>
  have hm : m = 0 := by
   obtain ⟨_, _, A, c', e', _, hA⟩ := hsl
   rcases Nat.eq_zero_or_pos m with h0 | h0
   ·exact h0
   ·obtain ⟨g, o, e, _⟩ := hA h0
    exact absurd ((Value.slice.inj e').1.trans e) (fun h => by cases h)
  subst hm
  have hn : news = [] := List.eq_nil_of_length_eq_zero (by have := hsl.1; simpa using this)
  subst hn
  refine wpList_append_none E hgd s x ho base v n us hs hown c hx ?_
  refine h v w ?_ (World.grownBy.refl w _) (.inl rfl)
  rw [Nat.add_zero, List.append_nil]; exact hown
def OkX (ys : List Ex) : Prop := ∀ x ∈ ys, 0 ≤ x.a ∧ x.a ≤ ys.length ∧ 0 ≤ x.b ∧ x.b ≤ ys.length
theorem OkX.nil : OkX [] := by simp [OkX]
theorem OkX.flat (r : Rx) : OkX (r.flat 0) := by
 intro x hx
 have := flat_bd r 0 x hx
 rw [r.flat_len]
 simpa using this
theorem shift_bd {x : Ex} {d n : Int} (h : 0 ≤ x.a ∧ x.a ≤ n ∧ 0 ≤ x.b ∧ x.b ≤ n) (hd : 0 ≤ d) : 0 ≤ (x.shift d).a ∧ (x.shift d).a ≤ n + d ∧ 0 ≤ (x.shift d).b ∧ (x.shift d).b ≤ n + d := by
 unfold Ex.shift
 split
 ·simp only; omega
 ·split
  ·simp only; omega
  ·omega
theorem OkX.two {kd : Int} {xs ys : List Ex} (h : OkX xs) (k : OkX ys) : OkX (twoX kd xs ys) := by
 intro x hx
 have hl : ((twoX kd xs ys).length : Int) = 1 + xs.length + ys.length := by simp [twoX]; omega
 rw [hl]
 unfold twoX at hx
 rcases List.mem_cons.1 hx with rfl | hx
 ·simp only; omega
 ·rcases List.mem_append.1 hx with hx | hx
  ·obtain ⟨y, hy, rfl⟩ := List.mem_map.1 hx
   have := shift_bd (d := 1) (h y hy) (by omega)
   omega
  ·obtain ⟨y, hy, rfl⟩ := List.mem_map.1 hx
   have := shift_bd (d := 1 + xs.length) (k y hy) (by omega)
   omega
theorem OkX.many {xs : List Ex} {mn mx : Int} (h : OkX xs) : OkX (manyX xs mn mx) := by
 intro x hx
 have hl : ((manyX xs mn mx).length : Int) = 1 + xs.length := by simp [manyX]; omega
 rw [hl]
 unfold manyX at hx
 rcases List.mem_cons.1 hx with rfl | hx
 ·simp only; omega
 ·obtain ⟨y, hy, rfl⟩ := List.mem_map.1 hx
  have := shift_bd (d := 1) (h y hy) (by omega)
  omega
theorem OkX.bd {ys : List Ex} (h : OkX ys) (hl : ys.length ≤ 1000000) : ∀ x ∈ ys, 0 ≤ x.a ∧ x.a ≤ 1000000 ∧ 0 ≤ x.b ∧ x.b ≤ 1000000 := by
 intro x hx
 have := h x hx
 omega
set_option maxRecDepth 100000 in
set_option maxHeartbeats 4000000 in
theorem two_all {w : World} {v u : Value} {xs ys : List Ex} (kd : Int) (h : XRow w 0 v xs) (k : XRow w 0 u ys) (hbd : ∀ x ∈ xs, 0 ≤ x.a ∧ x.a ≤ 1000000 ∧ 0 ≤ x.b ∧ x.b ≤ 1000000) (kbd : ∀ x ∈ ys, 0 ≤ x.a ∧ x.a ≤ 1000000 ∧ 0 ≤ x.b ∧ x.b ≤ 1000000)
  (hl : xs.length ≤ 100000) (kl : ys.length ≤ 100000) : Calls Tryz.prog 101 #[.int .i64 kd, v, u] w fun e w' => RowP w (twoX kd xs ys) e w' := by
 have H := Lib.hid h
 have K := Lib.hid k
 have Hbd := Lib.hid hbd
 have Kbd := Lib.hid kbd
 obtain ⟨Av, qv, rfl, -⟩ := h.form
 clear h hbd k kbd
 go_enter Tryz.func101, Tryz.ntmps101
 go_wp2_with fail
 have hal := alloc_below w (.cells #[.int .i64 kd, .int .i32 0, .string noB, .int .i64 1, .int .i64 (1 + xs.length), .int .i64 0, .int .i64 0] 60)
 have hown : XRow (w.alloc (.cells #[.int .i64 kd, .int .i32 0, .string noB, .int .i64 1, .int .i64 (1 + xs.length), .int .i64 0, .int .i64 0] 60)) w.heap.size (.slice (some ⟨w.heap.size, 0, none⟩) 1 1) [⟨kd, 0, noB, 1, 1 + xs.length, 0, 0⟩] := row_lit (heap_alloc_new w _) (Nat.le_refl _)
 have Hal := Lib.hid hal
 have Hown := Lib.hid hown
 have hsz := hal.size
 clear hal hown
 (with_reducible refine (moved_any (H.out.below Hal.out) Hbd.out (d := 1) (by omega) (by omega)).mono ?_)
 rintro e w1 ⟨A, n, q, rfl, hb1, hx1⟩
 have Hb1 := Lib.hid (Hal.out.trans (hb1.mono hsz))
 have Ho1 := Lib.hid (Hown.out.below hb1)
 have K1 := Lib.hid ((K.out.below Hal.out).below hb1)
 have hlm : (xs.map (Ex.shift 1)).length = xs.length := List.length_map _
 have hn : n = xs.length := by obtain ⟨_, _, e, _⟩ := hx1.form; have e := (Value.slice.inj e).2.1; rw [e, hlm]
 subst hn
 obtain ⟨A', q', e, -, -, hA⟩ := hx1.form
 clear e hA
 have hsl := hx1.sl
 rw [hlm] at hsl
 have Hsl := Lib.hid hsl
 have Hlm := Lib.hid hlm
 have hs1 := Hb1.out.size
 clear hb1 hx1 hlm hsl
 go_wp2_with (at_builtin; refine wpList_append_slo elEx rfl (.tmp 14) (.tmp 16) rfl w.heap.size (.slice (some ⟨w.heap.size, 0, none⟩) 1 1) 1 A q xs.length _ ((xs.map (Ex.shift 1)).flatMap exC) (by simp [Act.eval]) Ho1.out (by simp [Act.eval]) Hsl.out (exC_one _) (by unfold maxLen; omega) (by omega) hs1 ?_; intro v' w2 h1 h2 h3; have Hp := Lib.hid h1; have Hg := Lib.hid h2; clear h1 h2 h3)
 have hb2 := own_below Hb1.out Ho1.out hs1 Hg.out
 have hk2 : XRow w2 0 u ys := by
  refine World.ownsRow.kept K1.out Hg.out ?_
  cases hb : u.ownBlock with
  | none => exact .inl rfl
  | some g' =>
   refine .inr (fun e' => ?_)
   injection e' with e'
   have hg' := ownsRow_block K.out hb
   obtain ⟨_, cur, hc⟩ := hg'
   have h9 := lt_of_heap hc
   have e2 : g' = w.heap.size := e'
   omega
 have Hb2 := Lib.hid hb2
 have K2 := Lib.hid hk2
 clear hb2 hk2
 (with_reducible refine (moved_any K2.out Kbd.out (d := 1 + xs.length) (by omega) (by omega)).mono ?_)
 rintro e w3 ⟨A, n, q3, rfl, hb3, hx3⟩
 have Hb3 := Lib.hid (Hb2.out.trans (hb3.mono Hb2.out.size))
 have Ho3 := Lib.hid (ownsRow_below Hp.out hb3 (Nat.le_refl _))
 have hlm : (ys.map (Ex.shift (1 + xs.length))).length = ys.length := List.length_map _
 have hn : n = ys.length := by obtain ⟨_, _, e, _⟩ := hx3.form; have e := (Value.slice.inj e).2.1; rw [e, hlm]
 subst hn
 obtain ⟨A', q', e, -, -, hA⟩ := hx3.form
 clear e hA
 have hsl := hx3.sl
 rw [hlm] at hsl
 have Hsl3 := Lib.hid hsl
 have Hlm3 := Lib.hid hlm
 have hs3 := Hb3.out.size
 clear hb3 hx3 hlm hsl
 go_wp2_with (at_builtin; refine wpList_append_slo elEx rfl (.tmp 18) (.tmp 23) rfl w.heap.size _ (1 + xs.length) A q3 ys.length _ ((ys.map (Ex.shift (1 + xs.length))).flatMap exC) (by simp [Act.eval]) Ho3.out (by simp [Act.eval]) Hsl3.out (exC_one _) (by unfold maxLen; omega) (by omega) hs3 ?_; intro v5 w5 h1 h2 h3; have Hp5 := Lib.hid h1; have Hg5 := Lib.hid h2; clear h1 h2 h3)
 obtain ⟨A5, q5, rfl, -, -, -⟩ := ownsRow_slice Hp5.out
 go_ret
 refine ⟨A5, _, q5, rfl, own_below Hb3.out Ho3.out hs3 Hg5.out, ?_⟩
 have := XRow.app (xs := ⟨kd, 0, noB, 1, 1 + xs.length, 0, 0⟩ :: xs.map (Ex.shift 1)) (ys := ys.map (Ex.shift (1 + xs.length))) Hp5.out (by rw [Hlm3.out, List.length_cons, Hlm.out]; omega) rfl
 exact this
def ElP (w : World) (u : Value) (ys : List Ex) : Prop := XRow w 0 u ys ∧ OkX ys
def XRows (w : World) (base : Nat) (v : Value) (us : List Value) (Ls : List (List Ex)) : Prop := w.ownsRow base 26 1 v us.length us ∧ All2 (ElP w) us Ls
theorem ElP.below {w w' : World} {u : Value} {ys : List Ex} (h : ElP w u ys) (hb : Below w.heap.size w w') : ElP w' u ys := ⟨h.1.below hb, h.2⟩
theorem XRows.below {w w' : World} {base : Nat} {v : Value} {us : List Value} {Ls : List (List Ex)} (h : XRows w base v us Ls) (hb : Below w.heap.size w w') : XRows w' base v us Ls := ⟨ownsRow_below h.1 hb (Nat.le_refl _), h.2.mono fun _ _ x => x.below hb⟩
theorem XRows.low {w : World} {base b : Nat} {v : Value} {us : List Value} {Ls : List (List Ex)} (h : XRows w base v us Ls) (hb : b ≤ base) : XRows w b v us Ls := ⟨ownsRow_low h.1 hb, h.2⟩
def totX (l : List (List Ex)) : Nat := (l.map fun r => r.length + 1).sum
theorem totX_cons (x : List Ex) (l : List (List Ex)) : totX (x :: l) = x.length + 1 + totX l := by simp [totX]
theorem totX_append (l m : List (List Ex)) : totX (l ++ m) = totX l + totX m := by simp [totX]
theorem totX_drop (l : List (List Ex)) (j : Nat) : totX (l.drop j) ≤ totX l := by
 conv => rhs; rw [← List.take_append_drop j l, totX_append]
 omega
def grpX (kd : Int) : List (List Ex) → List Ex
 | [] => []
 | [x] => x
 | x :: l => twoX kd x (grpX kd l)
theorem grpX_cons (kd : Int) (x : List Ex) {l : List (List Ex)} (h : l ≠ []) : grpX kd (x :: l) = twoX kd x (grpX kd l) := by
 cases l with
 | nil => exact absurd rfl h
 | cons y l => rfl
theorem grpX_len (kd : Int) : ∀ (l : List (List Ex)), l ≠ [] → (grpX kd l).length + 1 = totX l
 | [], h => absurd rfl h
 | [x], _ => by simp [grpX, totX]
 | x :: y :: l, _ => by
  rw [grpX_cons kd x (by simp), totX_cons]
  have := grpX_len kd (y :: l) (by simp)
  simp only [twoX, List.length_cons, List.length_append, List.length_map] at this ⊢
  omega
theorem grpX_ok (kd : Int) : ∀ (l : List (List Ex)), (∀ x ∈ l, OkX x) → OkX (grpX kd l)
 | [], _ => OkX.nil
 | [x], h => h x (by simp)
 | x :: y :: l, h => by
  rw [grpX_cons kd x (by simp)]
  exact OkX.two (h x (by simp)) (grpX_ok kd (y :: l) (fun z hz => h z (List.mem_cons_of_mem _ hz)))
theorem grpX_flat (kd : Int) (op : Rx → Rx → Rx) (hop : ∀ a b, twoX kd (a.flat 0) (b.flat 0) = (op a b).flat 0) : ∀ (l : List Rx), l ≠ [] → grpX kd (l.map fun r => r.flat 0) = (joinR op l).flat 0
 | [], h => absurd rfl h
 | [x], _ => rfl
 | x :: y :: l, _ => by
  rw [List.map_cons, grpX_cons kd _ (by simp), grpX_flat kd op hop (y :: l) (by simp), joinR_cons op x (by simp), hop]
def AnyRow (w : World) (xs : List Ex) (e : Ending) (w' : World) : Prop := ∃ (A : Option Addr) (q : Nat), e = .returned (.slice A xs.length q) ∧ Below w.heap.size w w' ∧ XRow w' 0 (.slice A xs.length q) xs
def GrRel (w : World) (kd : Int) (Ls : List (List Ex)) (s5 s6 : Value) (wr : World) : Prop := ∃ j : Nat, j < Ls.length ∧ s6 = .int .i64 ((j : Int) - 1) ∧ Below w.heap.size w wr ∧ XRow wr 0 s5 (grpX kd (Ls.drop j))
theorem drop_at {α : Type} {l : List α} {i : Nat} {a : α} (h : l[i]? = some a) : l.drop i = a :: l.drop (i + 1) := by
 obtain ⟨hh, e⟩ := List.getElem?_eq_some_iff.1 h
 rw [List.drop_eq_getElem_cons hh, e]
set_option maxHeartbeats 2000000 in
set_option maxRecDepth 100000 in
theorem grouped_any {w : World} {v : Value} {us : List Value} {Ls : List (List Ex)} (kd : Int) (h : XRows w 0 v us Ls) (h0 : Ls ≠ []) (hl : totX Ls ≤ 100000) : Calls Tryz.prog 88 #[.int .i64 kd, v] w fun e w' => AnyRow w (grpX kd Ls) e w' := by
 obtain ⟨A, q, rfl, -, hm, hA⟩ := ownsRow_slice h.1
 have hlen : us.length = Ls.length := h.2.1
 have hpos : 0 < Ls.length := List.length_pos_iff.2 h0
 obtain ⟨g, rfl⟩ := hA (by omega)
 have H := Lib.hid h
 have Hcell : Hid (∀ (j : Nat) (ys : List Ex), Ls[j]? = some ys → ∃ u : Value, w.cell? ⟨g, j, none⟩ = some u ∧ ElP w u ys) := Lib.hid (fun j ys hy => by
  obtain ⟨u, hu, hr⟩ := h.2.get hy
  refine ⟨u, ?_, hr⟩
  rw [ownsRow_cell h.1 rfl j (by have := (List.getElem?_eq_some_iff.1 hu).1; omega), hu])
 unfold maxLen at hm
 rw [hlen] at hm ⊢
 clear h hA
 obtain ⟨yl, hyl⟩ : ∃ y, Ls[Ls.length - 1]? = some y := ⟨_, List.getElem?_eq_getElem (by omega)⟩
 obtain ⟨ul, hul, hrl⟩ := Hcell.out _ _ hyl
 have hd := drop_at hyl
 rw [show Ls.length - 1 + 1 = Ls.length by omega, List.drop_length] at hd
 have Hd := Lib.hid hd
 have Hrl := Lib.hid hrl
 clear hyl hd hrl
 go_enter Tryz.func88, Tryz.ntmps88
 have hw1 : IntKind.i64.wrap ((Ls.length : Int) - 1) = (Ls.length : Int) - 1 := IntWalk.i64_in _ (by omega)
 have hw2 : ((Ls.length : Int) - 1).toNat = Ls.length - 1 := by omega
 go_wp2_with fail
 go_loopw [5, 6] (fun s5 s6 wr => GrRel w kd Ls s5 s6 wr) (fun _ v _ => (intOf v + 1).toNat)
 case atStart => exact ⟨Ls.length - 1, by omega, by go_num, Below.refl _ _, by rw [Hd.out]; exact Hrl.out.1⟩
 case round =>
  obtain ⟨j, hj, rfl, hb, hx⟩ := hrel
  have Hb := Lib.hid hb
  have hbs := hb.size
  by_cases hj0 : j = 0
  ·subst hj0
   rw [List.drop_zero] at hx
   obtain ⟨A5, q5, rfl, -, -, -⟩ := hx.form
   have Hx := Lib.hid hx
   clear hb hx
   go_wp2_with fail
   go_ret
   exact ⟨A5, q5, rfl, Hb.out, Hx.out⟩
  ·obtain ⟨i, rfl⟩ : ∃ i, j = i + 1 := ⟨j - 1, by omega⟩
   obtain ⟨y, hy⟩ : ∃ y, Ls[i]? = some y := ⟨_, List.getElem?_eq_getElem (by omega)⟩
   obtain ⟨u, hu, hr⟩ := Hcell.out _ _ hy
   have hu := cell_later hb hu
   have hne : Ls.drop (i + 1) ≠ [] := by intro e; have := congrArg List.length e; simp at this; omega
   have hl1 := grpX_len kd _ hne
   have hl2 := totX_drop Ls (i + 1)
   have hl3 := totX_drop Ls i
   rw [drop_at hy, totX_cons] at hl3
   have hok : OkX (grpX kd (Ls.drop (i + 1))) := grpX_ok kd _ (fun x hx => by
    obtain ⟨k, hk⟩ := List.getElem?_of_mem (List.mem_of_mem_drop hx)
    obtain ⟨_, _, hr⟩ := Hcell.out _ _ hk
    exact hr.2)
   have Hok := Lib.hid hok
   have Hx := Lib.hid hx
   have Hr1 := Lib.hid (hr.below hb).1
   have Hr2 := Lib.hid ((hr.below hb).2.bd (by omega))
   have Hok2 := Lib.hid (hok.bd (by omega))
   have Hst := Lib.hid (show grpX kd (Ls.drop i) = twoX kd y (grpX kd (Ls.drop (i + 1))) by rw [drop_at hy, grpX_cons kd y hne])
   generalize hG : grpX kd (Ls.drop (i + 1)) = G at *
   have hji : ((i + 1 : Nat) : Int) - 1 = i := by omega
   have hil : (i : Int) < (Ls.length : Int) := by omega
   clear hb hx hy hr hok hne hG
   rw [hji]
   go_wp2_with fail
   (with_reducible refine (two_all kd Hr1.out Hx.out Hr2.out Hok2.out (by omega) (by omega)).mono ?_)
   rintro e w2 ⟨A2, n2, q2, rfl, hb2, hx2⟩
   have Hb2 := Lib.hid (Hb.out.trans (hb2.mono hbs))
   have Hx2 := Lib.hid (hx2.low (Nat.zero_le _))
   clear hb2 hx2
   go_wp2_with fail
   exact ⟨⟨i, by omega, by go_num, Hb2.out, by rw [Hst.out]; exact Hx2.out⟩, by simp [intOf]⟩
end Go.Proofs.YthhnmpkgleelfaaGreatDoor
