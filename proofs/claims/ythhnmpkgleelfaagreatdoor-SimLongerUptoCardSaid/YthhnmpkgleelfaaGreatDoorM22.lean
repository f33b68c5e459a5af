import Derived.Test.YthhnmpkgleelfaaGreatDoorM21
import Derived.Test.YthhnmpkgleelfaaGreatDoorM4
import Derived.Test.YthhnmpkgleelfaaGreatDoorM15
import Derived.Test.YthhnmpkgleelfaaGreatDoorM6
set_option linter.unusedVariables false
set_option linter.unusedSimpArgs false
namespace Go.Proofs.YthhnmpkgleelfaaGreatDoor
open Go.RowKit
def IntP (r : Int) (w : World) (e : Ending) (w' : World) : Prop := e = .returned (.int .i64 r) ∧ w = w'
theorem rwithin_any (a : Int) (h : 0 ≤ a) (k : a ≤ mxS) (w : World) : Calls Tryz.prog 70 #[.int .i64 a] w fun e w' => IntP a w e w' := by
 unfold mxS at k
 go_enter Tryz.func70, Tryz.ntmps70
 go_wp2_with fail
 go_ret
 exact ⟨rfl, rfl⟩
theorem radd_any (a b : Int) (h : 0 ≤ a) (k : a ≤ mxS) (h2 : 0 ≤ b) (k2 : b ≤ mxS) (w : World) : Calls Tryz.prog 45 #[.int .i64 a, .int .i64 b] w fun e w' => IntP (adS a b) w e w' := by
 go_enter Tryz.func45, Tryz.ntmps45
 go_wp2_with fail
 (with_reducible refine (rwithin_any a h k w).mono ?_)
 rintro e w' ⟨rfl, rfl⟩
 go_wp2_with fail
 (with_reducible refine (rwithin_any b h2 k2 w).mono ?_)
 rintro e w' ⟨rfl, rfl⟩
 unfold mxS at k k2
 by_cases hb : 4611686018427387904 - b < a
 ·have e := Lib.hid (show adS a b = 4611686018427387904 by unfold adS mxS; omega)
  go_wp2_with fail
  go_ret
  rw [e.out]
  exact ⟨rfl, rfl⟩
 ·have e := Lib.hid (show adS a b = a + b by unfold adS mxS; omega)
  go_wp2_with fail
  go_ret
  rw [e.out]
  exact ⟨rfl, rfl⟩
theorem quo_le (a b : Int) (h : 0 ≤ a) (h2 : 0 < b) : (4611686018427387904 : Int).tdiv b = 4611686018427387904 / b ∧ (a ≤ 4611686018427387904 / b ↔ a * b ≤ 4611686018427387904) :=
 ⟨Int.tdiv_eq_ediv_of_nonneg (by omega), Int.le_ediv_iff_mul_le h2⟩
set_option maxHeartbeats 1000000 in
theorem rmul_any (a b : Int) (h : 0 ≤ a) (k : a ≤ mxS) (h2 : 0 ≤ b) (k2 : b ≤ mxS) (w : World) : Calls Tryz.prog 71 #[.int .i64 a, .int .i64 b] w fun e w' => IntP (muS a b) w e w' := by
 go_enter Tryz.func71, Tryz.ntmps71
 go_wp2_with fail
 (with_reducible refine (rwithin_any a h k w).mono ?_)
 rintro e w' ⟨rfl, rfl⟩
 go_wp2_with fail
 (with_reducible refine (rwithin_any b h2 k2 w).mono ?_)
 rintro e w' ⟨rfl, rfl⟩
 unfold mxS at k k2
 by_cases ha : a = 0
 ·subst ha
  go_wp2_with fail
  go_ret
  exact ⟨by rw [show muS _ _ = 0 by unfold muS mxS; simp only [Int.zero_mul, Int.mul_zero]; omega]; rfl, rfl⟩
 by_cases hb : b = 0
 ·subst hb
  have ha' : (a == 0) = false := by simpa using ha
  go_wp2_with fail
  go_ret
  exact ⟨by rw [show muS _ _ = 0 by unfold muS mxS; simp only [Int.zero_mul, Int.mul_zero]; omega]; rfl, rfl⟩
 have ha' : (a == 0) = false := by simpa using ha
 have hb' : (b == 0) = false := by simpa using hb
 obtain ⟨q1, q2⟩ := quo_le a b h (by omega)
 have hq0 : 0 ≤ (4611686018427387904 : Int) / b := Int.ediv_nonneg (by omega) h2
 have hq1 : (4611686018427387904 : Int) / b ≤ 4611686018427387904 := Int.ediv_le_self _ (by omega)
 have hmn := Int.mul_nonneg h h2
 have Q2 := Lib.hid q2
 have Hm := Lib.hid hmn
 clear q2 hmn
 obtain ⟨q, hq⟩ : ∃ q, (4611686018427387904 : Int) / b = q := ⟨_, rfl⟩
 rw [hq] at q1 Q2 hq0 hq1
 clear hq
 by_cases hlt : q < a
 ·have e := Lib.hid (show muS a b = 4611686018427387904 by unfold muS mxS; have := Q2.out; omega)
  clear Q2 Hm
  go_wp2_with fail
  go_ret
  rw [e.out]
  exact ⟨rfl, rfl⟩
 ·have hle := Q2.out.1 (by omega)
  have hge := Hm.out
  have e := Lib.hid (show muS a b = a * b by unfold muS mxS; omega)
  obtain ⟨m, hm⟩ : ∃ m, a * b = m := ⟨_, rfl⟩
  have hw : IntKind.i64.wrap (a * b) = a * b := IntWalk.i64_in _ (by omega)
  clear Q2 Hm hle hge hm
  go_wp2_with fail
  go_ret
  rw [e.out]
  exact ⟨rfl, rfl⟩
def NdAt (r : Rx) : Prop := ∀ (p : Nat) (w : World) (v : Value) (ys : List Ex), XRow w 0 v ys → SubAt ys p r → ys.length ≤ 100000 → Calls Tryz.prog 46 #[v, .int .i64 p] w fun e w' => e = .returned (.int .i64 (needF r)) ∧ Below w.heap.size w w'
theorem NdAt.go {r : Rx} (h : NdAt r) {z : Int} (p : Nat) (hz : z = p) {w : World} {v : Value} {ys : List Ex} (hx : XRow w 0 v ys) (hs : SubAt ys p r) (hl : ys.length ≤ 100000) : Calls Tryz.prog 46 #[v, .int .i64 z] w fun e w' => e = .returned (.int .i64 (needF r)) ∧ Below w.heap.size w w' := by subst hz; exact h p w v ys hx hs hl
theorem node_at {w : World} {v : Value} {ys : List Ex} {p : Nat} {x : Ex} (h : XRow w 0 v ys) (hx : ys[p]? = some x) : ∃ g q, v = .slice (some ⟨g, 0, none⟩) ys.length q ∧ p < ys.length ∧ w.cell? ⟨g, p * 7, none⟩ = some (.int .i64 x.kind) ∧ w.cell? ⟨g, p * 7 + 1, none⟩ = some (.int .i32 x.c) ∧ w.cell? ⟨g, p * 7 + 2, none⟩ = some (.string x.ranges) ∧ w.cell? ⟨g, p * 7 + 3, none⟩ = some (.int .i64 x.a) ∧ w.cell? ⟨g, p * 7 + 4, none⟩ = some (.int .i64 x.b) ∧ w.cell? ⟨g, p * 7 + 5, none⟩ = some (.int .i64 x.mn) ∧ w.cell? ⟨g, p * 7 + 6, none⟩ = some (.int .i64 x.mx) := by
 obtain ⟨A, q, rfl, -, -, hA⟩ := h.form
 have hp := (List.getElem?_eq_some_iff.1 hx).1
 obtain ⟨g, rfl⟩ := hA (by omega)
 have h3 := h.node hx
 have c0 := h3 0 _ rfl
 rw [Nat.add_zero] at c0
 exact ⟨g, q, rfl, hp, c0, h3 1 _ rfl, h3 2 _ rfl, h3 3 _ rfl, h3 4 _ rfl, h3 5 _ rfl, h3 6 _ rfl⟩
set_option maxHeartbeats 2000000 in
theorem nd_emp : NdAt .emp := by
 intro p w v ys hx hs hl
 have hx0 : ys[p]? = some ⟨1, 0, noB, 0, 0, 0, 0⟩ := hs 0 _ rfl
 obtain ⟨g, q, rfl, hp, c0, c1, c2, c3, c4, c5, c6⟩ := node_at hx hx0
 dsimp only at c0 c1 c2 c3 c4 c5 c6
 have hpi : (p : Int) < ys.length := by omega
 have Hx := Lib.hid hx
 have Hs := Lib.hid hs
 clear hx hs hx0
 go_enter Tryz.func46, Tryz.ntmps46
 go_wp2_with fail
 go_ret
 exact ⟨rfl, alloc_below _ _⟩
set_option maxHeartbeats 2000000 in
theorem nd_any : NdAt .any := by
 intro p w v ys hx hs hl
 have hx0 : ys[p]? = some ⟨3, 0, noB, 0, 0, 0, 0⟩ := hs 0 _ rfl
 obtain ⟨g, q, rfl, hp, c0, c1, c2, c3, c4, c5, c6⟩ := node_at hx hx0
 dsimp only at c0 c1 c2 c3 c4 c5 c6
 have hpi : (p : Int) < ys.length := by omega
 have Hx := Lib.hid hx
 have Hs := Lib.hid hs
 clear hx hs hx0
 go_enter Tryz.func46, Tryz.ntmps46
 go_wp2_with fail
 go_ret
 exact ⟨rfl, alloc_below _ _⟩
set_option maxHeartbeats 2000000 in
theorem nd_beg : NdAt .beg := by
 intro p w v ys hx hs hl
 have hx0 : ys[p]? = some ⟨5, 0, noB, 0, 0, 0, 0⟩ := hs 0 _ rfl
 obtain ⟨g, q, rfl, hp, c0, c1, c2, c3, c4, c5, c6⟩ := node_at hx hx0
 dsimp only at c0 c1 c2 c3 c4 c5 c6
 have hpi : (p : Int) < ys.length := by omega
 have Hx := Lib.hid hx
 have Hs := Lib.hid hs
 clear hx hs hx0
 go_enter Tryz.func46, Tryz.ntmps46
 go_wp2_with fail
 go_ret
 exact ⟨rfl, alloc_below _ _⟩
set_option maxHeartbeats 2000000 in
theorem nd_fin : NdAt .fin := by
 intro p w v ys hx hs hl
 have hx0 : ys[p]? = some ⟨6, 0, noB, 0, 0, 0, 0⟩ := hs 0 _ rfl
 obtain ⟨g, q, rfl, hp, c0, c1, c2, c3, c4, c5, c6⟩ := node_at hx hx0
 dsimp only at c0 c1 c2 c3 c4 c5 c6
 have hpi : (p : Int) < ys.length := by omega
 have Hx := Lib.hid hx
 have Hs := Lib.hid hs
 clear hx hs hx0
 go_enter Tryz.func46, Tryz.ntmps46
 go_wp2_with fail
 go_ret
 exact ⟨rfl, alloc_below _ _⟩
set_option maxHeartbeats 2000000 in
theorem nd_chr (c : Int) : NdAt (.chr c) := by
 intro p w v ys hx hs hl
 have hx0 : ys[p]? = some ⟨2, c, noB, 0, 0, 0, 0⟩ := hs 0 _ rfl
 obtain ⟨g, q, rfl, hp, c0, c1, c2, c3, c4, c5, c6⟩ := node_at hx hx0
 dsimp only at c0 c1 c2 c3 c4 c5 c6
 have hpi : (p : Int) < ys.length := by omega
 have Hx := Lib.hid hx
 have Hs := Lib.hid hs
 clear hx hs hx0
 go_enter Tryz.func46, Tryz.ntmps46
 go_wp2_with fail
 go_ret
 exact ⟨rfl, alloc_below _ _⟩
set_option maxHeartbeats 2000000 in
theorem nd_set (cs : List Int) : NdAt (.set cs) := by
 intro p w v ys hx hs hl
 have hx0 : ys[p]? = some ⟨4, 0, rngB cs, 0, 0, 0, 0⟩ := hs 0 _ rfl
 obtain ⟨g, q, rfl, hp, c0, c1, c2, c3, c4, c5, c6⟩ := node_at hx hx0
 dsimp only at c0 c1 c2 c3 c4 c5 c6
 have hpi : (p : Int) < ys.length := by omega
 have Hx := Lib.hid hx
 have Hs := Lib.hid hs
 clear hx hs hx0
 go_enter Tryz.func46, Tryz.ntmps46
 go_wp2_with fail
 go_ret
 exact ⟨rfl, alloc_below _ _⟩
set_option maxHeartbeats 4000000 in
set_option maxRecDepth 100000 in
theorem nd_cat {a b : Rx} (ha : NdAt a) (hb : NdAt b) (oa : a.ok) (ob : b.ok) : NdAt (.cat a b) := by
 intro p w v ys hx hs hl
 obtain ⟨ba1, ba2⟩ := needF_bd a oa
 obtain ⟨bb1, bb2⟩ := needF_bd b ob
 have Ha := Lib.hid ha
 have Hb := Lib.hid hb
 obtain ⟨hx7, sa, sb⟩ := hs.cat
 obtain ⟨za, hza⟩ : ∃ z : Int, ((p + 1 : Nat) : Int) = z := ⟨_, rfl⟩
 obtain ⟨zb, hzb⟩ : ∃ z : Int, ((p + 1 + a.size : Nat) : Int) = z := ⟨_, rfl⟩
 rw [hza, hzb] at hx7
 have Hza := Lib.hid hza.symm
 have Hzb := Lib.hid hzb.symm
 clear hza hzb
 have Sa := Lib.hid sa
 have Sb := Lib.hid sb
 clear ha hb sa sb
 have hnf := Lib.hid (show needF (.cat a b) = adS (needF a) (needF b) from rfl)
 have hx0 : ys[p]? = some ⟨7, 0, noB, za, zb, 0, 0⟩ := hx7
 obtain ⟨g, q, rfl, hp, c0, c1, c2, c3, c4, c5, c6⟩ := node_at hx hx0
 dsimp only at c0 c1 c2 c3 c4 c5 c6
 have hpi : (p : Int) < ys.length := by omega
 have Hx := Lib.hid hx
 have Hs := Lib.hid hs
 clear hx hs hx0
 go_enter Tryz.func46, Tryz.ntmps46
 go_wp2_with fail
 have Hal := Lib.hid (alloc_below w (.cells #[.int .i64 7, .int .i32 0, .string noB, .int .i64 za, .int .i64 zb, .int .i64 0, .int .i64 0] 60))
 have Hbx := Lib.hid (heap_alloc_new w (.cells #[.int .i64 7, .int .i32 0, .string noB, .int .i64 za, .int .i64 zb, .int .i64 0, .int .i64 0] 60))
 have Hx1 := Lib.hid (Hx.out.below Hal.out)
 clear c0 c1 c2 c3 c4 c5 c6
 generalize w.alloc (.cells #[.int .i64 7, .int .i32 0, .string noB, .int .i64 za, .int .i64 zb, .int .i64 0, .int .i64 0] 60) = w1 at *
 have hs1 := Hal.out.size
 have hlt := lt_of_heap Hbx.out
 obtain ⟨na, hna⟩ : ∃ n, needF a = n := ⟨_, rfl⟩
 obtain ⟨nb, hnb⟩ : ∃ n, needF b = n := ⟨_, rfl⟩
 rw [hna] at ba1 ba2
 rw [hnb] at bb1 bb2
 have Hna := Lib.hid hna
 have Hnb := Lib.hid hnb
 clear hna hnb
 obtain ⟨bt1, bt2⟩ := adS_bd ba1 bb1
 refine wp_region_noPanic ?_
 refine wp_region_held_drew (S := fun w' => w'.cell? ⟨w.heap.size, 3, none⟩ = some (.int .i64 za) ∧ w'.cell? ⟨w.heap.size, 4, none⟩ = some (.int .i64 zb)) (by kernel_rfl) (⟨row_cell Hbx.out (j := 3) rfl, row_cell Hbx.out (j := 4) rfl⟩) (fun hHeld => ?_)
 refine tkH 0 (v := ?v0) (nth rfl) (by kernel_rfl) (by kernel_rfl) (by kernel_rfl) (fun _ _ _ h => h) (by rfl) hHeld ?y0 ?r0
 case y0 => (intro w hSw; (try dsimp only at hSw); go_simp; (try with_reducible rfl))
 try simp only [Act.put, pA, pB, pC]
 refine tkH 1 (v := ?v1) (nth rfl) (by kernel_rfl) (by kernel_rfl) (by kernel_rfl) (fun _ _ _ h => h) (by rfl) hHeld ?y1 ?r1
 case y1 => (intro w hSw; (try dsimp only at hSw); go_simp; (try with_reducible rfl))
 try simp only [Act.put, pA, pB, pC]
 refine tkH 2 (v := ?v2) (nth rfl) (by kernel_rfl) (by kernel_rfl) (by kernel_rfl) (fun _ _ _ h => h) (by rfl) hHeld ?y2 ?r2
 case y2 => (intro w hSw; (try dsimp only at hSw); go_simp; (try with_reducible rfl))
 try simp only [Act.put, pA, pB, pC]
 refine tkH 4 (v := ?v3) (nth rfl) (by kernel_rfl) (by kernel_rfl) (by kernel_rfl) (fun _ _ _ h => h) (by rfl) hHeld ?y3 ?r3
 case y3 => (intro w hSw; (try dsimp only at hSw); go_simp; (try with_reducible rfl))
 try simp only [Act.put, pA, pB, pC]
 refine tkH 5 (v := ?v4) (nth rfl) (by kernel_rfl) (by kernel_rfl) (by kernel_rfl) (fun _ _ _ h => h) (by rfl) hHeld ?y4 ?r4
 case y4 => (intro w hSw; (try dsimp only at hSw); go_simp; (try with_reducible rfl))
 try simp only [Act.put, pA, pB, pC]
 refine tkH 6 (v := ?v5) (nth rfl) (by kernel_rfl) (by kernel_rfl) (by kernel_rfl) (fun _ _ _ h => h) (by rfl) hHeld ?y5 ?r5
 case y5 => (intro w hSw; (try dsimp only at hSw); go_simp; (try with_reducible rfl))
 try simp only [Act.put, pA, pB, pC]
 refine wpAnyH_ready (rs := [3]) (by kernel_rfl) (by simp) ?_
 refine AllReadyH.cons (nth rfl) (fun K hK => ?_) AllReadyH.nil
 go_simp
 refine (Ha.out.go (w := w1.drew) (p + 1) Hza.out (Hx1.out.below ((Below.refl _ _).drew)) Sa.out hl).mono ?_; rintro e w5 ⟨rfl, hb5⟩; have hb5' : Below w1.heap.size w1 w5 := (Below.refl w1.heap.size w1).drew.trans hb5; have Hb5 := Lib.hid hb5'; have Hx5 := Lib.hid (Hx1.out.below hb5'); have hs5 := hb5'.size; clear hb5'; rw [Hna.out]; go_simp
 refine hK.out _ _ (⟨cell_later hb5 hHeld.1, cell_later hb5 hHeld.2⟩) (fun hHeld => ?_)
 clear hK K
 try simp only [Act.put, pA, pB, pC]
 refine wpAnyH_ready (rs := [7]) (by kernel_rfl) (by simp) ?_
 refine AllReadyH.cons (nth rfl) (fun K hK => ?_) AllReadyH.nil
 go_simp
 refine (Hb.out.go (w := w5) (p + 1 + a.size) Hzb.out Hx5.out Sb.out hl).mono ?_; rintro e w6 ⟨rfl, hb6⟩; have Hb6 := Lib.hid (Hb5.out.trans (hb6.mono hs5)); have hs6 := hb6.size; rw [Hnb.out]; go_simp
 refine hK.out _ _ (⟨cell_later hb6 hHeld.1, cell_later hb6 hHeld.2⟩) (fun hHeld => ?_)
 clear hK K
 try simp only [Act.put, pA, pB, pC]
 refine wpAnyH_ready (rs := [8]) (by kernel_rfl) (by simp) ?_
 refine AllReadyH.cons (nth rfl) (fun K hK => ?_) AllReadyH.nil
 go_simp
 refine (radd_any na nb ba1 ba2 bb1 bb2 w6).mono ?_; rintro e w' ⟨rfl, rfl⟩; go_simp
 refine hK.out _ _ (hHeld) (fun hHeld => ?_)
 clear hK K
 try simp only [Act.put, pA, pB, pC]
 refine tkH 9 (v := ?v6) (nth rfl) (by kernel_rfl) (by kernel_rfl) (by kernel_rfl) (fun _ _ _ h => h) (by rfl) hHeld ?y6 ?r6
 case y6 => (intro w hSw; (try dsimp only at hSw); go_simp; (try with_reducible rfl))
 try simp only [Act.put, pA, pB, pC]
 refine wpAnyH_done (by kernel_rfl) (NoPanic.normal ?_) _
 clear hHeld
 go_wp2_with fail
 go_ret
 exact ⟨by rw [hnf.out, Hna.out, Hnb.out]; rfl, Hal.out.trans (Hb6.out.mono hs1)⟩
set_option maxHeartbeats 4000000 in
set_option maxRecDepth 100000 in
theorem nd_alt {a b : Rx} (ha : NdAt a) (hb : NdAt b) (oa : a.ok) (ob : b.ok) : NdAt (.alt a b) := by
 intro p w v ys hx hs hl
 obtain ⟨ba1, ba2⟩ := needF_bd a oa
 obtain ⟨bb1, bb2⟩ := needF_bd b ob
 have Ha := Lib.hid ha
 have Hb := Lib.hid hb
 obtain ⟨hx7, sa, sb⟩ := hs.alt
 obtain ⟨za, hza⟩ : ∃ z : Int, ((p + 1 : Nat) : Int) = z := ⟨_, rfl⟩
 obtain ⟨zb, hzb⟩ : ∃ z : Int, ((p + 1 + a.size : Nat) : Int) = z := ⟨_, rfl⟩
 rw [hza, hzb] at hx7
 have Hza := Lib.hid hza.symm
 have Hzb := Lib.hid hzb.symm
 clear hza hzb
 have Sa := Lib.hid sa
 have Sb := Lib.hid sb
 clear ha hb sa sb
 have hnf := Lib.hid (show needF (.alt a b) = adS (adS (needF a) (needF b)) 1 from rfl)
 have hx0 : ys[p]? = some ⟨8, 0, noB, za, zb, 0, 0⟩ := hx7
 obtain ⟨g, q, rfl, hp, c0, c1, c2, c3, c4, c5, c6⟩ := node_at hx hx0
 dsimp only at c0 c1 c2 c3 c4 c5 c6
 have hpi : (p : Int) < ys.length := by omega
 have Hx := Lib.hid hx
 have Hs := Lib.hid hs
 clear hx hs hx0
 go_enter Tryz.func46, Tryz.ntmps46
 go_wp2_with fail
 have Hal := Lib.hid (alloc_below w (.cells #[.int .i64 8, .int .i32 0, .string noB, .int .i64 za, .int .i64 zb, .int .i64 0, .int .i64 0] 60))
 have Hbx := Lib.hid (heap_alloc_new w (.cells #[.int .i64 8, .int .i32 0, .string noB, .int .i64 za, .int .i64 zb, .int .i64 0, .int .i64 0] 60))
 have Hx1 := Lib.hid (Hx.out.below Hal.out)
 clear c0 c1 c2 c3 c4 c5 c6
 generalize w.alloc (.cells #[.int .i64 8, .int .i32 0, .string noB, .int .i64 za, .int .i64 zb, .int .i64 0, .int .i64 0] 60) = w1 at *
 have hs1 := Hal.out.size
 have hlt := lt_of_heap Hbx.out
 obtain ⟨na, hna⟩ : ∃ n, needF a = n := ⟨_, rfl⟩
 obtain ⟨nb, hnb⟩ : ∃ n, needF b = n := ⟨_, rfl⟩
 rw [hna] at ba1 ba2
 rw [hnb] at bb1 bb2
 have Hna := Lib.hid hna
 have Hnb := Lib.hid hnb
 clear hna hnb
 obtain ⟨bt1, bt2⟩ := adS_bd ba1 bb1
 refine wp_region_noPanic ?_
 refine wp_region_held_drew (S := fun w' => w'.cell? ⟨w.heap.size, 3, none⟩ = some (.int .i64 za) ∧ w'.cell? ⟨w.heap.size, 4, none⟩ = some (.int .i64 zb)) (by kernel_rfl) (⟨row_cell Hbx.out (j := 3) rfl, row_cell Hbx.out (j := 4) rfl⟩) (fun hHeld => ?_)
 refine tkH 0 (v := ?v7) (nth rfl) (by kernel_rfl) (by kernel_rfl) (by kernel_rfl) (fun _ _ _ h => h) (by rfl) hHeld ?y7 ?r7
 case y7 => (intro w hSw; (try dsimp only at hSw); go_simp; (try with_reducible rfl))
 try simp only [Act.put, pA, pB, pC]
 refine tkH 1 (v := ?v8) (nth rfl) (by kernel_rfl) (by kernel_rfl) (by kernel_rfl) (fun _ _ _ h => h) (by rfl) hHeld ?y8 ?r8
 case y8 => (intro w hSw; (try dsimp only at hSw); go_simp; (try with_reducible rfl))
 try simp only [Act.put, pA, pB, pC]
 refine tkH 2 (v := ?v9) (nth rfl) (by kernel_rfl) (by kernel_rfl) (by kernel_rfl) (fun _ _ _ h => h) (by rfl) hHeld ?y9 ?r9
 case y9 => (intro w hSw; (try dsimp only at hSw); go_simp; (try with_reducible rfl))
 try simp only [Act.put, pA, pB, pC]
 refine tkH 4 (v := ?va) (nth rfl) (by kernel_rfl) (by kernel_rfl) (by kernel_rfl) (fun _ _ _ h => h) (by rfl) hHeld ?ya ?ra
 case ya => (intro w hSw; (try dsimp only at hSw); go_simp; (try with_reducible rfl))
 try simp only [Act.put, pA, pB, pC]
 refine tkH 5 (v := ?vb) (nth rfl) (by kernel_rfl) (by kernel_rfl) (by kernel_rfl) (fun _ _ _ h => h) (by rfl) hHeld ?yb ?rb
 case yb => (intro w hSw; (try dsimp only at hSw); go_simp; (try with_reducible rfl))
 try simp only [Act.put, pA, pB, pC]
 refine tkH 6 (v := ?vc) (nth rfl) (by kernel_rfl) (by kernel_rfl) (by kernel_rfl) (fun _ _ _ h => h) (by rfl) hHeld ?yc ?rc
 case yc => (intro w hSw; (try dsimp only at hSw); go_simp; (try with_reducible rfl))
 try simp only [Act.put, pA, pB, pC]
 refine wpAnyH_ready (rs := [3]) (by kernel_rfl) (by simp) ?_
 refine AllReadyH.cons (nth rfl) (fun K hK => ?_) AllReadyH.nil
 go_simp
 refine (Ha.out.go (w := w1.drew) (p + 1) Hza.out (Hx1.out.below ((Below.refl _ _).drew)) Sa.out hl).mono ?_; rintro e w5 ⟨rfl, hb5⟩; have hb5' : Below w1.heap.size w1 w5 := (Below.refl w1.heap.size w1).drew.trans hb5; have Hb5 := Lib.hid hb5'; have Hx5 := Lib.hid (Hx1.out.below hb5'); have hs5 := hb5'.size; clear hb5'; rw [Hna.out]; go_simp
 refine hK.out _ _ (⟨cell_later hb5 hHeld.1, cell_later hb5 hHeld.2⟩) (fun hHeld => ?_)
 clear hK K
 try simp only [Act.put, pA, pB, pC]
 refine wpAnyH_ready (rs := [7]) (by kernel_rfl) (by simp) ?_
 refine AllReadyH.cons (nth rfl) (fun K hK => ?_) AllReadyH.nil
 go_simp
 refine (Hb.out.go (w := w5) (p + 1 + a.size) Hzb.out Hx5.out Sb.out hl).mono ?_; rintro e w6 ⟨rfl, hb6⟩; have Hb6 := Lib.hid (Hb5.out.trans (hb6.mono hs5)); have hs6 := hb6.size; rw [Hnb.out]; go_simp
 refine hK.out _ _ (⟨cell_later hb6 hHeld.1, cell_later hb6 hHeld.2⟩) (fun hHeld => ?_)
 clear hK K
 try simp only [Act.put, pA, pB, pC]
 refine wpAnyH_ready (rs := [8]) (by kernel_rfl) (by simp) ?_
 refine AllReadyH.cons (nth rfl) (fun K hK => ?_) AllReadyH.nil
 go_simp
 refine (radd_any na nb ba1 ba2 bb1 bb2 w6).mono ?_; rintro e w' ⟨rfl, rfl⟩; go_simp
 refine hK.out _ _ (hHeld) (fun hHeld => ?_)
 clear hK K
 try simp only [Act.put, pA, pB, pC]
 refine wpAnyH_ready (rs := [9]) (by kernel_rfl) (by simp) ?_
 refine AllReadyH.cons (nth rfl) (fun K hK => ?_) AllReadyH.nil
 go_simp
 refine (radd_any (adS na nb) 1 bt1 bt2 (by omega) (by decide) w6).mono ?_; rintro e w' ⟨rfl, rfl⟩; go_simp
 refine hK.out _ _ (hHeld) (fun hHeld => ?_)
 clear hK K
 try simp only [Act.put, pA, pB, pC]
 refine tkH 10 (v := ?vd) (nth rfl) (by kernel_rfl) (by kernel_rfl) (by kernel_rfl) (fun _ _ _ h => h) (by rfl) hHeld ?yd ?rd
 case yd => (intro w hSw; (try dsimp only at hSw); go_simp; (try with_reducible rfl))
 try simp only [Act.put, pA, pB, pC]
 refine wpAnyH_done (by kernel_rfl) (NoPanic.normal ?_) _
 clear hHeld
 go_wp2_with fail
 go_ret
 exact ⟨by rw [hnf.out, Hna.out, Hnb.out]; rfl, Hal.out.trans (Hb6.out.mono hs1)⟩
set_option maxHeartbeats 4000000 in
set_option maxRecDepth 100000 in
theorem nd_rep {a : Rx} {mn mx : Int} (ha : NdAt a) (oa : a.ok) (h1 : 0 ≤ mn) (h2 : mn ≤ 1000) (h3 : mx = -1 ∨ (mn ≤ mx ∧ mx ≤ 1000)) : NdAt (.rep a mn mx) := by
 intro p w v ys hx hs hl
 obtain ⟨ba1, ba2⟩ := needF_bd a oa
 have Ha := Lib.hid ha
 obtain ⟨hx9, sa⟩ := hs.rep
 obtain ⟨za, hza⟩ : ∃ z : Int, ((p + 1 : Nat) : Int) = z := ⟨_, rfl⟩
 rw [hza] at hx9
 have Hza := Lib.hid hza.symm
 have Sa := Lib.hid sa
 clear ha sa hza
 have hnf := Lib.hid (show needF (.rep a mn mx) = if mx < 0 then adS (muS mn (needF a)) (adS (needF a) 1) else adS (muS mn (needF a)) (muS (mx - mn) (adS (needF a) 1)) from rfl)
 obtain ⟨g, q, rfl, hp, c0, c1, c2, c3, c4, c5, c6⟩ := node_at hx hx9
 dsimp only at c0 c1 c2 c3 c4 c5 c6
 have hpi : (p : Int) < ys.length := by omega
 have Hx := Lib.hid hx
 clear hx hs hx9
 go_enter Tryz.func46, Tryz.ntmps46
 go_wp2_with fail
 have Hal := Lib.hid (alloc_below w (.cells #[.int .i64 9, .int .i32 0, .string noB, .int .i64 za, .int .i64 0, .int .i64 mn, .int .i64 mx] 60))
 have Hbx := Lib.hid (heap_alloc_new w (.cells #[.int .i64 9, .int .i32 0, .string noB, .int .i64 za, .int .i64 0, .int .i64 mn, .int .i64 mx] 60))
 have Hx1 := Lib.hid (Hx.out.below Hal.out)
 clear c0 c1 c2 c3 c4 c5 c6
 generalize w.alloc (.cells #[.int .i64 9, .int .i32 0, .string noB, .int .i64 za, .int .i64 0, .int .i64 mn, .int .i64 mx] 60) = w1 at *
 have hs1 := Hal.out.size
 (with_reducible refine (Ha.out.go (p + 1) Hza.out Hx1.out Sa.out hl).mono ?_)
 rintro e w2 ⟨rfl, hb2⟩
 obtain ⟨na, hna⟩ : ∃ n, needF a = n := ⟨_, rfl⟩
 rw [hna] at ba1 ba2 ⊢
 have Hna := Lib.hid hna
 have Hbx2 := Lib.hid ((hb2.block _ (lt_of_heap Hbx.out)).trans Hbx.out)
 have d5 := row_cell Hbx2.out (j := 5) (u := .int .i64 mn) rfl
 have d6 := row_cell Hbx2.out (j := 6) (u := .int .i64 mx) rfl
 have Hb2 := Lib.hid (Hal.out.trans (hb2.mono hs1))
 obtain ⟨bm1, bm2⟩ := muS_bd h1 ba1
 obtain ⟨bo1, bo2⟩ := adS_bd ba1 (show (0 : Int) ≤ 1 by omega)
 clear hna hb2
 go_wp2_with fail
 (with_reducible refine (rmul_any mn na h1 (by unfold mxS; omega) ba1 ba2 w2).mono ?_)
 rintro e w' ⟨rfl, rfl⟩
 rcases h3 with rfl | ⟨h3, h4⟩
 ·go_wp2_with fail
  (with_reducible refine (radd_any na 1 ba1 ba2 (by omega) (by decide) w2).mono ?_)
  rintro e w' ⟨rfl, rfl⟩
  go_wp2_with fail
  (with_reducible refine (radd_any (muS mn na) (adS na 1) bm1 bm2 bo1 bo2 w2).mono ?_)
  rintro e w' ⟨rfl, rfl⟩
  go_wp2_with fail
  go_ret
  exact ⟨by rw [hnf.out, Hna.out]; rfl, Hb2.out⟩
 ·have hmx : ¬ mx < 0 := by omega
  obtain ⟨bx1, bx2⟩ := muS_bd (show 0 ≤ mx - mn by omega) bo1
  go_wp2_with fail
  have hw1 : IntKind.i64.wrap (mx - mn) = mx - mn := IntWalk.i64_in _ (by omega)
  have D5 := Lib.hid d5
  have D6 := Lib.hid d6
  clear d5 d6
  refine wp_region_noPanic ?_
  refine wp_region_held_drew (S := fun w' => w'.cell? ⟨w.heap.size, 5, none⟩ = some (.int .i64 mn) ∧ w'.cell? ⟨w.heap.size, 6, none⟩ = some (.int .i64 mx)) (by kernel_rfl) (⟨D5.out, D6.out⟩) (fun hHeld => ?_)
  refine tkH 0 (v := ?v0) (nth rfl) (by kernel_rfl) (by kernel_rfl) (by kernel_rfl) (fun _ _ _ h => h) (by rfl) hHeld ?y0 ?r0
  case y0 => (intro w hSw; (try dsimp only at hSw); go_simp; (try with_reducible rfl))
  try simp only [Act.put, pA, pB, pC]
  refine tkH 1 (v := ?v1) (nth rfl) (by kernel_rfl) (by kernel_rfl) (by kernel_rfl) (fun _ _ _ h => h) (by rfl) hHeld ?y1 ?r1
  case y1 => (intro w hSw; (try dsimp only at hSw); go_simp; (try with_reducible rfl))
  try simp only [Act.put, pA, pB, pC]
  refine tkH 2 (v := ?v2) (nth rfl) (by kernel_rfl) (by kernel_rfl) (by kernel_rfl) (fun _ _ _ h => h) (by rfl) hHeld ?y2 ?r2
  case y2 => (intro w hSw; (try dsimp only at hSw); go_simp; (try with_reducible rfl))
  try simp only [Act.put, pA, pB, pC]
  refine tkH 3 (v := ?v3) (nth rfl) (by kernel_rfl) (by kernel_rfl) (by kernel_rfl) (fun _ _ _ h => h) (by rfl) hHeld ?y3 ?r3
  case y3 => (intro w hSw; (try dsimp only at hSw); go_simp; (try with_reducible rfl))
  try simp only [Act.put, pA, pB, pC]
  refine tkH 4 (v := ?v4) (nth rfl) (by kernel_rfl) (by kernel_rfl) (by kernel_rfl) (fun _ _ _ h => h) (by rfl) hHeld ?y4 ?r4
  case y4 => (intro w hSw; (try dsimp only at hSw); go_simp; (try with_reducible rfl))
  try simp only [Act.put, pA, pB, pC]
  refine tkH 5 (v := ?v5) (nth rfl) (by kernel_rfl) (by kernel_rfl) (by kernel_rfl) (fun _ _ _ h => h) (by rfl) hHeld ?y5 ?r5
  case y5 => (intro w hSw; (try dsimp only at hSw); go_simp; (try with_reducible rfl))
  try simp only [Act.put, pA, pB, pC]
  refine tkH 6 (v := ?v6) (nth rfl) (by kernel_rfl) (by kernel_rfl) (by kernel_rfl) (fun _ _ _ h => h) (by rfl) hHeld ?y6 ?r6
  case y6 => (intro w hSw; (try dsimp only at hSw); go_simp; (try with_reducible rfl))
  try simp only [Act.put, pA, pB, pC]
  refine wpAnyH_ready (rs := [7]) (by kernel_rfl) (by simp) ?_
  refine AllReadyH.cons (nth rfl) (fun K hK => ?_) AllReadyH.nil
  go_simp
  refine (radd_any na 1 ba1 ba2 (by omega) (by decide) w2.drew).mono ?_; rintro e w' ⟨rfl, rfl⟩; go_simp
  refine hK.out _ _ (hHeld) (fun hHeld => ?_)
  clear hK K
  try simp only [Act.put, pA, pB, pC]
  refine wpAnyH_ready (rs := [8]) (by kernel_rfl) (by simp) ?_
  refine AllReadyH.cons (nth rfl) (fun K hK => ?_) AllReadyH.nil
  go_simp
  refine (rmul_any (mx - mn) (adS na 1) (by omega) (by unfold mxS; omega) bo1 bo2 w2.drew).mono ?_; rintro e w' ⟨rfl, rfl⟩; go_simp
  refine hK.out _ _ (hHeld) (fun hHeld => ?_)
  clear hK K
  try simp only [Act.put, pA, pB, pC]
  refine wpAnyH_ready (rs := [9]) (by kernel_rfl) (by simp) ?_
  refine AllReadyH.cons (nth rfl) (fun K hK => ?_) AllReadyH.nil
  go_simp
  refine (radd_any (muS mn na) (muS (mx - mn) (adS na 1)) bm1 bm2 bx1 bx2 w2.drew).mono ?_; rintro e w' ⟨rfl, rfl⟩; go_simp
  refine hK.out _ _ (hHeld) (fun hHeld => ?_)
  clear hK K
  try simp only [Act.put, pA, pB, pC]
  refine tkH 10 (v := ?v7) (nth rfl) (by kernel_rfl) (by kernel_rfl) (by kernel_rfl) (fun _ _ _ h => h) (by rfl) hHeld ?y7 ?r7
  case y7 => (intro w hSw; (try dsimp only at hSw); go_simp; (try with_reducible rfl))
  try simp only [Act.put, pA, pB, pC]
  refine wpAnyH_done (by kernel_rfl) (NoPanic.normal ?_) _
  clear hHeld
  go_wp2_with fail
  go_ret
  exact ⟨by rw [hnf.out, Hna.out, if_neg (show ¬ mx < 0 by omega)]; rfl, Hb2.out.drew⟩
theorem nd_all : ∀ (r : Rx), r.ok → NdAt r
 | .emp, _ => nd_emp
 | .chr c, _ => nd_chr c
 | .any, _ => nd_any
 | .set cs, _ => nd_set cs
 | .beg, _ => nd_beg
 | .fin, _ => nd_fin
 | .cat a b, h => nd_cat (nd_all a h.1) (nd_all b h.2) h.1 h.2
 | .alt a b, h => nd_alt (nd_all a h.1) (nd_all b h.2) h.1 h.2
 | .rep a mn mx, h => nd_rep (nd_all a h.1) h.1 h.2.1 h.2.2.1 h.2.2.2
def StP (r : Rx) (w : World) (e : Ending) (w' : World) : Prop := e = .returned (.int .i64 (statesF r)) ∧ Below w.heap.size w w'
set_option maxHeartbeats 2000000 in
theorem rstates_any {w : World} {v : Value} {r : Rx} (h : XRow w 0 v (r.flat 0)) (ho : r.ok) (hl : r.size ≤ 100000) : Calls Tryz.prog 19 #[v] w fun e w' => StP r w e w' := by
 obtain ⟨A, q, rfl, -, -, -⟩ := h.form
 have H := Lib.hid h
 obtain ⟨b1, b2⟩ := needF_bd r ho
 have hpos := r.size_pos
 have hne : ((r.size : Int) == 0) = false := by simp; omega
 rw [r.flat_len]
 have hn := Lib.hid (nd_all r ho)
 clear h
 go_enter Tryz.func19, Tryz.ntmps19
 go_wp2_with fail
 have hx := H.out
 rw [r.flat_len] at hx
 (with_reducible refine (hn.out.go (z := 0) 0 rfl hx (SubAt.whole r) (by rw [r.flat_len]; exact hl)).mono ?_)
 rintro e w2 ⟨rfl, hb2⟩
 have Hb2 := Lib.hid hb2
 clear hb2 hx
 go_wp2_with fail
 (with_reducible refine (radd_any (needF r) 1 b1 b2 (by omega) (by decide) w2).mono ?_)
 rintro e w' ⟨rfl, rfl⟩
 go_wp2_with fail
 go_ret
 exact ⟨rfl, Hb2.out⟩
theorem conv_bytes (W : World) (s : ByteArray) (hs : s.size ≤ 9223372036854775807) : ∃ W2 cap, (convert 9 54 (.string s)).run Tryz.prog W = .ok (.slice (some ⟨W.heap.size, 0, none⟩) s.size cap) W2 ∧
  Below W.heap.size W W2 ∧ Bs W2 (.slice (some ⟨W.heap.size, 0, none⟩) s.size cap) s.data.toList := by
 refine ⟨Lib.bytesWorld W 5 s, grownCap W s.size 0 5, Lib.run_convert_string_bytes W 9 54 5 s Tryz.underlying9 Tryz.underlying54 Tryz.underlying5, ?_, ?_⟩
 ·exact ⟨rfl, rfl, rfl, by rw [Lib.bytesWorld_size]; omega, fun k hk => Lib.bytesWorld_at_old _ _ _ _ hk⟩
 ·have hl : s.data.toList.length = s.size := by simp
  refine ⟨by omega, _, _, by rw [hl], by rw [hl]; exact grownCap_ge _ _ _ _, fun _ => ⟨_, 0, rfl, fun i hi => ?_⟩⟩
  rw [Nat.zero_add]
  exact Lib.bytesWorld_cell W 5 s i (by omega)
def RunesP (w : World) (s : ByteArray) (e : Ending) (w' : World) : Prop := ∃ A n q, e = .returned (.slice A n q) ∧ Below w.heap.size w w' ∧ Rns w' w.heap.size (.slice A n q) (runes badR s.data.toList)
def RunRel (w : World) (xs : List UInt8) (s3 s4 : Value) (wr : World) : Prop := ∃ (ys : List UInt8) (A : Option Addr) (c : Nat) (pre : List Int), s4 = .slice A ys.length c ∧ Bs w (.slice A ys.length c) ys ∧ runes badR xs = pre ++ runes badR ys ∧ pre.length + ys.length ≤ xs.length ∧ Below w.heap.size w wr ∧ Rns wr w.heap.size s3 pre
set_option maxRecDepth 100000 in
set_option maxHeartbeats 2000000 in
theorem refrunes_any (w : World) (s : ByteArray) (hs : s.size ≤ 10000000) : Calls Tryz.prog 30 #[.string s] w fun e w' => RunesP w s e w' := by
 obtain ⟨W2, cap, hconv, hb2, hbs⟩ := conv_bytes w s (by omega)
 have hl : s.data.toList.length = s.size := by simp
 rw [← hl] at hconv hbs hs
 unfold RunesP
 generalize s.data.toList = xs at *
 have Hb2 := Lib.hid hb2
 have Hbs := Lib.hid hbs
 clear hb2 hbs hl
 go_enter Tryz.func30, Tryz.ntmps30
 go_wp2_with fail
 go_loopw [3, 4, 5, 6, 7, 13] (fun s3 s4 _ _ _ _ wr => RunRel W2 xs s3 s4 wr) (fun _ v _ _ _ _ _ => match v with | .slice _ n _ => n | _ => 0)
 case atStart => exact ⟨xs, _, _, [], rfl, Hbs.out, rfl, by simp, Below.refl _ _, rfl, .inl ⟨rfl, rfl⟩⟩
 case round =>
  obtain ⟨ys, A, c, pre, rfl, hb, he, hlen, hbel, ho⟩ := hrel
  obtain ⟨hm, _, _, e', hcap, hcell⟩ := id hb
  injection e' with e1 e2 e3
  subst e1 e3
  have Hb := Lib.hid hb
  have He := Lib.hid he
  have Hbel := Lib.hid hbel
  have Ho := Lib.hid ho
  have hszr := hbel.size
  clear hb he hbel ho e2
  by_cases h0 : 0 < ys.length
  ·obtain ⟨b, o, rfl, -⟩ := hcell h0
   have hlt : (0 : Int) < ys.length := by omega
   clear hcell
   go_wp2_with fail
   refine (refdec_any (Hb.out.below Hbel.out)).mono ?_
   rintro e w3 ⟨⟨code, rfl, hcode⟩, hb3⟩
   have Hb3 := Lib.hid hb3
   have hsz3 := hb3.size
   clear hb3
   have hne : ys ≠ [] := by intro e; subst e; simp at h0
   have Hcut := Lib.hid (fun (k : Nat) (hk : k ≤ ys.length) => Hb.out.cut hk)
   by_cases hz : (dec ys).2.2 = 0
   ·have hc0 : code = 0 := hcode.2 hz
    subst hc0
    have hn1 : 1 ≤ (dec ys).2.1 := dec_pos hz
    have hn2 : (dec ys).2.1 ≤ ys.length := dec_le ys
    have Hrun := Lib.hid (show runes badR xs = (pre ++ [((dec ys).1 : Int)]) ++ runes badR (ys.drop (dec ys).2.1) by rw [He.out, runes_good hne hz]; simp)
    clear hcode hz
    generalize (dec ys).1 = ch at *
    generalize (dec ys).2.1 = nn at *
    have Hcn := Lib.hid (cells_new w3 [runeV (ch : Int)] 21)
    have Hoa := Lib.hid ((ownsRow_below Ho.out Hb3.out (Nat.le_refl _)).below' (alloc_below w3 (.cells #[.int .i32 (ch : Int)] 21)))
    have Hba := Lib.hid (Hbel.out.trans (Hb3.out.mono hszr))
    have Hbsa := Lib.hid (Hcut.out nn hn2)
    by_cases hcn : c = nn
    ·have hcn' : (c == nn) = true := by simpa using hcn
     go_wp2_with (at_builtin; refine wpList_append_k elRune rfl (.tmp 21) (.tmp 23) rfl W2.heap.size u3 pre.length w3.heap.size 1 1 (pre.map runeV) [runeV (ch : Int)] (by simp [Act.eval]) Hoa.out (by simp [Act.eval]) rfl Hcn.out (by simp [runeV, Value.oneCell']) (by unfold maxLen; omega) (by omega) (by simp; omega) ?_; intro v' w5 p1 p2 p3; have Hp1 := Lib.hid p1; have Hp2 := Lib.hid p2; clear p1 p2 p3)
     refine ⟨⟨ys.drop nn, _, _, pre ++ [(ch : Int)], by rw [List.length_drop], by rw [List.length_drop]; exact ⟨by rw [List.length_drop]; omega, _, _, by rw [List.length_drop], by rw [List.length_drop]; omega, fun h => absurd h (by rw [List.length_drop]; omega)⟩, Hrun.out, by rw [List.length_drop]; simp; omega, own_below (Hba.out.alloc (Nat.le_trans hszr hsz3) _) Hoa.out (Nat.le_trans (Nat.le_trans hszr hsz3) (by simp)) Hp2.out, by unfold Rns; rw [List.length_append, List.map_append]; exact Hp1.out⟩, ?_⟩
     show ys.length - nn < ys.length
     omega
    ·go_wp2_with (at_builtin; refine wpList_append_k elRune rfl (.tmp 21) (.tmp 23) rfl W2.heap.size u3 pre.length w3.heap.size 1 1 (pre.map runeV) [runeV (ch : Int)] (by simp [Act.eval]) Hoa.out (by simp [Act.eval]) rfl Hcn.out (by simp [runeV, Value.oneCell']) (by unfold maxLen; omega) (by omega) (by simp; omega) ?_; intro v' w5 p1 p2 p3; have Hp1 := Lib.hid p1; have Hp2 := Lib.hid p2; clear p1 p2 p3)
     refine ⟨⟨ys.drop nn, _, _, pre ++ [(ch : Int)], by rw [List.length_drop], by rw [List.length_drop]; exact Hbsa.out, Hrun.out, by rw [List.length_drop]; simp; omega, own_below (Hba.out.alloc (Nat.le_trans hszr hsz3) _) Hoa.out (Nat.le_trans (Nat.le_trans hszr hsz3) (by simp)) Hp2.out, by unfold Rns; rw [List.length_append, List.map_append]; exact Hp1.out⟩, ?_⟩
     show ys.length - nn < ys.length
     omega
   ·have hb1 : runes badR ys = (-1) :: runes badR (ys.drop 1) := by
     cases ys with
     | nil => exact absurd rfl hne
     | cons x t => rw [runes_bad hz]; rfl
    have hc0 : (code != 0) = true := by
     have : code ≠ 0 := fun h => hz (hcode.1 h)
     simpa using this
    have hn1 : 1 ≤ 1 := Nat.le_refl _
    have hn2 : 1 ≤ ys.length := h0
    have Hrun := Lib.hid (show runes badR xs = (pre ++ [(-1 : Int)]) ++ runes badR (ys.drop 1) by rw [He.out, hb1]; simp)
    clear hcode hz hne hb1
    have Hcn := Lib.hid (cells_new w3 [runeV (-1)] 21)
    have Hoa := Lib.hid ((ownsRow_below Ho.out Hb3.out (Nat.le_refl _)).below' (alloc_below w3 (.cells #[.int .i32 (-1)] 21)))
    have Hba := Lib.hid (Hbel.out.trans (Hb3.out.mono hszr))
    have Hbsa := Lib.hid (Hcut.out 1 hn2)
    by_cases hcn : c = 1
    ·have hcn' : (c == 1) = true := by simpa using hcn
     go_wp2_with (at_builtin; refine wpList_append_k elRune rfl (.tmp 21) (.tmp 23) rfl W2.heap.size u3 pre.length w3.heap.size 1 1 (pre.map runeV) [runeV (-1)] (by simp [Act.eval]) Hoa.out (by simp [Act.eval]) rfl Hcn.out (by simp [runeV, Value.oneCell']) (by unfold maxLen; omega) (by omega) (by simp; omega) ?_; intro v' w5 p1 p2 p3; have Hp1 := Lib.hid p1; have Hp2 := Lib.hid p2; clear p1 p2 p3)
     refine ⟨⟨ys.drop 1, _, _, pre ++ [(-1)], by rw [List.length_drop], by rw [List.length_drop]; exact ⟨by rw [List.length_drop]; omega, _, _, by rw [List.length_drop], by rw [List.length_drop]; omega, fun h => absurd h (by rw [List.length_drop]; omega)⟩, Hrun.out, by rw [List.length_drop]; simp; omega, own_below (Hba.out.alloc (Nat.le_trans hszr hsz3) _) Hoa.out (Nat.le_trans (Nat.le_trans hszr hsz3) (by simp)) Hp2.out, by unfold Rns; rw [List.length_append, List.map_append]; exact Hp1.out⟩, ?_⟩
     show ys.length - 1 < ys.length
     omega
    ·go_wp2_with (at_builtin; refine wpList_append_k elRune rfl (.tmp 21) (.tmp 23) rfl W2.heap.size u3 pre.length w3.heap.size 1 1 (pre.map runeV) [runeV (-1)] (by simp [Act.eval]) Hoa.out (by simp [Act.eval]) rfl Hcn.out (by simp [runeV, Value.oneCell']) (by unfold maxLen; omega) (by omega) (by simp; omega) ?_; intro v' w5 p1 p2 p3; have Hp1 := Lib.hid p1; have Hp2 := Lib.hid p2; clear p1 p2 p3)
     refine ⟨⟨ys.drop 1, _, _, pre ++ [(-1)], by rw [List.length_drop], by rw [List.length_drop]; exact Hbsa.out, Hrun.out, by rw [List.length_drop]; simp; omega, own_below (Hba.out.alloc (Nat.le_trans hszr hsz3) _) Hoa.out (Nat.le_trans (Nat.le_trans hszr hsz3) (by simp)) Hp2.out, by unfold Rns; rw [List.length_append, List.map_append]; exact Hp1.out⟩, ?_⟩
     show ys.length - 1 < ys.length
     omega
  ·have h0' : ys.length = 0 := by omega
   obtain rfl : ys = [] := List.eq_nil_of_length_eq_zero h0'
   clear h0 h0'
   go_wp2_with fail
   go_ret
   have h := He.out
   rw [runes_nil, List.append_nil] at h
   obtain ⟨A3, q3, rfl, -⟩ := ownsRow_slice Ho.out
   exact ⟨A3, pre.length, q3, rfl, Hb2.out.trans (Hbel.out.mono Hb2.out.size), by rw [h]; exact ownsRow_low Ho.out Hb2.out.size⟩
def TkP (b : Bool) (w : World) (e : Ending) (w' : World) : Prop := e = .returned (.bool b) ∧ Below w.heap.size w w'
def TkRel (w : World) (cs : List Int) (c : Int) (s6 : Value) (wr : World) : Prop := ∃ k : Nat, 2 * k ≤ cs.length ∧ s6 = .int .i64 (2 * (k : Int)) ∧ inB cs c = inB (cs.drop (2 * k)) c ∧ wr = w
theorem drop_two {l : List Int} {k : Nat} (h : 2 * k + 1 < l.length) : ∃ a b, l[2 * k]? = some a ∧ l[2 * k + 1]? = some b ∧ l.drop (2 * k) = a :: b :: l.drop (2 * (k + 1)) := by
 refine ⟨_, _, List.getElem?_eq_getElem (by omega), List.getElem?_eq_getElem h, ?_⟩
 rw [List.drop_eq_getElem_cons (by omega : 2 * k < l.length), List.drop_eq_getElem_cons h]
 rfl
def boolV (b : Bool) : Value := .bool b
theorem elBool : ElemK 47 4 (.bool false) 1 1 := ⟨Tryz.underlying47, by kernel_rfl, rfl, by decide⟩
def Fls (w : World) (base : Nat) (v : Value) (bs : List Bool) : Prop := w.ownsRow base 4 1 v bs.length (bs.map boolV)
theorem Fls.below {w w' : World} {base : Nat} {v : Value} {bs : List Bool} (h : Fls w base v bs) (hb : Below w.heap.size w w') : Fls w' base v bs := ownsRow_below h hb (Nat.le_refl _)
theorem Fls.low {w : World} {base b : Nat} {v : Value} {bs : List Bool} (h : Fls w base v bs) (hb : b ≤ base) : Fls w b v bs := ownsRow_low h hb
theorem Fls.form {w : World} {base : Nat} {v : Value} {bs : List Bool} (h : Fls w base v bs) : ∃ A q, v = .slice A bs.length q ∧ (0 < bs.length → ∃ g, A = some ⟨g, 0, none⟩) := by
 obtain ⟨A, q, e, _, _, hA⟩ := ownsRow_slice h
 exact ⟨A, q, e, hA⟩
theorem Fls.cell {w : World} {base g n q k : Nat} {bs : List Bool} {b : Bool} (h : Fls w base (.slice (some ⟨g, 0, none⟩) n q) bs) (hb : bs[k]? = some b) : w.cell? ⟨g, k, none⟩ = some (.bool b) := by
 obtain ⟨_, _, e, _⟩ := ownsRow_slice h
 obtain ⟨_, rfl, _⟩ := Value.slice.inj e
 have := ownsRow_cell h rfl k (by have := (List.getElem?_eq_some_iff.1 hb).1; omega)
 rw [this, List.getElem?_map, hb]
 rfl
theorem Fls.frozen {w : World} {base g n q : Nat} {bs : List Bool} (h : Fls w base (.slice (some ⟨g, 0, none⟩) n q) bs) (k : Nat) : w.frozen? ⟨g, k, none⟩ = false := by
 obtain ⟨_, _, hg⟩ := ownsRow_block h (g := g) rfl
 exact row_frozen hg k
theorem Fls.set {w : World} {base g n q : Nat} {bs : List Bool} (h : Fls w base (.slice (some ⟨g, 0, none⟩) n q) bs) (k : Nat) (b : Bool) : Fls (w.setCell ⟨g, k, none⟩ (.bool b)) base (.slice (some ⟨g, 0, none⟩) n q) (bs.set k b) ∧ w.grownBy (w.setCell ⟨g, k, none⟩ (.bool b)) (some g) := by
 obtain ⟨_, _, e, _⟩ := ownsRow_slice h
 obtain ⟨_, rfl, _⟩ := Value.slice.inj e
 have := World.ownsRow.stored h k (.bool b)
 refine ⟨?_, this.2⟩
 unfold Fls
 rw [List.length_set, List.map_set]
 exact this.1
theorem run_make_flags (n : Nat) (hn : n ≤ 1000000) (W : World) : (Instr.makeSlice 47 (.int .i64 (n : Int)) (.int .i64 (n : Int))).run Tryz.prog W = .ok (.slice (some ⟨W.heap.size, 0, none⟩) n n) (W.alloc (.cells (Array.replicate n (.bool false)) 4)) := by
 obtain ⟨i0, hi, hz0, hz1, hz2⟩ := info_parts elBool.hi
 have := run_make (P := Tryz.prog) W 47 4 i0 (.bool false) elBool.ht hi hz0 .i64 .i64 n n (by omega) (by omega) (by rw [hz2]; omega) (by omega)
 rw [hz1] at this
 have e : madeCells (Value.bool false).cells ((n : Int).toNat * 1) = (Array.replicate n (.bool false)) := by
  apply Array.ext
  ·simp [madeCells]
  ·intro i h1 h2
   simp [madeCells, Value.cells, Nat.mod_one]
 rw [e] at this
 simpa using this
theorem fls_made (W : World) (n : Nat) (hn : n ≤ 1000000) {base : Nat} (hb : base ≤ W.heap.size) : Fls (W.alloc (.cells (Array.replicate n (.bool false)) 4)) base (.slice (some ⟨W.heap.size, 0, none⟩) n n) (List.replicate n false) := by
 have h := ownsRow_lit (n := n) (k := 1) (base := base) (heap_alloc_new W (.cells (Array.replicate n (.bool false)) 4)) hb (by unfold maxLen; omega) (by simp)
 unfold Fls
 rw [List.length_replicate]
 rw [show (Array.replicate n (Value.bool false)).toList = (List.replicate n false).map boolV by simp [boolV]] at h
 exact h
theorem below_set {B g k : Nat} {w wr : World} {u : Value} (h : Below B w wr) (hg : B ≤ g) (hs : B ≤ wr.heap.size) : Below B w (wr.setCell ⟨g, k, none⟩ u) :=
 h.grown ⟨rfl, rfl, rfl, by simp, fun i _ hi => Below.heap_setCell wr ⟨g, k, none⟩ u i (fun e => hi (by rw [e]))⟩ hs (fun i e => by cases e; exact hg)
theorem Img.len {R : Nat → Nat → Prop} {x y : List Bool} (h : Img R x y) : y.length = x.length := h.1
theorem elInt : ElemK 30 3 (.int .i64 0) 1 8 := ⟨Tryz.underlying30, by kernel_rfl, rfl, by decide⟩
def intV (c : Int) : Value := .int .i64 c
def Ints (w : World) (base : Nat) (v : Value) (l : List Int) : Prop := w.ownsRow base 3 1 v l.length (l.map intV)
def LiRel (w : World) (y : List Bool) (s3 s4 : Value) (wr : World) : Prop := ∃ (k : Nat) (pre : List Int) (A : Option Addr) (q : Nat), k ≤ y.length ∧ s3 = .slice A pre.length q ∧ s4 = .int .i64 k ∧ Below w.heap.size w wr ∧ Ints wr w.heap.size (.slice A pre.length q) pre ∧ idx 0 y = pre ++ idx k (y.drop k) ∧ pre.length ≤ k
def IntsP (w : World) (l : List Int) (e : Ending) (w' : World) : Prop := ∃ (A : Option Addr) (q : Nat), e = .returned (.slice A l.length q) ∧ Below w.heap.size w w' ∧ Ints w' w.heap.size (.slice A l.length q) l
theorem mwithin_any (a : Int) (h : 0 ≤ a) (k : a ≤ mxS) (w : World) : Calls Tryz.prog 77 #[.int .i64 a] w fun e w' => IntP a w e w' := by
 unfold mxS at k
 go_enter Tryz.func77, Tryz.ntmps77
 by_cases ha : 0 < a
 ·go_wp2_with fail
  go_ret
  exact ⟨rfl, rfl⟩
 ·obtain rfl : a = 0 := by omega
  go_wp2_with fail
  go_ret
  exact ⟨rfl, rfl⟩
theorem madd_any (a b : Int) (h : 0 ≤ a) (k : a ≤ mxS) (h2 : 0 ≤ b) (k2 : b ≤ mxS) (w : World) : Calls Tryz.prog 57 #[.int .i64 a, .int .i64 b] w fun e w' => IntP (adS a b) w e w' := by
 go_enter Tryz.func57, Tryz.ntmps57
 go_wp2_with fail
 (with_reducible refine (mwithin_any a h k w).mono ?_)
 rintro e w' ⟨rfl, rfl⟩
 go_wp2_with fail
 (with_reducible refine (mwithin_any b h2 k2 w).mono ?_)
 rintro e w' ⟨rfl, rfl⟩
 unfold mxS at k k2
 by_cases hb : 4611686018427387904 - b < a
 ·have e := Lib.hid (show adS a b = 4611686018427387904 by unfold adS mxS; omega)
  go_wp2_with fail
  go_ret
  rw [e.out]
  exact ⟨rfl, rfl⟩
 ·have e := Lib.hid (show adS a b = a + b by unfold adS mxS; omega)
  go_wp2_with fail
  go_ret
  rw [e.out]
  exact ⟨rfl, rfl⟩
end Go.Proofs.YthhnmpkgleelfaaGreatDoor
