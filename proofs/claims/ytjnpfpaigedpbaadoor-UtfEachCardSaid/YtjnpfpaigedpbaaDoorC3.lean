import Derived.Test.YtjnpfpaigedpbaaDoorC2
import Derived.Test.YtjnpfpaigedpbaaDoorP4
namespace Go.Proofs.YtjnpfpaigedpbaaDoor
open Go.RowKit Go.Shelf
attribute [local go_sem] Oper.semAt_some

theorem blw_drewN {B : Nat} {a w : World} (h : Below B a w) (n : Nat) : Below B a (w.drewN n) := ⟨h.os, h.tape, h.output, h.size, h.block⟩
/-- A box: one cell of type t. -/
def Bx (W : World) (k : Nat) (t : TypeId) (v : Value) : Prop := W.heap[k]? = some (.cells #[v] t (0, 0))
section
variable {W W' : World} {k : Nat} {t : TypeId} {v : Value}
theorem Bx.lt (h : Bx W k t v) : k < W.heap.size := lt_of_heap h
theorem Bx.cell (h : Bx W k t v) : W.cell? ⟨k, 0, none⟩ = some v := by unfold Bx at h; simp [World.cell?, h]
theorem Bx.frozen (h : Bx W k t v) : W.frozen? ⟨k, 0, none⟩ = false := by unfold Bx at h; simp [World.frozen?, h]
theorem Bx.new (W : World) (t : TypeId) (v : Value) : Bx (W.alloc (.cells #[v] t)) W.heap.size t v := heap_alloc_new W _
theorem Bx.alloc (h : Bx W k t v) (o : Obj) : Bx (W.alloc o) k t v := (Below.heap_alloc W o k h.lt).trans h
theorem Bx.below (h : Bx W k t v) {B : Nat} (hb : Below B W W') (hk : k < B) : Bx W' k t v := (hb.block k hk).trans h
theorem Bx.later (h : Bx W k t v) (hb : Below W.heap.size W W') : Bx W' k t v := h.below hb h.lt
theorem Bx.drewN (h : Bx W k t v) (m : Nat) : Bx (W.drewN m) k t v := h
theorem Bx.set (h : Bx W k t v) (u : Value) : Bx (W.setCell ⟨k, 0, none⟩ u) k t u := by
  unfold Bx at h ⊢; simp [World.setCell, Array.getElem?_modify, h]
theorem Bx.far (h : Bx W k t v) {p : Addr} (hp : k ≠ p.block) (u : Value) : Bx (W.setCell p u) k t v := (Below.heap_setCell W p u k hp).trans h
theorem Bx.kept (h : Bx W k t v) {row : Option Nat} (hg : W.grownBy W' row) (hr : ∀ r, row = some r → ∃ o : Obj, W.heap[r]? = some o ∧ o.isCells = false) : Bx W' k t v :=
  (hg.block k h.lt (fun e => by
    obtain ⟨o, ho, hc⟩ := hr k e.symm
    unfold Bx at h; rw [h] at ho; cases ho; simp [Obj.isCells] at hc)).trans h
end

def CountI (w : World) (pre : List (Nat × Nat)) (W : World) : Prop :=
  Bx W w.heap.size 3 (.int .i64 pre.length) ∧ Bx W (w.heap.size + 1) 3 (.int .i64 (posAfter pre)) ∧ Below w.heap.size w W

def Counted (xs : List UInt8) (aU aE : Addr) (w : World) (e : Ending) (w' : World) : Prop :=
  Below w.heap.size w w' ∧ ((xs.length ≤ posAfter (each xs) ∧ e = .returned (.tuple #[.int .i64 (each xs).length, .nilIface])) ∨
    (posAfter (each xs) < xs.length ∧ ∃ g : Nat, e = .returned (.tuple #[.int .i64 0, .iface 53 (.pointer (some ⟨g, 0, none⟩))]) ∧
      w'.heap[g]? = some (.cells #[.int .i64 (posAfter (each xs)), errOf (errS aU) (errS aE) (dec (xs.drop (posAfter (each xs)).toNat)).2.2] 56 (0, 0)) ∧ w.heap.size ≤ g))

set_option maxHeartbeats 1000000 in
theorem count_in (v : Value) (xs : List UInt8) (w : World) (aU aE : Addr) (hb : Bs w v xs) (hg : Glob w aU aE) (hsz : xs.length ≤ 9223372036854775807) :
    CallsIn Fence.wide 9 Tryd.prog 25 #[v] w fun e w' => Counted xs aU aE w e w' := by
  have h2 := World.block_lt_of_cell? w _ (hg.l 0 (by omega))
  obtain ⟨cU, tU, hU⟩ := hg.hu
  obtain ⟨cE, tE, hE⟩ := hg.he
  have hU := lt_of_heap hU
  have hE := lt_of_heap hE
  obtain ⟨hm, A, cap, rfl, hcap, _⟩ := id hb
  have Hb := Lib.hid hb
  have Hg := Lib.hid hg
  clear hb hg
  refine callsIn_of_wp_marks Tryd.func25 rfl trivial ?_ rfl
  simp only [Tryd.ntmps25, List.size_toArray, List.length_cons, List.length_nil, Nat.reduceAdd, Nat.reduceSub, Array.replicate_succ, Array.replicate_zero, List.push_toArray, List.append_toArray, List.nil_append, List.cons_append]
  have hb0 : Below w.heap.size w ((w.alloc (.cells #[.int .i64 0] 3)).alloc (.cells #[.int .i64 0] 3)) := ((Below.refl _ _).alloc (Nat.le_refl _) _).alloc (by simp) _
  have Hb1 := Lib.hid (Hb.out.below hb0)
  have Hg1 := Lib.hid (Hg.out.below hb0)
  have Hk := Lib.hid ((Bx.new w 3 (.int .i64 0)).alloc (.cells #[.int .i64 0] 3))
  have Ha := Lib.hid (Bx.new (w.alloc (.cells #[.int .i64 0] 3)) 3 (.int .i64 0))
  have Hb0 := Lib.hid hb0
  clear hb0
  gi_wp2_with fail
  refine ⟨trivial, ?_⟩
  refine (callsIn_wide.2 (each_any Hb1.out)).mono ?_
  rintro e w' ⟨rfl, rfl⟩
  gi_wp2
  obtain ⟨W0, hW0⟩ : ∃ W0, ((w.alloc (.cells #[.int .i64 0] 3)).alloc (.cells #[.int .i64 0] 3)) = W0 := ⟨_, rfl⟩
  have hsz0 : W0.heap.size = w.heap.size + 2 := by rw [← hW0]; simp
  rw [hW0] at Hb1 Hg1 Hk Ha Hb0
  obtain ⟨W1, hW1⟩ : ∃ W1, W0.alloc (.cells #[.string ⟨xs.toArray⟩] 9) = W1 := ⟨_, rfl⟩
  have hb1 : Below W0.heap.size W0 W1 := by rw [← hW1]; exact (Below.refl _ _).alloc (Nat.le_refl _) _
  have hs1 : W1.cell? ⟨w.heap.size + 2, 0, none⟩ = some (.string ⟨xs.toArray⟩) := by
    have h := (Bx.new W0 9 (.string ⟨xs.toArray⟩)).cell
    rw [hsz0] at h; rw [← hW1]; exact h
  have hsz1 : W1.heap.size = w.heap.size + 3 := by rw [← hW1]; simp [hsz0]
  rw [hW0, hW1]
  rw [show (w.alloc (.cells #[.int .i64 0] 3)).heap.size = w.heap.size + 1 by simp] at Ha
  clear hW0 hW1
  have Hb1' := Lib.hid (Hb1.out.below hb1)
  have Hg1' := Lib.hid (Hg1.out.below hb1)
  have hI0 : CountI w [] W1 := ⟨Hk.out.later hb1, Ha.out.later hb1, Hb0.out.trans (hb1.mono Hb0.out.size)⟩
  have Hsz0 := Lib.hid hsz0
  have Hsz1 := Lib.hid hsz1
  have Hs1 := Lib.hid hs1
  have HI0 := Lib.hid hI0
  clear hsz0 Hsz0 hsz1 hs1 hI0 Hb1 Hg1 Hk Ha Hb0 hb1 W0
  refine wpIn_rangeFunc_ownF rfl (by omega) (gf := 30) (lb := #[.pointer (some ⟨w.heap.size + 2, 0, none⟩)]) (by simp [Act.eval]) trivial (enters_of Tryd.func30 (by kernel_rfl) rfl)
    (each1_stops (w := W1) (9 - 1) (by omega) (w.heap.size + 2) ⟨xs.toArray⟩ w.heap.size (w.heap.size + 2) (by simpa [ByteArray.size] using hsz) aU aE (by rw [Hsz1.out]; omega) h2 hU hE Hg1'.out Hs1.out)
    (fun h k => h.t k) (fun W l o o' _ h ho _ => KpB.b W l o o' h ho) (Below.refl _ _) (fun _ => rfl)
    (CountI w) (fun _ _ _ => False) ?hI ?hIx HI0.out
    (fun x => { tmps := #[.slice A xs.length cap, undef, .int .i64 0, .nilIface, .pointer (some ⟨w.heap.size, 0, none⟩), .pointer (some ⟨w.heap.size + 1, 0, none⟩), .int .i64 (x.1 : Int), .int .i32 (x.2 : Int), undef, undef, undef, undef, undef, .slice A xs.length cap, .func (.func 30) #[] #[.pointer (some ⟨w.heap.size + 2, 0, none⟩)], .int .i64 (x.1 : Int), .int .i32 (x.2 : Int), undef, undef, undef, undef, undef, undef, undef, undef, undef, undef, undef, undef, undef, undef, undef, undef, undef, undef, undef, undef, undef, undef, undef, undef, undef, undef, undef, undef], defers := [] }) ?assign ?body ?done ?stop
  case hI =>
    intro s A B row hs hg hr
    exact ⟨hs.1.kept hg (fun r e => (hr r e).2), hs.2.1.kept hg (fun r e => (hr r e).2), hs.2.2.grown hg hs.2.2.size (fun k e => by have := (hr k e).1; rw [Hsz1.out] at this; omega)⟩
  case hIx => exact fun _ _ _ _ _ hs _ _ => hs
  case assign =>
    intro l x W K hK
    gi_wp2
    exact hK
  case body =>
    rintro l pre x W ⟨hk, ha, hB⟩ hN
    have hkc := hk.cell
    have hkf := hk.frozen
    have hlen : (pre.length : Int) + 1 ≤ 9223372036854775807 := by have := each_len xs; simp at hN; omega
    gi_wp2_with fail
    refine ⟨trivial, ?_⟩
    refine (CallsIn.inRound l (callsIn_wide.2 (form_any x.2 _))).mono ?_
    rintro e W2 ⟨rfl, hb2⟩
    rw [show frmV x.2 = .agg #[.int .u8 (byteAt (frm x.2) 0), .int .u8 (byteAt (frm x.2) 1), .int .u8 (byteAt (frm x.2) 2), .int .u8 (byteAt (frm x.2) 3)] from rfl]
    have hsn := posAfter_snoc pre x
    generalize (frm (x.2 : Int)).length = q at *
    have Hsn := Lib.hid hsn
    clear hsn
    generalize byteAt (frm x.2) 0 = g0
    generalize byteAt (frm x.2) 1 = g1
    generalize byteAt (frm x.2) 2 = g2
    generalize byteAt (frm x.2) 3 = g3
    have hk2 := hk.later hb2
    have ha2 := ha.later hb2
    have hkc2 := (hk2.alloc (.cells #[.int .u8 g0, .int .u8 g1, .int .u8 g2, .int .u8 g3] 67)).cell
    have hkf2 := (hk2.alloc (.cells #[.int .u8 g0, .int .u8 g1, .int .u8 g2, .int .u8 g3] 67)).frozen
    have hac2 := (ha2.alloc (.cells #[.int .u8 g0, .int .u8 g1, .int .u8 g2, .int .u8 g3] 67)).cell
    have haf2 := (ha2.alloc (.cells #[.int .u8 g0, .int .u8 g1, .int .u8 g2, .int .u8 g3] 67)).frozen
    have hs2 : w.heap.size + 1 < W2.heap.size := ha2.lt
    clear hkc hkf
    gi_wp2
    refine ⟨(ko_below hb2).trans ((KeepsOthers.alloc _ _).trans ((KeepsOthers.setCell _ _ _).trans (KeepsOthers.setCell _ _ _))),
      (KpB.of_below hb2).t ((KpB.alloc _ _).t ((KpB.setCell _ (p := ⟨w.heap.size, 0, none⟩) (Nat.le_refl _) (by simp) _).t (KpB.setCell _ (p := ⟨w.heap.size + 1, 0, none⟩) (by simp) (by simp) _))), ?_, ?_, ?_⟩
    · have h := (((hk2.alloc (.cells #[.int .u8 g0, .int .u8 g1, .int .u8 g2, .int .u8 g3] 67)).set (.int .i64 ((pre.length : Int) + 1))).far (p := ⟨w.heap.size + 1, 0, none⟩) (by simp) (.int .i64 (wrap64 ((x.1 : Int) + q))))
      rw [List.length_append]
      exact h
    · have h := (((ha2.alloc (.cells #[.int .u8 g0, .int .u8 g1, .int .u8 g2, .int .u8 g3] 67)).far (p := ⟨w.heap.size, 0, none⟩) (by simp) (.int .i64 ((pre.length : Int) + 1))).set (.int .i64 (wrap64 ((x.1 : Int) + q))))
      rw [Hsn.out]
      exact h
    · exact (((hB.trans (hb2.mono hB.size)).alloc (Nat.le_trans hB.size hb2.size) _).setCell (p := ⟨w.heap.size, 0, none⟩) (Nat.le_refl _) _).setCell (p := ⟨w.heap.size + 1, 0, none⟩) (by simp) _
  case done =>
    rintro D ys W hD rfl ⟨hk, ha, hB⟩ hK
    have hkc := hk.cell
    have hac := ha.cell
    have hDs : D < W.heap.size := lt_of_heap hK
    have hD' : w.heap.size ≤ D := by rw [Hsz1.out] at hD; omega
    by_cases hlt : posAfter (each xs) < xs.length
    · obtain ⟨p, hp⟩ : ∃ p : Nat, posAfter (each xs) = p := ⟨(posAfter (each xs)).toNat, by have := posAfter_each xs hsz; omega⟩
      have Hp := Lib.hid hp
      rw [hp] at hlt hac
      clear hp
      have hpl : p < xs.length := by omega
      have hbB := Hb.out.below hB
      obtain ⟨_, A', c', e', _, hcl⟩ := id hbB
      injection e' with e1 e2 e3
      subst e1 e3
      obtain ⟨b, o, rfl, _⟩ := hcl (by omega)
      have Hcut := Lib.hid (hbB.cut (Nat.le_of_lt hpl))
      have HgW := Lib.hid (Hg.out.below hB)
      have hcp : ¬ cap = p := by omega
      clear hcl hbB
      gi_wp2_with fail
      refine ⟨trivial, ?_⟩
      refine (callsIn_wide.2 (decode_any Hcut.out HgW.out)).mono ?_
      have HP3 := Lib.hid (show errOf (errS aU) (errS aE) (dec (xs.drop (posAfter (each xs)).toNat)).2.2 = errOf (errS aU) (errS aE) (dec (xs.drop p)).2.2 from by rw [Hp.out]; rfl)
      have hr3 := (dec_bd (xs.drop p)).2
      generalize dec (xs.drop p) = r at *
      obtain ⟨r1, r2, r3⟩ := r
      have hr3' : r3 = 0 ∨ r3 = 1 ∨ r3 = 2 := by have : r3 ≤ 2 := hr3; omega
      clear hr3
      rintro e w' ⟨rfl, m, rfl⟩
      rcases hr3' with rfl | rfl | rfl
      · rw [decV_0]
        gi_wp2
        gi_region
        all_goals gi_wp2
        have hK2 : ((W.alloc (.cells #[.int .i64 p, .nilIface] 56)).drewN (m + 1)).heap[D]? = some (.deferred (some [])) := (Below.heap_alloc W _ D hDs).trans hK
        refine ⟨by simp, .inl ⟨_, _, rfl, run_takeDeferred hK2, ?_⟩⟩
        refine ⟨_, results_tmp2 rfl _ _ _, ?_, .inr ⟨by rw [Hp.out]; omega, W.heap.size, rfl, ?_, hB.size⟩⟩
        · exact (blw_drewN (hB.alloc hB.size _) (m + 1)).trans (belowK_b (w := w) (Nat.le_refl _) _ D _ _ hD' hK2 rfl rfl)
        · rw [Hp.out] at HP3 ⊢
          rw [World.putObj_heap_other (by omega), HP3.out]
          exact heap_alloc_new W _
      · rw [decV_1]
        gi_wp2
        gi_region
        all_goals gi_wp2
        have hK2 : ((W.alloc (.cells #[.int .i64 p, errS aE] 56)).drewN (m + 1)).heap[D]? = some (.deferred (some [])) := (Below.heap_alloc W _ D hDs).trans hK
        refine ⟨by simp, .inl ⟨_, _, rfl, run_takeDeferred hK2, ?_⟩⟩
        refine ⟨_, results_tmp2 rfl _ _ _, ?_, .inr ⟨by rw [Hp.out]; omega, W.heap.size, rfl, ?_, hB.size⟩⟩
        · exact (blw_drewN (hB.alloc hB.size _) (m + 1)).trans (belowK_b (w := w) (Nat.le_refl _) _ D _ _ hD' hK2 rfl rfl)
        · rw [Hp.out] at HP3 ⊢
          rw [World.putObj_heap_other (by omega), HP3.out]
          exact heap_alloc_new W _
      · rw [decV_2]
        gi_wp2
        gi_region
        all_goals gi_wp2
        have hK2 : ((W.alloc (.cells #[.int .i64 p, errS aU] 56)).drewN (m + 1)).heap[D]? = some (.deferred (some [])) := (Below.heap_alloc W _ D hDs).trans hK
        refine ⟨by simp, .inl ⟨_, _, rfl, run_takeDeferred hK2, ?_⟩⟩
        refine ⟨_, results_tmp2 rfl _ _ _, ?_, .inr ⟨by rw [Hp.out]; omega, W.heap.size, rfl, ?_, hB.size⟩⟩
        · exact (blw_drewN (hB.alloc hB.size _) (m + 1)).trans (belowK_b (w := w) (Nat.le_refl _) _ D _ _ hD' hK2 rfl rfl)
        · rw [Hp.out] at HP3 ⊢
          rw [World.putObj_heap_other (by omega), HP3.out]
          exact heap_alloc_new W _
    · gi_wp2
      refine ⟨by simp, .inl ⟨_, _, rfl, run_takeDeferred hK, ?_⟩⟩
      refine ⟨_, results_tmp2 rfl _ _ _, hB.trans (belowK_b (w := w) (Nat.le_refl _) W D _ _ hD' hK rfl rfl), .inl ⟨by omega, rfl⟩⟩
  case stop =>
    rintro D c pre W hD _ h _
    exact h.elim
end Go.Proofs.YtjnpfpaigedpbaaDoor
