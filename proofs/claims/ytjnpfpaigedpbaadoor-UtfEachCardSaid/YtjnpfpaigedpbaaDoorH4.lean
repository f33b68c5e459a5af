import Derived.Test.YtjnpfpaigedpbaaDoorH3
import Derived.Test.YtjnpfpaigedpbaaDoorE1
import Derived.LoopNIn
import Derived.Test.YtjnpfpaigedpbaaDoorI1
namespace Go.Proofs.YtjnpfpaigedpbaaDoor
open Go.RowKit Go.Shelf
attribute [local go_sem] Oper.semAt_some

/-- A slice of one-cell values. -/
def Vs (w : World) (v : Value) (us : List Value) : Prop := ∃ A c, v = .slice A us.length c ∧ us.length ≤ c ∧ (0 < us.length → ∃ g, A = some ⟨g, 0, none⟩ ∧ ∀ i u, us[i]? = some u → w.cell? ⟨g, i, none⟩ = some u)
theorem OwnV.vs {w : World} {base : Nat} {e : TypeId} {v : Value} {us : List Value} (h : OwnV w base e v us) : Vs w v us := by
  have h' := h
  obtain ⟨_, ⟨rfl, h0⟩ | ⟨g, cap, cur, rfl, hb, hg, hn, hm, hs, ht⟩⟩ := h
  · exact ⟨none, 0, by rw [h0], by omega, fun h => by omega⟩
  · refine ⟨_, cap, rfl, hn, fun _ => ⟨g, rfl, fun i u hu => ?_⟩⟩
    have hi := (List.getElem?_eq_some_iff.1 hu).1
    rw [World.ownsRow.cellAt h' i (by omega)]
    exact hu
theorem Vs.later {w w' : World} {v : Value} {us : List Value} (h : Vs w v us) (hb : Below w.heap.size w w') : Vs w' v us := by
  obtain ⟨A, c, rfl, hc, hcell⟩ := h
  refine ⟨A, c, rfl, hc, fun h0 => ?_⟩
  obtain ⟨g, rfl, hg⟩ := hcell h0
  exact ⟨g, rfl, fun i u hu => cell_later hb (hg i u hu)⟩
/-- What stays through the law: boxes, rows, variables. -/
structure Env (w : World) (aU aE : Addr) (xs : List UInt8) (stop : Int) (p : Nat) (v1 v2 : Value) (W : World) : Prop where
  bS : Bx W w.heap.size 3 (.int .i64 stop)
  bR : Bx W (w.heap.size + 1) 4 (.bool false)
  b6 : Bx W p 25 v1
  b7 : Bx W (p + 1) 26 v2
  v1 : Vs W v1 ((each xs).map posV)
  v2 : Vs W v2 ((each xs).map chV)
  g : Glob W aU aE
  bel : Below w.heap.size w W
theorem Env.later {w W W' : World} {aU aE : Addr} {xs : List UInt8} {stop : Int} {p : Nat} {v1 v2 : Value} (h : Env w aU aE xs stop p v1 v2 W) (hb : Below W.heap.size W W') : Env w aU aE xs stop p v1 v2 W' :=
  ⟨h.bS.later hb, h.bR.later hb, h.b6.later hb, h.b7.later hb, h.v1.later hb, h.v2.later hb, h.g.below hb, h.bel.trans (hb.mono h.bel.size)⟩
def EachI (W7 : World) (kb : Nat) (pre : List (Nat × Nat)) (W : World) : Prop := Bx W kb 3 (.int .i64 (pre.length : Nat)) ∧ Below kb W7 W
def Mis (xs : List UInt8) (pre : List (Nat × Nat)) : Prop := ∃ pre0 x, pre = pre0 ++ [x] ∧ (each xs)[pre0.length]? ≠ some x
theorem Mis.no {xs : List UInt8} {pre : List (Nat × Nat)} (h : Mis xs pre) (hp : pre <+: each xs) : False := by
  obtain ⟨pre0, x, rfl, hne⟩ := h
  obtain ⟨t, ht⟩ := hp
  apply hne
  rw [← ht]
  simp
theorem run_eql_fn (f : Nat) (cs : Array Value) (W : World) : (binOp .eql 34 (.func (.func f) #[] cs) .nilFunc).run Tryd.prog W = .ok (.bool false) W := by
  kernel_rfl
def FfRel (W3 : World) (sb n g cap : Nat) (str : Value) (i : Value) (wr : World) : Prop :=
  ∃ (k : Nat) (zs : List UInt8), k ≤ n ∧ i = .int .i64 k ∧ zs.length = n ∧ OwnB wr W3.heap.size (.slice (some ⟨g, 0, none⟩) n cap) zs ∧ Bx wr sb 9 str ∧ Below W3.heap.size W3 wr
set_option maxRecDepth 1000000 in
set_option maxHeartbeats 4000000 in
theorem eachlaw_in {w : World} {aU aE : Addr} (v : Value) (stop : Int) (xs : List UInt8) (hb : Bs w v xs) (hg : Glob w aU aE) :
    CallsIn Fence.wide 9 Tryd.prog 4 #[v, .int .i64 stop] w fun e w' => LawTrue w e w' := by
  obtain ⟨hm, A, cap, rfl, hcap, -⟩ := id hb
  have hb0 : Below w.heap.size w ((w.alloc (.cells #[.int .i64 stop] 3)).alloc (.cells #[.bool false] 4)) := ((Below.refl _ _).alloc (Nat.le_refl _) _).alloc (by simp) _
  have hbS := (Bx.new w 3 (.int .i64 stop)).alloc (.cells #[.bool false] 4)
  have hbR := Bx.new (w.alloc (.cells #[.int .i64 stop] 3)) 4 (.bool false)
  have hsz0 : ((w.alloc (.cells #[.int .i64 stop] 3)).alloc (.cells #[.bool false] 4)).heap.size = w.heap.size + 2 := by simp
  rw [show (w.alloc (.cells #[.int .i64 stop] 3)).heap.size = w.heap.size + 1 by simp] at hbR
  have Hb0 := Lib.hid hb0
  have HbS := Lib.hid hbS
  have HbR := Lib.hid hbR
  have Hsz0 := Lib.hid hsz0
  have Hb := Lib.hid (hb.below hb0)
  have Hg := Lib.hid (hg.below hb0)
  clear hb hg hb0 hbS hbR hsz0
  refine callsIn_of_wp_marks Tryd.func4 rfl trivial ?_ rfl
  simp only [Tryd.ntmps4, List.size_toArray, List.length_cons, List.length_nil, Nat.reduceAdd, Nat.reduceSub, Array.replicate_succ, Array.replicate_zero, List.push_toArray, List.append_toArray, List.nil_append, List.cons_append]
  gi_wp2_with fail
  generalize (w.alloc (.cells #[.int .i64 stop] 3)).alloc (.cells #[.bool false] 4) = W0 at *
  refine ⟨trivial, ?_⟩
  refine (callsIn_wide.2 (first_any Hg.out)).mono ?_
  rintro e w1 ⟨rfl, hb1⟩
  have Hb1 := Lib.hid hb1
  have HbS1 := Lib.hid (HbS.out.later hb1)
  have HbR1 := Lib.hid (HbR.out.later hb1)
  clear hb1
  by_cases hl : xs.length ≤ 5000
  · have hl1 : (xs.length : Int) ≤ 5000 := by omega
    gi_wp2_with fail
    refine ⟨trivial, ?_⟩
    refine (callsIn_wide.2 (refchars_any (Hb.out.below Hb1.out) hl)).mono ?_
    rintro e w2 ⟨v1, v2, fc, fs, rfl, hfs, ho1, ho2, hne, hb2⟩
    rw [show faultV fc fs = .agg #[.int .i64 fc, .int .i64 0, .int .i64 0, fs] from rfl]
    have Ho1 := Lib.hid ho1
    have Ho2 := Lib.hid ho2
    have Hb2 := Lib.hid hb2
    obtain ⟨A1, c1, rfl, hc1, -⟩ := id ho1.vs
    obtain ⟨A2, c2, rfl, hc2, -⟩ := id ho2.vs
    obtain ⟨B3, n3, k3, rfl⟩ := hfs
    have hlen1 := each_len xs
    simp only [List.length_map] at hc1 hc2 Ho1 Ho2 ⊢
    clear ho1 ho2 hne hb2
    gi_wp2_with fail
    have hW3 : Env w aU aE xs stop w2.heap.size (.slice A1 (each xs).length c1) (.slice A2 (each xs).length c2) (((w2.alloc (.cells #[.slice A1 (each xs).length c1] 25)).alloc (.cells #[.slice A2 (each xs).length c2] 26)).alloc (.cells #[.int .i64 fc, .int .i64 0, .int .i64 0, .slice B3 n3 k3] 29)) := by
      have hb3 : Below w2.heap.size w2 (((w2.alloc (.cells #[.slice A1 (each xs).length c1] 25)).alloc (.cells #[.slice A2 (each xs).length c2] 26)).alloc (.cells #[.int .i64 fc, .int .i64 0, .int .i64 0, .slice B3 n3 k3] 29)) := (((Below.refl _ _).alloc (Nat.le_refl _) _).alloc (by simp) _).alloc (by simp; omega) _
      have b7 := (Bx.new (w2.alloc (.cells #[.slice A1 (each xs).length c1] 25)) 26 (.slice A2 (each xs).length c2)).alloc (.cells #[.int .i64 fc, .int .i64 0, .int .i64 0, .slice B3 n3 k3] 29)
      rw [show (w2.alloc (.cells #[.slice A1 (each xs).length c1] 25)).heap.size = w2.heap.size + 1 by simp] at b7
      exact ⟨(HbS1.out.later Hb2.out).later hb3, (HbR1.out.later Hb2.out).later hb3, ((Bx.new w2 25 _).alloc _).alloc _, b7, Ho1.out.vs.later hb3, Ho2.out.vs.later hb3,
        ((Hg.out.below Hb1.out).below Hb2.out).below hb3, Hb0.out.trans ((bthen Hb1.out (bthen Hb2.out hb3)).mono Hb0.out.size)⟩
    have HW3 := Lib.hid hW3
    have Hx3 := Lib.hid (Hb.out.below (show Below W0.heap.size W0 _ from bthen Hb1.out (bthen Hb2.out ((((Below.refl w2.heap.size w2).alloc (Nat.le_refl _) (.cells #[.slice A1 (each xs).length c1] 25)).alloc (by simp) (.cells #[.slice A2 (each xs).length c2] 26)).alloc (by simp; omega) (.cells #[.int .i64 fc, .int .i64 0, .int .i64 0, .slice B3 n3 k3] 29)))))
    clear hW3
    generalize (((w2.alloc (.cells #[.slice A1 (each xs).length c1] 25)).alloc (.cells #[.slice A2 (each xs).length c2] 26)).alloc (.cells #[.int .i64 fc, .int .i64 0, .int .i64 0, .slice B3 n3 k3] 29)) = W3 at *
    clear Ho1 Ho2 Hb1 Hb2 HbS1 HbR1
    generalize w2.heap.size = p at *
    refine ⟨trivial, ?_⟩
    refine (callsIn_wide.2 (room_any Hx3.out (by omega))).mono ?_
    rintro e w4 ⟨l, rfl, hb4, hl4⟩
    have Hb4 := Lib.hid hb4
    have Hl4 := Lib.hid hl4
    obtain ⟨gl, capl, rfl, hgl3, hgl, hcl, -⟩ := hl4.form (by simp [tri])
    have hn3 : (xs ++ tri).length = xs.length + 3 := by simp [tri]
    rw [hn3] at hcl Hl4 ⊢
    have hcl' : xs.length ≤ capl := by omega
    have Hy4 := Lib.hid (show Bs w4 (.slice (some ⟨gl, 0, none⟩) xs.length capl) xs by have := Hl4.out.bs.upto (k := xs.length) (by omega); rwa [List.take_left] at this)
    clear hl4 hb4
    gi_wp2_with fail
    refine ⟨trivial, ?_⟩
    refine (callsIn_wide.2 (each_any Hy4.out)).mono ?_
    rintro e w5 ⟨rfl, hw5⟩
    have hstr := Bx.new w4 9 (.string ⟨xs.toArray⟩)
    rw [hw5] at hstr
    have hb5 : Below w4.heap.size w4 w5 := by rw [← hw5]; exact alloc_below _ _
    have Hstr := Lib.hid hstr
    have Hb5 := Lib.hid hb5
    have hs5 : w5.heap.size = w4.heap.size + 1 := by rw [← hw5]; simp
    clear hw5 hstr hb5
    gi_wp2_with fail
    refine ⟨trivial, ?_⟩
    refine (callsIn_wide.2 (still_any (Hl4.out.bs.below Hb5.out) (Hx3.out.below (bthen Hb4.out Hb5.out)))).mono ?_
    rintro e w' ⟨rfl, rfl⟩
    have qn := run_eql_fn 30 #[.pointer (some ⟨w4.heap.size, 0, none⟩)] w5
    have Hl5 := Lib.hid (Hl4.out.below Hb5.out (Nat.le_refl _))
    have Hb35 := Lib.hid (bthen Hb4.out Hb5.out)
    gi_wp2_with fail
    generalize w4.heap.size = sb at *
    gi_loopw [12] (FfRel W3 sb (xs.length + 3) gl capl (.string ⟨xs.toArray⟩)) (fun i _ => (xs.length + 3) - (intOf i).toNat)
    case atStart => exact ⟨0, _, by omega, rfl, hn3, Hl5.out, Hstr.out, Hb35.out⟩
    case round =>
      obtain ⟨k, zs, hk, rfl, hz, hown, hst, hbr⟩ := hrel
      have Hown := Lib.hid hown
      have Hst := Lib.hid hst
      have Hbr := Lib.hid hbr
      clear hown hst hbr
      by_cases hlt : k < xs.length + 3
      · obtain ⟨c1, c2⟩ := Hown.out.cellAt hz k hlt
        gi_wp2_with fail
        have hs := Hown.out.stored hz k 255
        exact ⟨⟨k + 1, zs.set k 255, by omega, by go_num, by simpa using hz, hs.1, Hst.out.far (p := ⟨gl, k, none⟩) (by show sb ≠ gl; omega) _, Hbr.out.grown hs.2 Hbr.out.size (fun _ e => by cases e; exact hgl3)⟩, by simp [intOf]; omega⟩
      · obtain rfl : k = xs.length + 3 := by omega
        have HE := Lib.hid (HW3.out.later Hbr.out)
        clear Hown Hl4 Hl5 Hy4 Hstr Hb35 Hb5 Hb4 qn
        gi_wp2_with fail
        have Hsb := Hst.out.lt
        have HE0 := Lib.hid (HE.out.later (alloc_below wr (.cells #[.int .i64 0] 3)))
        have Hst0 := Lib.hid (Hst.out.later (alloc_below wr (.cells #[.int .i64 0] 3)))
        have Hr0 := Lib.hid (Bx.new wr 3 (.int .i64 0))
        have Hsb0 : sb < (wr.alloc (.cells #[.int .i64 0] 3)).heap.size := by simp; omega
        have Hrb0 : wr.heap.size < (wr.alloc (.cells #[.int .i64 0] 3)).heap.size := by simp
        have HM0 : Hid (Marked w [] (wr.alloc (.cells #[.int .i64 0] 3))) := Lib.hid ⟨List.nodup_nil, by simp⟩
        generalize (wr.alloc (.cells #[.int .i64 0] 3)) = V0 at *
        generalize wr.heap.size = rb0 at *
        clear Hst HE Hbr
        refine wpIn_loop_rounds 4 ?_
        rw [roundsIn_succ]
        have cR := Hr0.out.cell
        gi_wp2_with fail
        have hI0 : EachI (V0.alloc (.cells #[.int .i64 0] 3)) V0.heap.size [] (V0.alloc (.cells #[.int .i64 0] 3)) := ⟨Bx.new V0 3 (.int .i64 0), Below.refl _ _⟩
        have HI0 := Lib.hid hI0
        have hb7 := alloc_below V0 (.cells #[.int .i64 0] 3)
        have Hb7 := Lib.hid hb7
        have HE7 := Lib.hid (HE0.out.later hb7)
        have Hst7 := Lib.hid (Hst0.out.later hb7)
        have h2 := World.block_lt_of_cell? V0 _ (HE0.out.g.l 0 (by omega))
        obtain ⟨cU, tU, hU⟩ := HE0.out.g.hu
        obtain ⟨cE, tE, hE⟩ := HE0.out.g.he
        have hU := lt_of_heap hU
        have hE := lt_of_heap hE
        have hs7 : (V0.alloc (.cells #[.int .i64 0] 3)).heap.size = V0.heap.size + 1 := by simp
        clear hI0 cR
        generalize (V0.alloc (.cells #[.int .i64 0] 3)) = Y0 at *
        clear hb7
        generalize hkb : V0.heap.size = kb0 at *
        apply wpIn_rangeFunc_ownF (hro := rfl) (h1 := by omega) (gf := 30) (lb := #[.pointer (some ⟨sb, 0, none⟩)]) (hg := by simp [Act.eval]) (hFg := trivial) (eg := enters_of Tryd.func30 (by kernel_rfl) rfl)
          (hseq := each1_stops (w := Y0) (9 - 1) (by omega) sb ⟨xs.toArray⟩ kb0 (kb0 + 1) (by simpa [ByteArray.size] using hm) aU aE (by omega) h2 hU hE HE7.out.g Hst7.out.cell)
          (hKt := fun h k => h.t k) (hKb := fun W l o o' _ h ho _ => KpB.b W l o o' h ho) (hb0 := Below.refl _ _) (hps := fun _ => rfl)
          (I := EachI Y0 kb0) (Ix := (fun _ pre _ => Mis xs pre)) (h0 := HI0.out)
        case hI =>
          intro s A B row hs hg hr
          exact ⟨hs.1.kept hg (fun r e => (hr r e).2), hs.2.grown hg (Nat.le_trans (by omega) hs.2.size) (fun k e => by have := (hr k e).1; omega)⟩
        case hIx => exact fun _ _ _ _ _ hs _ _ => hs
        case hassign =>
          intro l x W K hK
          gi_wp2
          exact hK
        case hbody =>
          rintro l pre x W ⟨hk, hB⟩ hN
          have hN' : pre.length < (each xs).length := hN
          have hB6 : Below V0.heap.size V0 W := by rw [hkb]; exact Hb7.out.trans hB
          have HEW := Lib.hid (HE0.out.later hB6)
          have c6 := HEW.out.b6.cell
          have c7 := HEW.out.b7.cell
          have c13 := (Hr0.out.later hB6).cell
          have ck := hk.cell
          have fk := hk.frozen
          obtain ⟨A1', k1', e1, -, hv1⟩ := id HEW.out.v1
          injection e1 with e11 e12 e13
          subst e11 e13
          obtain ⟨g1, rfl, hw1⟩ := hv1 (by rw [List.length_map]; omega)
          obtain ⟨A2', k2', e2, -, hv2⟩ := id HEW.out.v2
          injection e2 with e21 e22 e23
          subst e21 e23
          obtain ⟨g2, rfl, hw2⟩ := hv2 (by rw [List.length_map]; omega)
          obtain ⟨y, hy⟩ : ∃ y, (each xs)[pre.length]? = some y := ⟨_, List.getElem?_eq_getElem hN'⟩
          have ca := hw1 pre.length (posV y) (by rw [List.getElem?_map, hy]; rfl)
          have cb := hw2 pre.length (chV y) (by rw [List.getElem?_map, hy]; rfl)
          unfold posV at ca
          unfold chV at cb
          have Hy := Lib.hid hy
          have hlk : (pre.length : Int) < (each xs).length := by omega
          have hlk2 : (pre.length : Int) + 1 ≤ 9223372036854775807 := by omega
          have Hk := Lib.hid hk
          have HB := Lib.hid hB
          clear hw1 hw2 hv1 hv2 e12 e22 hy hk hB hN hB6
          by_cases hxy : x = y
          · subst hxy
            obtain ⟨x1, x2⟩ := x
            have nrk : ¬ rb0 = kb0 := by omega
            have nrk' : ¬ kb0 = rb0 := by omega
            have hB6 : Below V0.heap.size V0 W := by rw [hkb]; exact Hb7.out.trans HB.out
            have c13' : (W.setCell ⟨kb0, 0, none⟩ (.int .i64 ((pre.length : Int) + 1))).cell? ⟨rb0, 0, none⟩ = some (.int .i64 0) := ((Hr0.out.later hB6).far (p := ⟨kb0, 0, none⟩) nrk _).cell
            clear hkb hs7 h2 hU hE hB6
            iterate 56 (try (first | go_values | gi_guarded | gi_step | gi_upon))
            refine wpIn_cond_split rfl (fun h => ?_) (fun h => ?_)
            · exfalso
              revert h
              simp
              omega
            · clear h
              gi_wp2_with fail
              exact ⟨KeepsOthers.setCell _ _ _, KpB.setCell W (p := ⟨kb0, 0, none⟩) (Nat.le_refl _) (by simp) _, by rw [List.length_append]; exact Hk.out.set _, HB.out.setCell (p := ⟨kb0, 0, none⟩) (Nat.le_refl _) _⟩
          · have Hxy := Lib.hid hxy
            have cr := HEW.out.bR.cell
            have fr := HEW.out.bR.frozen
            have hmis : Mis xs (pre ++ [x]) := ⟨pre, x, rfl, by rw [Hy.out]; exact fun e => Hxy.out (Option.some.inj e).symm⟩
            have Hmis := Lib.hid hmis
            clear hmis
            obtain ⟨x1, x2⟩ := x
            obtain ⟨y1, y2⟩ := y
            by_cases hx1 : x1 = y1
            · have t2 : ((x2 : Int) != y2) = true := by
                have : x2 ≠ y2 := fun e => hxy (by rw [hx1, e])
                simp; omega
              subst hx1
              clear hxy
              gi_wp2_with fail
              exact ⟨KeepsOthers.setCell _ _ _, Hmis.out⟩
            · have t1 : ((x1 : Int) != y1) = true := by simp; omega
              clear hxy hx1
              gi_wp2_with fail
              exact ⟨KeepsOthers.setCell _ _ _, Hmis.out⟩
        case hstop =>
          rintro D c pre W hD hp hmis hK
          exact (Mis.no hmis hp).elim
        case hdone =>
          rintro D0 ys W hD rfl ⟨hk, hB⟩ hK
          have hB6 : Below V0.heap.size V0 W := by rw [hkb]; exact Hb7.out.trans hB
          have HEW := Lib.hid (HE0.out.later hB6)
          have HstW := Lib.hid (Hst0.out.later hB6)
          have c6 := HEW.out.b6.cell
          have c13 := (Hr0.out.later hB6).cell
          have ck := hk.cell
          have HMW := Lib.hid ((HM0.out.later hB6).more (D := D0) (fun E hE => by have := lt_of_heap (HM0.out.2 E hE).2; omega) (Nat.le_trans HE0.out.bel.size (by omega)) hK)
          clear hk hB hB6 hK hkb hs7 h2 hU hE HE0 Hst0 Hr0 HM0 HE7 Hst7 HI0 Hb7
          simp only [Exit.inBlock, Exit.then]
          gi_wp2_with fail
          have hbV := alloc_below W (.cells #[.int .i64 1] 3)
          have HE1 := Lib.hid (HEW.out.later hbV)
          have Hst1 := Lib.hid (HstW.out.later hbV)
          have HM1 := Lib.hid (HMW.out.later hbV)
          have Hr1 := Lib.hid (Bx.new W 3 (.int .i64 1))
          have Hsb1 : sb < (W.alloc (.cells #[.int .i64 1] 3)).heap.size := by have := HstW.out.lt; simp; omega
          have Hrb1 : W.heap.size < (W.alloc (.cells #[.int .i64 1] 3)).heap.size := by simp
          generalize (W.alloc (.cells #[.int .i64 1] 3)) = V1 at *
          generalize W.heap.size = rb1 at *
          clear hbV c6 c13 ck HEW HstW HMW
          rw [roundsIn_succ]
          have cR := Hr1.out.cell
          gi_wp2_with fail
          have hI0 : EachI (V1.alloc (.cells #[.int .i64 0] 3)) V1.heap.size [] (V1.alloc (.cells #[.int .i64 0] 3)) := ⟨Bx.new V1 3 (.int .i64 0), Below.refl _ _⟩
          have HI0 := Lib.hid hI0
          have hb7 := alloc_below V1 (.cells #[.int .i64 0] 3)
          have Hb7 := Lib.hid hb7
          have HE7 := Lib.hid (HE1.out.later hb7)
          have Hst7 := Lib.hid (Hst1.out.later hb7)
          have h2 := World.block_lt_of_cell? V1 _ (HE1.out.g.l 0 (by omega))
          obtain ⟨cU, tU, hU⟩ := HE1.out.g.hu
          obtain ⟨cE, tE, hE⟩ := HE1.out.g.he
          have hU := lt_of_heap hU
          have hE := lt_of_heap hE
          have hs7 : (V1.alloc (.cells #[.int .i64 0] 3)).heap.size = V1.heap.size + 1 := by simp
          clear hI0 cR
          generalize (V1.alloc (.cells #[.int .i64 0] 3)) = Y1 at *
          clear hb7
          generalize hkb : V1.heap.size = kb1 at *
          apply wpIn_rangeFunc_ownF (hro := rfl) (h1 := by omega) (gf := 30) (lb := #[.pointer (some ⟨sb, 0, none⟩)]) (hg := by simp [Act.eval]) (hFg := trivial) (eg := enters_of Tryd.func30 (by kernel_rfl) rfl)
            (hseq := each1_stops (w := Y1) (9 - 1) (by omega) sb ⟨xs.toArray⟩ kb1 (kb1 + 1) (by simpa [ByteArray.size] using hm) aU aE (by omega) h2 hU hE HE7.out.g Hst7.out.cell)
            (hKt := fun h k => h.t k) (hKb := fun W l o o' _ h ho _ => KpB.b W l o o' h ho) (hb0 := Below.refl _ _) (hps := fun _ => rfl)
            (I := EachI Y1 kb1) (Ix := (fun _ pre _ => Mis xs pre)) (h0 := HI0.out)
          case hI =>
            intro s A B row hs hg hr
            exact ⟨hs.1.kept hg (fun r e => (hr r e).2), hs.2.grown hg (Nat.le_trans (by omega) hs.2.size) (fun k e => by have := (hr k e).1; omega)⟩
          case hIx => exact fun _ _ _ _ _ hs _ _ => hs
          case hassign =>
            intro l x W K hK
            gi_wp2
            exact hK
          case hbody =>
            rintro l pre x W ⟨hk, hB⟩ hN
            have hN' : pre.length < (each xs).length := hN
            have hB6 : Below V1.heap.size V1 W := by rw [hkb]; exact Hb7.out.trans hB
            have HEW := Lib.hid (HE1.out.later hB6)
            have c6 := HEW.out.b6.cell
            have c7 := HEW.out.b7.cell
            have c13 := (Hr1.out.later hB6).cell
            have ck := hk.cell
            have fk := hk.frozen
            obtain ⟨A1', k1', e1, -, hv1⟩ := id HEW.out.v1
            injection e1 with e11 e12 e13
            subst e11 e13
            obtain ⟨g1, rfl, hw1⟩ := hv1 (by rw [List.length_map]; omega)
            obtain ⟨A2', k2', e2, -, hv2⟩ := id HEW.out.v2
            injection e2 with e21 e22 e23
            subst e21 e23
            obtain ⟨g2, rfl, hw2⟩ := hv2 (by rw [List.length_map]; omega)
            obtain ⟨y, hy⟩ : ∃ y, (each xs)[pre.length]? = some y := ⟨_, List.getElem?_eq_getElem hN'⟩
            have ca := hw1 pre.length (posV y) (by rw [List.getElem?_map, hy]; rfl)
            have cb := hw2 pre.length (chV y) (by rw [List.getElem?_map, hy]; rfl)
            unfold posV at ca
            unfold chV at cb
            have Hy := Lib.hid hy
            have hlk : (pre.length : Int) < (each xs).length := by omega
            have hlk2 : (pre.length : Int) + 1 ≤ 9223372036854775807 := by omega
            have Hk := Lib.hid hk
            have HB := Lib.hid hB
            clear hw1 hw2 hv1 hv2 e12 e22 hy hk hB hN hB6
            by_cases hxy : x = y
            · subst hxy
              obtain ⟨x1, x2⟩ := x
              have nrk : ¬ rb1 = kb1 := by omega
              have nrk' : ¬ kb1 = rb1 := by omega
              have hB6 : Below V1.heap.size V1 W := by rw [hkb]; exact Hb7.out.trans HB.out
              have c13' : (W.setCell ⟨kb1, 0, none⟩ (.int .i64 ((pre.length : Int) + 1))).cell? ⟨rb1, 0, none⟩ = some (.int .i64 1) := ((Hr1.out.later hB6).far (p := ⟨kb1, 0, none⟩) nrk _).cell
              clear hkb hs7 h2 hU hE hB6
              iterate 56 (try (first | go_values | gi_guarded | gi_step | gi_upon))
              refine wpIn_cond_split rfl (fun h => ?_) (fun h => ?_)
              · exfalso
                revert h
                simp
                omega
              · clear h
                gi_wp2_with fail
                exact ⟨KeepsOthers.setCell _ _ _, KpB.setCell W (p := ⟨kb1, 0, none⟩) (Nat.le_refl _) (by simp) _, by rw [List.length_append]; exact Hk.out.set _, HB.out.setCell (p := ⟨kb1, 0, none⟩) (Nat.le_refl _) _⟩
            · have Hxy := Lib.hid hxy
              have cr := HEW.out.bR.cell
              have fr := HEW.out.bR.frozen
              have hmis : Mis xs (pre ++ [x]) := ⟨pre, x, rfl, by rw [Hy.out]; exact fun e => Hxy.out (Option.some.inj e).symm⟩
              have Hmis := Lib.hid hmis
              clear hmis
              obtain ⟨x1, x2⟩ := x
              obtain ⟨y1, y2⟩ := y
              by_cases hx1 : x1 = y1
              · have t2 : ((x2 : Int) != y2) = true := by
                  have : x2 ≠ y2 := fun e => hxy (by rw [hx1, e])
                  simp; omega
                subst hx1
                clear hxy
                gi_wp2_with fail
                exact ⟨KeepsOthers.setCell _ _ _, Hmis.out⟩
              · have t1 : ((x1 : Int) != y1) = true := by simp; omega
                clear hxy hx1
                gi_wp2_with fail
                exact ⟨KeepsOthers.setCell _ _ _, Hmis.out⟩
          case hstop =>
            rintro D c pre W hD hp hmis hK
            exact (Mis.no hmis hp).elim
          case hdone =>
            rintro D1 ys W hD rfl ⟨hk, hB⟩ hK
            have hB6 : Below V1.heap.size V1 W := by rw [hkb]; exact Hb7.out.trans hB
            have HEW := Lib.hid (HE1.out.later hB6)
            have HstW := Lib.hid (Hst1.out.later hB6)
            have c6 := HEW.out.b6.cell
            have c13 := (Hr1.out.later hB6).cell
            have ck := hk.cell
            have HMW := Lib.hid ((HM1.out.later hB6).more (D := D1) (fun E hE => by have := lt_of_heap (HM1.out.2 E hE).2; omega) (Nat.le_trans HE1.out.bel.size (by omega)) hK)
            clear hk hB hB6 hK hkb hs7 h2 hU hE HE1 Hst1 Hr1 HM1 HE7 Hst7 HI0 Hb7
            simp only [Exit.inBlock, Exit.then]
            gi_wp2_with fail
            have hbV := alloc_below W (.cells #[.int .i64 2] 3)
            have HE2 := Lib.hid (HEW.out.later hbV)
            have Hst2 := Lib.hid (HstW.out.later hbV)
            have HM2 := Lib.hid (HMW.out.later hbV)
            have Hr2 := Lib.hid (Bx.new W 3 (.int .i64 2))
            have Hsb2 : sb < (W.alloc (.cells #[.int .i64 2] 3)).heap.size := by have := HstW.out.lt; simp; omega
            have Hrb2 : W.heap.size < (W.alloc (.cells #[.int .i64 2] 3)).heap.size := by simp
            generalize (W.alloc (.cells #[.int .i64 2] 3)) = V2 at *
            generalize W.heap.size = rb2 at *
            clear hbV c6 c13 ck HEW HstW HMW
            rw [roundsIn_succ]
            have cR := Hr2.out.cell
            gi_wp2_with fail
            have hI0 : EachI (V2.alloc (.cells #[.int .i64 0] 3)) V2.heap.size [] (V2.alloc (.cells #[.int .i64 0] 3)) := ⟨Bx.new V2 3 (.int .i64 0), Below.refl _ _⟩
            have HI0 := Lib.hid hI0
            have hb7 := alloc_below V2 (.cells #[.int .i64 0] 3)
            have Hb7 := Lib.hid hb7
            have HE7 := Lib.hid (HE2.out.later hb7)
            have Hst7 := Lib.hid (Hst2.out.later hb7)
            have h2 := World.block_lt_of_cell? V2 _ (HE2.out.g.l 0 (by omega))
            obtain ⟨cU, tU, hU⟩ := HE2.out.g.hu
            obtain ⟨cE, tE, hE⟩ := HE2.out.g.he
            have hU := lt_of_heap hU
            have hE := lt_of_heap hE
            have hs7 : (V2.alloc (.cells #[.int .i64 0] 3)).heap.size = V2.heap.size + 1 := by simp
            clear hI0 cR
            generalize (V2.alloc (.cells #[.int .i64 0] 3)) = Y2 at *
            clear hb7
            generalize hkb : V2.heap.size = kb2 at *
            apply wpIn_rangeFunc_ownF (hro := rfl) (h1 := by omega) (gf := 30) (lb := #[.pointer (some ⟨sb, 0, none⟩)]) (hg := by simp [Act.eval]) (hFg := trivial) (eg := enters_of Tryd.func30 (by kernel_rfl) rfl)
              (hseq := each1_stops (w := Y2) (9 - 1) (by omega) sb ⟨xs.toArray⟩ kb2 (kb2 + 1) (by simpa [ByteArray.size] using hm) aU aE (by omega) h2 hU hE HE7.out.g Hst7.out.cell)
              (hKt := fun h k => h.t k) (hKb := fun W l o o' _ h ho _ => KpB.b W l o o' h ho) (hb0 := Below.refl _ _) (hps := fun _ => rfl)
              (I := (fun pre W => EachI Y2 kb2 pre W ∧ (stop ≤ 0 ∨ (pre.length : Int) < stop))) (Ix := (fun c pre W => Mis xs pre ∨ (c = .exit 4 ∧ (pre.length : Int) = stop ∧ EachI Y2 kb2 pre W))) (h0 := ⟨HI0.out, by simp; omega⟩)
            case hI =>
              rintro s A B row ⟨hs, hst⟩ hg hr
              exact ⟨⟨hs.1.kept hg (fun r e => (hr r e).2), hs.2.grown hg (Nat.le_trans (by omega) hs.2.size) (fun k e => by have := (hr k e).1; omega)⟩, hst⟩
            case hIx =>
              rintro c s A B row (hs | ⟨h1, h2, hs⟩) hg hr
              · exact .inl hs
              · exact .inr ⟨h1, h2, ⟨hs.1.kept hg (fun r e => (hr r e).2), hs.2.grown hg (Nat.le_trans (by omega) hs.2.size) (fun k e => by have := (hr k e).1; omega)⟩⟩
            case hassign =>
              intro l x W K hK
              gi_wp2
              exact hK
            case hbody =>
              rintro l pre x W ⟨⟨hk, hB⟩, hst⟩ hN
              have hN' : pre.length < (each xs).length := hN
              have hB6 : Below V2.heap.size V2 W := by rw [hkb]; exact Hb7.out.trans hB
              have HEW := Lib.hid (HE2.out.later hB6)
              have c6 := HEW.out.b6.cell
              have c7 := HEW.out.b7.cell
              have c13 := (Hr2.out.later hB6).cell
              have ck := hk.cell
              have fk := hk.frozen
              obtain ⟨A1', k1', e1, -, hv1⟩ := id HEW.out.v1
              injection e1 with e11 e12 e13
              subst e11 e13
              obtain ⟨g1, rfl, hw1⟩ := hv1 (by rw [List.length_map]; omega)
              obtain ⟨A2', k2', e2, -, hv2⟩ := id HEW.out.v2
              injection e2 with e21 e22 e23
              subst e21 e23
              obtain ⟨g2, rfl, hw2⟩ := hv2 (by rw [List.length_map]; omega)
              obtain ⟨y, hy⟩ : ∃ y, (each xs)[pre.length]? = some y := ⟨_, List.getElem?_eq_getElem hN'⟩
              have ca := hw1 pre.length (posV y) (by rw [List.getElem?_map, hy]; rfl)
              have cb := hw2 pre.length (chV y) (by rw [List.getElem?_map, hy]; rfl)
              unfold posV at ca
              unfold chV at cb
              have Hy := Lib.hid hy
              have hlk : (pre.length : Int) < (each xs).length := by omega
              have hlk2 : (pre.length : Int) + 1 ≤ 9223372036854775807 := by omega
              have Hk := Lib.hid hk
              have HB := Lib.hid hB
              clear hw1 hw2 hv1 hv2 e12 e22 hy hk hB hN hB6
              by_cases hxy : x = y
              · subst hxy
                obtain ⟨x1, x2⟩ := x
                have nrk : ¬ rb2 = kb2 := by omega
                have nrk' : ¬ kb2 = rb2 := by omega
                have hB6 : Below V2.heap.size V2 W := by rw [hkb]; exact Hb7.out.trans HB.out
                have c13' : (W.setCell ⟨kb2, 0, none⟩ (.int .i64 ((pre.length : Int) + 1))).cell? ⟨rb2, 0, none⟩ = some (.int .i64 2) := ((Hr2.out.later hB6).far (p := ⟨kb2, 0, none⟩) nrk _).cell
                have cS := HEW.out.bS.cell
                have cS' : (W.setCell ⟨kb2, 0, none⟩ (.int .i64 ((pre.length : Int) + 1))).cell? ⟨w.heap.size, 0, none⟩ = some (.int .i64 stop) := ((HEW.out.bS).far (p := ⟨kb2, 0, none⟩) (by show w.heap.size ≠ kb2; have := HE2.out.bS.lt; omega) _).cell
                have ck' : (W.setCell ⟨kb2, 0, none⟩ (.int .i64 ((pre.length : Int) + 1))).cell? ⟨kb2, 0, none⟩ = some (.int .i64 ((pre.length : Int) + 1)) := (Hk.out.set _).cell
                clear hkb hs7 h2 hU hE hB6
                iterate 56 (try (first | go_values | gi_guarded | gi_step | gi_upon))
                refine wpIn_cond_split rfl (fun h => ?_) (fun h => ?_)
                · exfalso
                  revert h
                  simp
                  omega
                · clear h
                  by_cases hst1 : (pre.length : Int) + 1 = stop
                  · have Hst1 := Lib.hid hst1
                    have ts : (((pre.length : Int) + 1) == stop) = true := by simp; omega
                    clear hst1
                    gi_wp2_with fail
                    exact ⟨KeepsOthers.setCell _ _ _, .inr ⟨rfl, by rw [List.length_append]; exact Hst1.out, by rw [List.length_append]; exact Hk.out.set _, HB.out.setCell (p := ⟨kb2, 0, none⟩) (Nat.le_refl _) _⟩⟩
                  · have Hst1 := Lib.hid hst1
                    have ts : (((pre.length : Int) + 1) == stop) = false := by simp; omega
                    clear hst1
                    gi_wp2_with fail
                    exact ⟨KeepsOthers.setCell _ _ _, KpB.setCell W (p := ⟨kb2, 0, none⟩) (Nat.le_refl _) (by simp) _, ⟨by rw [List.length_append]; exact Hk.out.set _, HB.out.setCell (p := ⟨kb2, 0, none⟩) (Nat.le_refl _) _⟩, by have := Hst1.out; simp; omega⟩
              · have Hxy := Lib.hid hxy
                have cr := HEW.out.bR.cell
                have fr := HEW.out.bR.frozen
                have hmis : Mis xs (pre ++ [x]) := ⟨pre, x, rfl, by rw [Hy.out]; exact fun e => Hxy.out (Option.some.inj e).symm⟩
                have Hmis := Lib.hid hmis
                clear hmis
                obtain ⟨x1, x2⟩ := x
                obtain ⟨y1, y2⟩ := y
                by_cases hx1 : x1 = y1
                · have t2 : ((x2 : Int) != y2) = true := by
                    have : x2 ≠ y2 := fun e => hxy (by rw [hx1, e])
                    simp; omega
                  subst hx1
                  clear hxy
                  gi_wp2_with fail
                  exact ⟨KeepsOthers.setCell _ _ _, .inl Hmis.out⟩
                · have t1 : ((x1 : Int) != y1) = true := by simp; omega
                  clear hxy hx1
                  gi_wp2_with fail
                  exact ⟨KeepsOthers.setCell _ _ _, .inl Hmis.out⟩
            case hstop =>
              rintro D2 c pre W hD hp hst hK
              obtain ⟨rfl, hps, hk, hB⟩ := hst.resolve_left (fun h => Mis.no h hp)
              have hle : pre.length ≤ (each xs).length := hp.length_le
              have hB6 : Below V2.heap.size V2 W := by rw [hkb]; exact Hb7.out.trans hB
              have HEW := Lib.hid (HE2.out.later hB6)
              have HstW := Lib.hid (Hst2.out.later hB6)
              have c6 := HEW.out.b6.cell
              have c13 := (Hr2.out.later hB6).cell
              have ck := hk.cell
              have HMW := Lib.hid ((HM2.out.later hB6).more (D := D2) (fun E hE => by have := lt_of_heap (HM2.out.2 E hE).2; omega) (Nat.le_trans HE2.out.bel.size (by omega)) hK)
              clear hk hB hB6 hK hkb hs7 h2 hU hE HE2 Hst2 Hr2 HM2 HE7 Hst7 HI0 Hb7
              have cS := HEW.out.bS.cell
              by_cases hs0 : 0 < stop
              · have hge : ¬ ((each xs).length : Int) < stop := by omega
                have hne : ((pre.length : Int) != stop) = false := by simp; omega
                clear hps
                simp only [Exit.inBlock, Exit.then]
                gi_wp2_with fail
                have hbV := alloc_below W (.cells #[.int .i64 3] 3)
                have HE3 := Lib.hid (HEW.out.later hbV)
                have Hst3 := Lib.hid (HstW.out.later hbV)
                have HM3 := Lib.hid (HMW.out.later hbV)
                have Hr3 := Lib.hid (Bx.new W 3 (.int .i64 3))
                have Hsb3 : sb < (W.alloc (.cells #[.int .i64 3] 3)).heap.size := by have := HstW.out.lt; simp; omega
                have Hrb3 : W.heap.size < (W.alloc (.cells #[.int .i64 3] 3)).heap.size := by simp
                generalize (W.alloc (.cells #[.int .i64 3] 3)) = V3 at *
                generalize W.heap.size = rb3 at *
                clear hbV c6 c13 ck HEW HstW HMW
                rw [roundsIn_succ]
                have cR := Hr3.out.cell
                have cr := HE3.out.bR.cell
                have fr := HE3.out.bR.frozen
                gi_wp2_with fail
                exact ret_marks (w := w) [D2, D1, D0] rfl rfl (HM3.out.setBool _ _ (HM3.out.ne HE3.out.bR)) ⟨HE3.out.bR.set _, HE3.out.bel.setCell (p := ⟨w.heap.size + 1, 0, none⟩) (by simp) _⟩
              · clear hps
                simp only [Exit.inBlock, Exit.then]
                gi_wp2_with fail
                have hbV := alloc_below W (.cells #[.int .i64 3] 3)
                have HE3 := Lib.hid (HEW.out.later hbV)
                have Hst3 := Lib.hid (HstW.out.later hbV)
                have HM3 := Lib.hid (HMW.out.later hbV)
                have Hr3 := Lib.hid (Bx.new W 3 (.int .i64 3))
                have Hsb3 : sb < (W.alloc (.cells #[.int .i64 3] 3)).heap.size := by have := HstW.out.lt; simp; omega
                have Hrb3 : W.heap.size < (W.alloc (.cells #[.int .i64 3] 3)).heap.size := by simp
                generalize (W.alloc (.cells #[.int .i64 3] 3)) = V3 at *
                generalize W.heap.size = rb3 at *
                clear hbV c6 c13 ck HEW HstW HMW
                rw [roundsIn_succ]
                have cR := Hr3.out.cell
                have cr := HE3.out.bR.cell
                have fr := HE3.out.bR.frozen
                gi_wp2_with fail
                exact ret_marks (w := w) [D2, D1, D0] rfl rfl (HM3.out.setBool _ _ (HM3.out.ne HE3.out.bR)) ⟨HE3.out.bR.set _, HE3.out.bel.setCell (p := ⟨w.heap.size + 1, 0, none⟩) (by simp) _⟩
            case hdone =>
              rintro D2 ys W hD rfl ⟨⟨hk, hB⟩, hst⟩ hK
              have hst' : stop ≤ 0 ∨ ((each xs).length : Int) < stop := hst
              have hB6 : Below V2.heap.size V2 W := by rw [hkb]; exact Hb7.out.trans hB
              have HEW := Lib.hid (HE2.out.later hB6)
              have HstW := Lib.hid (Hst2.out.later hB6)
              have c6 := HEW.out.b6.cell
              have c13 := (Hr2.out.later hB6).cell
              have ck := hk.cell
              have HMW := Lib.hid ((HM2.out.later hB6).more (D := D2) (fun E hE => by have := lt_of_heap (HM2.out.2 E hE).2; omega) (Nat.le_trans HE2.out.bel.size (by omega)) hK)
              clear hk hB hB6 hK hkb hs7 h2 hU hE HE2 Hst2 Hr2 HM2 HE7 Hst7 HI0 Hb7
              have cS := HEW.out.bS.cell
              clear hst
              by_cases hs0 : 0 < stop
              · have hlt3 : ((each xs).length : Int) < stop := by omega
                clear hst'
                simp only [Exit.inBlock, Exit.then]
                gi_wp2_with fail
                have hbV := alloc_below W (.cells #[.int .i64 3] 3)
                have HE3 := Lib.hid (HEW.out.later hbV)
                have Hst3 := Lib.hid (HstW.out.later hbV)
                have HM3 := Lib.hid (HMW.out.later hbV)
                have Hr3 := Lib.hid (Bx.new W 3 (.int .i64 3))
                have Hsb3 : sb < (W.alloc (.cells #[.int .i64 3] 3)).heap.size := by have := HstW.out.lt; simp; omega
                have Hrb3 : W.heap.size < (W.alloc (.cells #[.int .i64 3] 3)).heap.size := by simp
                generalize (W.alloc (.cells #[.int .i64 3] 3)) = V3 at *
                generalize W.heap.size = rb3 at *
                clear hbV c6 c13 ck HEW HstW HMW
                rw [roundsIn_succ]
                have cR := Hr3.out.cell
                have cr := HE3.out.bR.cell
                have fr := HE3.out.bR.frozen
                gi_wp2_with fail
                exact ret_marks (w := w) [D2, D1, D0] rfl rfl (HM3.out.setBool _ _ (HM3.out.ne HE3.out.bR)) ⟨HE3.out.bR.set _, HE3.out.bel.setCell (p := ⟨w.heap.size + 1, 0, none⟩) (by simp) _⟩
              · clear hst'
                simp only [Exit.inBlock, Exit.then]
                gi_wp2_with fail
                have hbV := alloc_below W (.cells #[.int .i64 3] 3)
                have HE3 := Lib.hid (HEW.out.later hbV)
                have Hst3 := Lib.hid (HstW.out.later hbV)
                have HM3 := Lib.hid (HMW.out.later hbV)
                have Hr3 := Lib.hid (Bx.new W 3 (.int .i64 3))
                have Hsb3 : sb < (W.alloc (.cells #[.int .i64 3] 3)).heap.size := by have := HstW.out.lt; simp; omega
                have Hrb3 : W.heap.size < (W.alloc (.cells #[.int .i64 3] 3)).heap.size := by simp
                generalize (W.alloc (.cells #[.int .i64 3] 3)) = V3 at *
                generalize W.heap.size = rb3 at *
                clear hbV c6 c13 ck HEW HstW HMW
                rw [roundsIn_succ]
                have cR := Hr3.out.cell
                have cr := HE3.out.bR.cell
                have fr := HE3.out.bR.frozen
                gi_wp2_with fail
                exact ret_marks (w := w) [D2, D1, D0] rfl rfl (HM3.out.setBool _ _ (HM3.out.ne HE3.out.bR)) ⟨HE3.out.bR.set _, HE3.out.bel.setCell (p := ⟨w.heap.size + 1, 0, none⟩) (by simp) _⟩
  · have hl1 : (5000 : Int) < xs.length := by omega
    have c1 := HbR1.out.cell
    have c2 := HbR1.out.frozen
    gi_wp2_with fail
    exact ret_marks (w := w) [] rfl rfl ⟨List.nodup_nil, by simp⟩ ⟨HbR1.out.set _, (Hb0.out.trans (Hb1.out.mono Hb0.out.size)).setCell (p := ⟨w.heap.size + 1, 0, none⟩) (by simp) _⟩
end Go.Proofs.YtjnpfpaigedpbaaDoor

