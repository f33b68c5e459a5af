import Derived.Test.YtjnpfpaigedpbaaDoorG1
import Derived.Test.YtjnpfpaigedpbaaDoorE1
import Derived.Deep.DeepCutAuto
namespace Go.Proofs.YtjnpfpaigedpbaaDoor
open Go.RowKit

theorem run_eql_err_nil (a : Addr) (W : World) : (binOp .eql 39 (errS a) .nilIface).run Tryd.prog W = .ok (.bool false) W := by
  kernel_rfl
theorem bs_cast {w : World} {v : Value} {xs ys : List UInt8} (h : Bs w v xs) (e : xs = ys) : Bs w v ys := e ▸ h
def YRel (w3 w4 : World) (n g cap : Nat) (u : Value) (wb : List UInt8) (i : Value) (wr : World) : Prop :=
  ∃ (k : Nat) (zs : List UInt8), k ≤ n ∧ i = .int .i64 k ∧ zs.length = n ∧ OwnB wr w3.heap.size (.slice (some ⟨g, 0, none⟩) n cap) zs ∧ OwnB wr w4.heap.size u wb ∧ Below w3.heap.size w3 wr
def XRel (w2 : World) (n g cap : Nat) (i : Value) (wr : World) : Prop :=
  ∃ (k : Nat) (zs : List UInt8), k ≤ n ∧ i = .int .i64 k ∧ zs.length = n ∧ OwnB wr w2.heap.size (.slice (some ⟨g, 0, none⟩) n cap) zs ∧ Below w2.heap.size w2 wr
theorem OwnB.lt {w : World} {base : Nat} {v : Value} {ys : List UInt8} (h : OwnB w base v ys) {g : Nat} (e : v.ownBlock = some g) : g < w.heap.size := by
  obtain ⟨_, ⟨rfl, _⟩ | ⟨g', cap, cur, rfl, hb, hg, _⟩⟩ := h
  · simp [Value.ownBlock] at e
  · simp [Value.ownBlock] at e; subst e; exact lt_of_heap hg
set_option maxRecDepth 100000 in
set_option maxHeartbeats 4000000 in
theorem appends_any {w : World} {aU aE : Addr} (c d : Int) (v : Value) (xs : List UInt8) (hb : Bs w v xs) (hg : Glob w aU aE) :
    Calls Tryd.prog 5 #[v, .int .i32 c, .int .i32 d] w fun e w' => LawTrue w e w' := by
  obtain ⟨hm, A, cap, rfl, hcap, -⟩ := id hb
  have Hg := Lib.hid hg
  have Hb := Lib.hid hb
  clear hg hb
  go_enter Tryd.func5, Tryd.ntmps5
  go_wp2_with fail
  refine (first_any Hg.out).mono ?_
  rintro e w1 ⟨rfl, hb1⟩
  have Hb1 := Lib.hid hb1
  have Hx1 := Lib.hid (Hb.out.below hb1)
  clear hb1
  by_cases hl : xs.length ≤ 5000
  · have hl1 : (xs.length : Int) ≤ 5000 := by omega
    have l1 := frm_len c
    have l2 := frm_len d
    go_wp2_with fail
    refine (room_any Hx1.out (by omega)).mono ?_
    rintro e w2 ⟨l, rfl, hb2, hl2⟩
    have Hb2 := Lib.hid (bthen Hb1.out hb2)
    have Hl2 := Lib.hid hl2
    obtain ⟨gl, capl, rfl, -, hgl, hcl, -⟩ := hl2.form (by simp [tri])
    have hn3 : (xs ++ tri).length = xs.length + 3 := by simp [tri]
    rw [hn3] at hcl Hl2 ⊢
    have hcl' : xs.length ≤ capl := by omega
    have Hy2 := Lib.hid (show Bs w2 (.slice (some ⟨gl, 0, none⟩) xs.length capl) xs by have := Hl2.out.bs.upto (k := xs.length) (by omega); rwa [List.take_left] at this)
    clear hl2 hb2
    go_wp2_with fail
    refine (append_uni _ c xs w2 aU aE Hy2.out (Hg.out.below Hb2.out) (by omega)).mono ?_
    rintro e w3 ⟨hb3, x, er1, rfl, hx3, her1⟩
    have Hb3 := Lib.hid hb3
    have Hx3 := Lib.hid hx3
    have Her1 := Lib.hid her1
    have Hy3 := Lib.hid (Hy2.out.below hb3)
    obtain ⟨-, Ax, capx, rfl, hcx, -⟩ := id hx3.bs
    clear hb3 hx3 her1
    go_wp2_with fail
    refine (append_uni _ d xs w3 aU aE Hy3.out (Hg.out.below (bthen Hb2.out Hb3.out)) (by omega)).mono ?_
    rintro e w4 ⟨hb4, y, er2, rfl, hy4, her2⟩
    have Hb4 := Lib.hid hb4
    have Ho4 := Lib.hid hy4
    have Her2 := Lib.hid her2
    obtain ⟨-, Ay, capy, rfl, hcy, -⟩ := id hy4.bs
    clear hb4 hy4 her2
    go_wp2_with fail
    refine (bytes_any (Hb.out.below (bthen (bthen Hb2.out Hb3.out) Hb4.out)) (by omega)).mono ?_
    rintro e w5 ⟨want, rfl, hb5, hw5⟩
    have Hb5 := Lib.hid hb5
    have Hw5 := Lib.hid hw5
    clear hb5 hw5
    go_wp2_with fail
    refine (refis_any c w5).mono ?_
    rintro e w' ⟨rfl, rfl⟩
    go_upto_if 53 with fail
    go_cut [13, 14] (fun s s14 wx => s14 = .bool (isR c) ∧ ∃ wb, (isR c = true → wb = xs ++ frm c) ∧ OwnB wx w4.heap.size s wb ∧ Below w4.heap.size w4 wx)
    case first =>
      by_cases hr : isR c = true
      · rw [hr]
        go_wp2_with fail
        refine (refform_any c hr).mono ?_
        rintro e w6 ⟨vf, rfl, hb6, hf6⟩
        have Hb6 := Lib.hid hb6
        have Hf6 := Lib.hid hf6
        clear hb6 hf6
        go_wp2_with (at_builtin; refine wpList_append_bs rfl (.tmp 54) (.tmp 56) rfl w4.heap.size _ _ xs (frm c) (by simp [Act.eval]) (Hw5.out.below Hb6.out (Nat.le_refl _)) (by simp [Act.eval]) Hf6.out (by omega) (Nat.le_trans Hb5.out.size Hb6.out.size) ?_; intro v7 w7 h1 h2 h3; have Ho7 := Lib.hid h1; have Hg7 := Lib.hid h2; clear h1 h2 h3)
        go_meet
        case rel => exact ⟨by rw [hr], xs ++ frm c, fun _ => rfl, Ho7.out, own_grown' (bthen Hb5.out Hb6.out) (Hw5.out.below Hb6.out (Nat.le_refl _)) Hg7.out⟩
      · have hr' : isR c = false := by simpa using hr
        rw [hr']
        go_wp2_with fail
        go_meet
        case rel => exact ⟨by rw [hr'], xs, fun h => absurd h hr, Hw5.out, Hb5.out⟩
    case rest =>
      obtain ⟨rfl, wb, hwb, how, hbw⟩ := hcut
      have Hwb := Lib.hid hwb
      have How := Lib.hid how
      have Hbw := Lib.hid hbw
      clear hwb how hbw
      generalize hw5 : wc = w6 at *
      clear hw5
      go_wp2_with fail
      refine (refis_any d w6).mono ?_
      rintro e w' ⟨rfl, rfl⟩
      go_upto_region 12 with fail
      go_cut [10, 12, 14, 15, 97] (fun _ _ s14 s15 s97 wx => s14 = .bool (isR c) ∧ s15 = .bool (isR d) ∧ s97 = .bool false ∧ wx = w6)
      case first =>
        have gU := (Hg.out.below (bthen (bthen (bthen Hb2.out Hb3.out) Hb4.out) Hbw.out)).u
        have q2 := run_neq_err_same aU w6
        have q3 := run_eql_err_nil aU w6
        by_cases hr : isR c = true
        · have e1 : er1 = .nilIface := by rw [Her1.out, if_pos hr]
          by_cases hs : isR d = true
          · have e2 : er2 = .nilIface := by rw [Her2.out, if_pos hs]
            rw [e1, e2, hr, hs]
            go_wp2_with fail
            go_meet
            case rel => exact ⟨by rw [hr], by rw [hs], rfl, rfl⟩
          · have hs' : isR d = false := by simpa using hs
            have e2 : er2 = errS aU := by rw [Her2.out, if_neg hs]
            have z2 : (((outA xs d).length : Int) != 0) = false := by rw [outA, if_neg hs]; rfl
            rw [e1, e2, hr, hs']
            go_wp2_with fail
            go_meet
            case rel => exact ⟨by rw [hr], by rw [hs'], rfl, rfl⟩
        · have hr' : isR c = false := by simpa using hr
          have e1 : er1 = errS aU := by rw [Her1.out, if_neg hr]
          have z1 : (((outA xs c).length : Int) != 0) = false := by rw [outA, if_neg hr]; rfl
          by_cases hs : isR d = true
          · have e2 : er2 = .nilIface := by rw [Her2.out, if_pos hs]
            rw [e1, e2, hr', hs]
            go_wp2_with fail
            go_meet
            case rel => exact ⟨by rw [hr'], by rw [hs], rfl, rfl⟩
          · have hs' : isR d = false := by simpa using hs
            have e2 : er2 = errS aU := by rw [Her2.out, if_neg hs]
            have z2 : (((outA xs d).length : Int) != 0) = false := by rw [outA, if_neg hs]; rfl
            rw [e1, e2, hr', hs']
            go_wp2_with fail
            go_meet
            case rel => exact ⟨by rw [hr'], by rw [hs'], rfl, rfl⟩
      case rest =>
        obtain ⟨rfl, rfl, rfl, rfl⟩ := hcut
        have Hx6 := Lib.hid (Hx3.out.below (bthen Hb4.out Hbw.out) (Nat.le_refl _))
        have Hl6 := Lib.hid (Hl2.out.below (bthen (bthen Hb3.out Hb4.out) Hbw.out) (Nat.le_refl _))
        have Hlen : (outA xs d).length + [238, 238, (238 : UInt8)].length ≤ 140737488355328 := by unfold outA; split <;> simp <;> omega
        have Hlen' := Hlen
        rw [← List.length_append] at Hlen'
        have Hs3 := Lib.hid (Nat.le_trans Hb4.out.size Hbw.out.size)
        go_wp2_with (at_builtin; refine wpList_append_bs rfl (.tmp 98) (.tmp 99) rfl w3.heap.size _ _ (outA xs d) [238, 238, 238] (by simp [Act.eval]) (Ho4.out.below (bthen Hbw.out (alloc_below _ _)) (Nat.le_refl _)) (by simp [Act.eval]) (bs_ee _) Hlen (Nat.le_trans Hs3.out (by simp)) ?_; intro v7 w7 h1 h2 h3; have Ho7 := Lib.hid h1; have Hg7 := Lib.hid h2; have Hv7 := Lib.hid h3; clear h1 h2 h3)
        have hal : Below wc.heap.size wc (wc.alloc (.cells #[.int .u8 238, .int .u8 238, .int .u8 238] 5)) := alloc_below _ _
        generalize (wc.alloc (.cells #[.int .u8 238, .int .u8 238, .int .u8 238] 5)) = w6 at *
        have hne1 : ∀ g, u13.ownBlock = some g → (Value.slice Ay (outA xs d).length capy).ownBlock ≠ some g := fun g h1 h2 => by
          have := How.out.blk' h1; have := Ho4.out.lt h2; omega
        have hu7 := Lib.hid ((How.out.below hal (Nat.le_refl _)).grown Hg7.out hne1)
        have hb7 := Lib.hid (own_grown' (bthen (bthen Hb4.out Hbw.out) hal) (Ho4.out.below (bthen Hbw.out hal) (Nat.le_refl _)) Hg7.out)
        obtain ⟨g7, cap7, rfl, hg7, hlt7, hcap7, hob7⟩ := Ho7.out.form (by simp)
        have hne7 : ∀ g, u13.ownBlock = some g → some g7 ≠ some g := fun g h1 h2 => by
          have := How.out.blk' h1; have h3 := How.out.lt h1
          have h4 := hal.size
          rcases Hv7.out with h | h
          · exact hne1 g h1 (by rw [← h, hob7, h2])
          · rw [hob7, h2] at h; injection h with h; omega
        have Hne7 := Lib.hid hne7
        obtain ⟨n, hn⟩ : ∃ n, (outA xs d ++ [238, 238, 238]).length = n := ⟨_, rfl⟩
        have Hg7' := Lib.hid hg7
        rw [hn] at Hlen' hcap7 ⊢
        have Ho7' := Ho7.out
        rw [hn] at Ho7'
        have Ho8 := Lib.hid Ho7'
        clear Ho7' Ho7 hal hne1 hne7 Hg7 Hv7 hob7 hlt7 hg7
        have hn64 : (n : Int) ≤ 9223372036854775806 := by have := Hlen'; omega
        go_loopw [16] (YRel w3 w4 n g7 cap7 u13 wb) (fun i _ => n - (intOf i).toNat)
        case atStart => exact ⟨0, _, by omega, rfl, hn, Ho8.out, hu7.out, hb7.out⟩
        case round =>
          obtain ⟨k, zs, hk, rfl, hz, hown, hu, hbr⟩ := hrel
          have Hown := Lib.hid hown
          have Hu := Lib.hid hu
          have Hbr := Lib.hid hbr
          clear hown hu hbr
          by_cases hlt : k < n
          · obtain ⟨c1, c2⟩ := Hown.out.cellAt hz k hlt
            go_wp2_with fail
            have hst := Hown.out.stored hz k 238
            exact ⟨⟨k + 1, zs.set k 238, by omega, by go_num, by simpa using hz, hst.1, Hu.out.grown hst.2 Hne7.out, Hbr.out.grown hst.2 Hbr.out.size (fun _ e => by cases e; exact Hg7'.out)⟩, by simp [intOf]; omega⟩
          · obtain rfl : k = n := by omega
            have Hxr := Lib.hid (Hx3.out.below Hbr.out (Nat.le_refl _))
            have Hlr := Lib.hid (Hl2.out.below (bthen Hb3.out Hbr.out) (Nat.le_refl _)).bs
            have Hbw2 := Lib.hid (bthen Hb3.out Hbr.out)
            have Hbb := Lib.hid (Hb.out.below (bthen Hb2.out Hbw2.out))
            have HX := Lib.hid (fun h : isR c = true => bs_cast Hxr.out.bs (show outA xs c = xs ++ frm c by rw [outA, if_pos h]))
            have HW := Lib.hid (fun h : isR c = true => bs_cast Hu.out.bs (Hwb.out h))
            have Hlen2 : (outA xs c).length + [(1 : UInt8)].length ≤ 140737488355328 := by unfold outA; split <;> simp <;> omega
            have Hlen3 := Hlen2
            rw [← List.length_append] at Hlen3
            clear Hown Hu Hl6 Hx6 Hlen hn hn64
            have hrr : isR c = true ∨ isR c = false := by cases isR c <;> simp
            go_upto_region 19 with fail
            rcases hrr with hr | hr
            all_goals
              rw [hr]
              go_wp2_with (first | (go_at_call 20; refine (same_any (HX.out hr) (HW.out hr)).mono ?_; rintro e w' ⟨rfl, rfl⟩) | (go_at_call 15; refine (still_any Hlr.out Hbb.out).mono ?_; rintro e w' ⟨rfl, rfl⟩) | (at_builtin; refine wpList_append_bs rfl (.tmp 120) (.tmp 121) rfl w2.heap.size _ _ (outA xs c) [1] (by simp [Act.eval]) (Hxr.out.below (alloc_below _ _) (Nat.le_refl _)) (by simp [Act.eval]) (bs_1 _) Hlen2 (Nat.le_trans Hbw2.out.size (by simp)) ?_; intro v8 w8 h1 h2 h3; have Ho8 := Lib.hid h1; have Hg8 := Lib.hid h2; clear h1 h2 h3))
              have hb8 := Lib.hid (own_grown' (bthen Hbw2.out (alloc_below _ _)) (Hxr.out.below (alloc_below _ _) (Nat.le_refl _)) Hg8.out)
              obtain ⟨g8, cap8, rfl, hg8, hlt8, hcap8, hob8⟩ := Ho8.out.form (by simp)
              have Hg8' := Lib.hid hg8
              obtain ⟨m, hn⟩ : ∃ m, (outA xs c ++ [1]).length = m := ⟨_, rfl⟩
              rw [hn] at Hlen3 hcap8 ⊢
              have Ho8' := Ho8.out
              rw [hn] at Ho8'
              have Ho9 := Lib.hid Ho8'
              clear Ho8' Ho8 hob8 hlt8 hg8 Hg8
              have hn64 : (m : Int) ≤ 9223372036854775806 := by omega
              go_loopw [19] (XRel w2 m g8 cap8) (fun i _ => m - (intOf i).toNat)
              case atStart => exact ⟨0, _, by omega, rfl, hn, Ho9.out, hb8.out⟩
              case round =>
                obtain ⟨j, zs', hj, rfl, hz', hown, hbr⟩ := hrel
                have Hown := Lib.hid hown
                have Hbx := Lib.hid hbr
                clear hown hbr
                by_cases hlt' : j < m
                · obtain ⟨c1, c2⟩ := Hown.out.cellAt hz' j hlt'
                  go_wp2_with fail
                  have hst := Hown.out.stored hz' j 221
                  exact ⟨⟨j + 1, zs'.set j 221, by omega, by go_num, by simpa using hz', hst.1, Hbx.out.grown hst.2 Hbx.out.size (fun _ e => by cases e; exact Hg8'.out)⟩, by simp [intOf]; omega⟩
                · obtain rfl : j = m := by omega
                  have Hlx := Lib.hid (Hl2.out.below Hbx.out (Nat.le_refl _)).bs
                  have Hbbx := Lib.hid (Hb.out.below (bthen Hb2.out Hbx.out))
                  go_wp2_with (go_at_call 15; refine (still_any Hlx.out Hbbx.out).mono ?_; rintro e w' ⟨rfl, rfl⟩)
                  go_ret
                  exact ⟨rfl, bthen Hb2.out Hbx.out⟩
  · have hl1 : (5000 : Int) < xs.length := by omega
    go_wp2_with fail
    go_ret
    exact ⟨rfl, Hb1.out⟩
end Go.Proofs.YtjnpfpaigedpbaaDoor
