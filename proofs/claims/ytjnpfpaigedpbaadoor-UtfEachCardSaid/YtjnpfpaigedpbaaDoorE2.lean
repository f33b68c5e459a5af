import Derived.Test.YtjnpfpaigedpbaaDoorD2
import Derived.Test.YtjnpfpaigedpbaaDoorE1
import Derived.Deep.DeepCutAuto
import Derived.Deep.RegionHeld3
namespace Go.Proofs.YtjnpfpaigedpbaaDoor
open Go.RowKit

theorem OwnB.blk {w : World} {base : Nat} {v : Value} {ys : List UInt8} (h : OwnB w base v ys) {g : Nat} (e : v.ownBlock = some g) : base ≤ g := by
  obtain ⟨_, ⟨rfl, _⟩ | ⟨g', cap, cur, rfl, hb, _⟩⟩ := h
  · simp [Value.ownBlock] at e
  · simp [Value.ownBlock] at e; omega
theorem decLoop_err (xs : List UInt8) (n : Nat) : ∀ f k, (decLoop xs n f k).2.2 ≠ 0 → decLoop xs n f k = (0, 0, (decLoop xs n f k).2.2)
  | 0, _, h => absurd rfl h
  | f + 1, k, h => by
    unfold decLoop at h ⊢; split
    · rfl
    · rename_i hk; rw [if_neg hk] at h; split
      · rename_i ho; rw [if_pos ho] at h; exact decLoop_err xs n f (k + 1) h
      · rfl
theorem dec_err {xs : List UInt8} (h : (dec xs).2.2 ≠ 0) : dec xs = (0, 0, (dec xs).2.2) := by
  unfold dec at h ⊢; split
  · rfl
  · rename_i h0; rw [if_neg h0] at h; split
    · rfl
    · rename_i hc; rw [if_neg hc] at h; exact decLoop_err _ _ _ _ h
theorem byteAt_take (xs : List UInt8) (k i : Nat) (h : i < k) : byteAt (xs.take k) i = byteAt xs i := by simp [byteAt, List.getElem?_take, h]
theorem Bs.take {w : World} {A : Option Addr} {c : Nat} {xs : List UInt8} (h : Bs w (.slice A xs.length c) xs) {k : Nat} (hk : k ≤ xs.length) : Bs w (.slice A k c) (xs.take k) := by
  obtain ⟨hm, A', c', e, hc, hcell⟩ := h
  injection e with e1 e2 e3
  subst e1 e3
  have hl : (xs.take k).length = k := by simp; omega
  refine ⟨by omega, A, c, by rw [hl], by omega, fun h0 => ?_⟩
  obtain ⟨b, o, e, hcl⟩ := hcell (by omega)
  refine ⟨b, o, e, fun i hi => ?_⟩
  rw [byteAt_take xs k i (by omega)]
  exact hcl i (by omega)
/-- A row of the call's own has been appended to. -/
theorem own_grown {w0 w w' : World} {v : Value} {ys : List UInt8} (hb : Below w0.heap.size w0 w) (h : OwnB w w0.heap.size v ys) (hg : w.grownBy w' v.ownBlock) : Below w0.heap.size w0 w' :=
  hb.grown hg hb.size (fun _ e => h.blk e)

set_option maxRecDepth 100000 in
set_option maxHeartbeats 2000000 in
theorem back_any {w : World} {aU aE : Addr} (c d : Int) (v : Value) (xs : List UInt8) (hb : Bs w v xs) (hg : Glob w aU aE) (hlen : xs.length ≤ 140737488351232) :
    Calls Tryd.prog 6 #[.int .i32 c, .int .i32 d, v] w fun e w' => LawTrue w e w' := by
  obtain ⟨hm, A, cap, rfl, hcap, -⟩ := id hb
  have Hg := Lib.hid hg
  have Hb := Lib.hid hb
  clear hg hb
  go_enter Tryd.func6, Tryd.ntmps6
  go_wp2_with fail
  refine (first_any Hg.out).mono ?_
  rintro e w1 ⟨rfl, hb1⟩
  have Hb1 := Lib.hid hb1
  clear hb1
  go_wp2_with fail
  refine (lform_any c (Hg.out.below Hb1.out)).mono ?_
  rintro e w2 ⟨v2, rfl, hb2, hv2⟩
  have Hb2 := Lib.hid (bthen Hb1.out hb2)
  have Hv2 := Lib.hid hv2
  clear hb2 hv2 Hb1
  go_wp2_with fail
  refine (lform_any d (Hg.out.below Hb2.out)).mono ?_
  rintro e w3 ⟨v3, rfl, hb3, hv3⟩
  have Hb3 := Lib.hid (bthen Hb2.out hb3)
  have Hv3 := Lib.hid hv3
  have Hv2' := Lib.hid (Hv2.out.below hb3)
  clear hb3 hv3 Hb2 Hv2
  obtain ⟨-, A2, n2, rfl, hn2, -⟩ := id Hv2'.out
  obtain ⟨-, A3, n3, rfl, hn3, -⟩ := id Hv3.out
  have l2 := frm_len c
  have l3 := frm_len d
  go_upto_region 4 with fail
  go_cut [10] (fun s wx => s = .bool (isR c) ∧ wx = w3)
  case first =>
    have hr : isR c = (decide (0 ≤ c) && decide (c ≤ 1114111) && (decide (c < 55296) || decide (57343 < c))) := by
      unfold isR; rw [Bool.eq_iff_iff]; simp <;> omega
    by_cases a1 : 0 ≤ c
    · by_cases a2 : c ≤ 1114111
      · by_cases a3 : c < 55296
        · have hr' := Lib.hid (show isR c = true by rw [hr]; simp [a1, a2, a3])
          clear hr
          go_wp2_with fail
          go_meet
          case rel => exact ⟨by rw [hr'.out], rfl⟩
        · by_cases a4 : 57343 < c
          · have hr' := Lib.hid (show isR c = true by rw [hr]; simp [a1, a2, a3, a4])
            clear hr
            go_wp2_with fail
            go_meet
            case rel => exact ⟨by rw [hr'.out], rfl⟩
          · have hr' := Lib.hid (show isR c = false by rw [hr]; simp [a1, a2, a3, a4])
            clear hr
            go_wp2_with fail
            go_meet
            case rel => exact ⟨by rw [hr'.out], rfl⟩
      · have hr' := Lib.hid (show isR c = false by rw [hr]; simp [a1, a2])
        clear hr
        go_wp2_with fail
        go_meet
        case rel => exact ⟨by rw [hr'.out], rfl⟩
    · have hr' := Lib.hid (show isR c = false by rw [hr]; simp [a1])
      clear hr
      go_wp2_with fail
      go_meet
      case rel => exact ⟨by rw [hr'.out], rfl⟩
  case rest =>
    obtain ⟨rfl, rfl⟩ := hcut
    go_upto_region 5 with fail
    go_cut [10, 47] (fun s10 s wx => s10 = .bool (isR c) ∧ s = .bool false ∧ wx = wc)
    case first =>
      by_cases hr : isR c = true
      · have hpos : 0 < (frm c).length := List.length_pos_iff.2 (frm_ne hr)
        rw [hr]
        go_wp2_with fail
        go_meet
        case rel => exact ⟨by rw [hr], rfl, rfl⟩
      · have hr' : isR c = false := by simpa using hr
        have hpos : ¬ 0 < (frm c).length := by rw [frm_nil hr']; simp
        clear hr
        rw [hr']
        go_wp2_with fail
        go_meet
        case rel => exact ⟨by rw [hr'], rfl, rfl⟩
    case rest =>
      obtain ⟨rfl, rfl, rfl⟩ := hcut
      go_upto_if 48 with fail
      obtain ⟨w3, hw3⟩ : ∃ w3, wc = w3 := ⟨_, rfl⟩
      rw [hw3] at Hb3 Hv3 Hv2' ⊢
      clear hw3
      go_cut [10] (fun s10 wx => s10 = .bool (isR c) ∧ Below w3.heap.size w3 wx)
      case first =>
        by_cases hr : isR c = true
        · rw [hr]
          have hcn : ((c.toNat : Nat) : Int) = c := by have := isR_pos hr; omega
          have hd1 : dec (frm c ++ xs) = (c.toNat, (frm c).length, 0) := by have := dec_of_frm c.toNat (by rw [hcn]; exact hr) xs; rwa [hcn] at this
          have hl1 : last (xs ++ frm c) = (c.toNat, (frm c).length, 0) := by have := last_of_frm c.toNat (by rw [hcn]; exact hr) xs; rwa [hcn] at this
          obtain ⟨a0, t0, e0, -, -, -, hcls⟩ := frm_shape c.toNat (by rw [hcn]; exact hr)
          rw [hcn] at e0
          have hcls' : classI (byteAt (frm c) 0) = (frm c).length := by rw [e0]; exact hcls
          have hpos : 0 < (frm c).length := by rw [e0]; simp
          have hne : ∀ hcd : c ≠ d, (frm d).take (frm c).length ≠ frm c ∧ (frm d).drop ((frm d).length - (frm c).length) ≠ frm c := by
            intro hcd
            by_cases hrd : isR d = true
            · have hdn : ((d.toNat : Nat) : Int) = d := by have := isR_pos hrd; omega
              rw [← hcn, ← hdn]
              have hnn : c.toNat ≠ d.toNat := by intro e; apply hcd; omega
              exact ⟨fun e => hnn (frm_prefix (by rw [hcn]; exact hr) (by rw [hdn]; exact hrd) e), fun e => hnn (frm_suffix (by rw [hcn]; exact hr) (by rw [hdn]; exact hrd) e)⟩
            · have : frm d = [] := frm_nil (by simpa using hrd)
              rw [this]
              have := frm_ne hr
              exact ⟨by simpa using this.symm, by simpa using this.symm⟩
          obtain ⟨-, A2', n2', ee, -, hcl⟩ := id Hv2'.out
          injection ee with ee1 ee2 ee3
          subst ee1 ee3
          obtain ⟨b2, o2, rfl, hcl2⟩ := hcl hpos
          have hx0 := hcl2 0 hpos
          rw [Nat.add_zero] at hx0
          have hx0b := byteAt_lt (frm c) 0
          have Hgw := Lib.hid (Hg.out.below Hb3.out)
          have Hxs := Lib.hid (Hb.out.below Hb3.out)
          have Hd1 := Lib.hid hd1
          have Hl1 := Lib.hid hl1
          have Hcls := Lib.hid hcls'
          have Hne := Lib.hid hne
          have Hx0 := Lib.hid hx0
          have Hcn := Lib.hid hcn
          have Hr := Lib.hid hr
          clear hd1 hl1 hcls' hcls hne hx0 hcn hr hcl hcl2 e0 ee2
          go_wp2_with fail
          refine (bytes_any Hv2'.out (by omega)).mono ?_
          rintro e w4 ⟨v4, rfl, hb4, ho4⟩
          have Ho4 := Lib.hid ho4
          have Hb4 := Lib.hid hb4
          have Hx4 := Lib.hid (Hxs.out.below hb4)
          clear ho4 hb4
          go_wp2_with (at_builtin; refine wpList_append_bs rfl (.tmp 51) (.tmp 52) rfl w3.heap.size _ _ (frm c) xs (by simp [Act.eval]) Ho4.out (by simp [Act.eval]) Hx4.out (by omega) Hb4.out.size ?_; intro v5 w5 h51 h52 h53; have Ho5 := Lib.hid h51; have Hg5 := Lib.hid h52; have Hv5 := Lib.hid h53; clear h51 h52 h53)
          have Hb5 := Lib.hid (own_grown Hb4.out Ho4.out Hg5.out)
          refine (decode_any Ho5.out.bs (Hgw.out.below Hb5.out)).mono ?_
          rw [Hd1.out]
          rintro e w6 ⟨rfl, m6, rfl⟩
          rw [decV_0, Hcn.out]
          have Hb6 := Lib.hid (blw_drewN Hb5.out m6)
          clear Ho4 Hb4 Hx4 Ho5 Hg5 Hv5 Hb5
          generalize w5.drewN m6 = w6 at *
          go_wp2_with fail
          refine (bytes_any (Hxs.out.below Hb6.out) (by omega)).mono ?_
          rintro e w7 ⟨v7, rfl, hb7, ho7⟩
          have Ho7 := Lib.hid ho7
          have Hb7 := Lib.hid hb7
          have Hy7 := Lib.hid (Hv2'.out.below (bthen Hb6.out hb7))
          clear ho7 hb7
          go_wp2_with (at_builtin; refine wpList_append_bs rfl (.tmp 60) (.tmp 61) rfl w6.heap.size _ _ xs (frm c) (by simp [Act.eval]) Ho7.out (by simp [Act.eval]) Hy7.out (by omega) Hb7.out.size ?_; intro v8 w8 h81 h82 h83; have Ho8 := Lib.hid h81; have Hg8 := Lib.hid h82; clear h81 h82 h83)
          have Hb8 := Lib.hid (bthen Hb6.out (own_grown Hb7.out Ho7.out Hg8.out))
          refine (last_any Ho8.out.bs (Hgw.out.below Hb8.out)).mono ?_
          rw [Hl1.out]
          rintro e w9 ⟨rfl, m9, rfl⟩
          rw [decV_0, Hcn.out]
          have Hb9 := Lib.hid (blw_drewN Hb8.out m9)
          clear Ho7 Hb7 Hy7 Ho8 Hg8 Hb8 Hb6
          generalize w8.drewN m9 = w9 at *
          have hx0 : w9.cell? ⟨b2, o2, none⟩ = some (.int .u8 (byteAt (frm c) 0)) := cell_later Hb9.out Hx0.out
          have hpi : (0 : Int) < (frm c).length := by omega
          go_wp2_with fail
          refine (class_any _ (by omega) _ (Hgw.out.below Hb9.out).l).mono ?_
          rintro e w' ⟨rfl, rfl⟩
          rw [Hcls.out]
          by_cases hge : (frm c).length ≤ (frm d).length
          · by_cases hcd : c = d
            · have hcd' : (c != d) = false := by simp [hcd]
              have Hcd := Lib.hid hcd
              clear hcd
              go_wp2_with fail
              go_quiet (fail)
              go_wp2_with fail
              go_meet
              case rel => exact ⟨by rw [Hr.out], blw_drewN Hb9.out _⟩
            · have hcd' : (c != d) = true := by simp [hcd]
              have Hne2 := Lib.hid (Hne.out hcd)
              clear hcd
              have hb1 : ((frm d).take (frm c).length == frm c) = false := by simpa using Hne2.out.1
              have hb2 : ((frm d).drop ((frm d).length - (frm c).length) == frm c) = false := by simpa using Hne2.out.2
              obtain ⟨-, A3', n3', ee, -, hcl⟩ := id Hv3.out
              injection ee with ee1 ee2 ee3
              subst ee1 ee3
              obtain ⟨b3, o3, rfl, -⟩ := hcl (by omega)
              clear hcl ee2
              have hn33 : ¬ n3 = (frm d).length - (frm c).length := by omega
              have hv9 := Hv3.out.below Hb9.out
              have q1 := fun n => string_of_bs ((hv9.take hge).drewN n)
              have q2 := fun n => string_of_bs ((Hv2'.out.below Hb9.out).drewN n)
              have q3 := fun n => string_of_bs ((hv9.cut (k := (frm d).length - (frm c).length) (by omega)).drewN n)
              clear hv9
              go_wp2_with fail
              go_quiet (fail)
              go_wp2_with fail
              go_meet
              case rel => exact ⟨by rw [Hr.out], blw_drewN Hb9.out _⟩
          · go_wp2_with fail
            go_quiet (fail)
            go_wp2_with fail
            go_meet
            case rel => exact ⟨by rw [Hr.out], blw_drewN Hb9.out _⟩
        · have hr' : isR c = false := by simpa using hr
          clear hr
          rw [hr']
          go_wp2_with fail
          go_meet
          case rel => exact ⟨by rw [hr'], Below.refl _ _⟩
      case rest =>
        obtain ⟨rfl, hbc⟩ := hcut
        have Hbc := Lib.hid (bthen Hb3.out hbc)
        clear hbc Hv3 Hv2' hn2 hn3 l2 l3
        go_wp2_with fail
        refine (decode_any (Hb.out.below Hbc.out) (Hg.out.below Hbc.out)).mono ?_
        have herr := @dec_err xs
        have hok := @dec_frm xs
        have hle := dec_le xs
        have hps := @dec_pos xs
        have hbd := dec_bd xs
        generalize dec xs = r at *
        obtain ⟨r1, r2, r3⟩ := r
        have hr3 : r3 = 0 ∨ r3 = 1 ∨ r3 = 2 := by have : r3 ≤ 2 := hbd.2; omega
        rintro e w6 ⟨rfl, m6, rfl⟩
        have hE := (Hg.out.below (blw_drewN Hbc.out m6)).e
        have hU := (Hg.out.below (blw_drewN Hbc.out m6)).u
        have Hb6 := Lib.hid (blw_drewN Hbc.out m6)
        rcases hr3 with rfl | rfl | rfl
        · rw [decV_0]
          have hr2 : r2 ≤ 4 := hbd.1
          have hr2' : r2 ≤ xs.length := hle
          have hr1 : 1 ≤ r2 := hps rfl
          have hf : frm r1 = xs.take r2 := (hok rfl).1
          have Hf := Lib.hid hf
          clear herr hok hle hps hbd hf
          have hg6 := Lib.hid (Hg.out.below Hb6.out)
          have hx6 := Lib.hid ((Hb.out.below Hb6.out).take hr2')
          generalize wc.drewN m6 = w6 at *
          have hr1i : (1 : Int) ≤ r2 := by omega
          have hr2i : (r2 : Int) ≤ xs.length := by omega
          have hr3i : (r2 : Int) ≤ 4 := by omega
          have hr2c : (r2 : Int) ≤ cap := by omega
          have q := fun W (hW : Below w6.heap.size w6 W) => string_of_bs (hx6.out.below hW)
          have Q := Lib.hid q
          clear q
          have hgd := Lib.hid (hg6.out.below (drewN_below w6 1))
          go_wp2_with fail
          have q1 := Q.out w6.drew (drewN_below w6 1)
          refine wp_region_noPanic ?_
          refine wp_region_held_drew (S := fun w' => Sem.run Tryd.prog (convert 24 9 (.slice A r2 cap)) w' = .ok (.string ⟨(xs.take r2).toArray⟩) w') (by kernel_rfl) (q1) (fun hHeld => ?_)
          refine wpAnyH_take (i := 0) (oi := { dst := some 160, op := Go.Op.move (Go.Operand.tmp 18), type := 3, pos := "free.go:44", after := #[], guard := none }) (v := ?v0) rfl (by kernel_rfl) (by kernel_rfl) (by kernel_rfl) (fun _ _ _ h => h) (Or.inl ⟨by rfl, ?hy0⟩) hHeld ?rest0
          case hy0 => (intro w hSw; (try dsimp only at hSw); go_simp; (try with_reducible rfl))
          try simp only [Act.put, List.setIfInBounds_toArray, List.set_cons_zero, List.set_cons_succ]
          refine wpAnyH_take (i := 1) (oi := { dst := some 161, op := Go.Op.binOp Go.BinOp.geq 3 (Go.Operand.tmp 160) (Go.Operand.const (Go.Value.int Go.IntKind.i64 1)) 3, type := 4, pos := "free.go:44", after := #[{ on := 0, ground := Go.Ground.data }], guard := none }) (v := ?v1) rfl (by kernel_rfl) (by kernel_rfl) (by kernel_rfl) (fun _ _ _ h => h) (Or.inl ⟨by rfl, ?hy1⟩) hHeld ?rest1
          case hy1 => (intro w hSw; (try dsimp only at hSw); go_simp; (try with_reducible rfl))
          try simp only [Act.put, List.setIfInBounds_toArray, List.set_cons_zero, List.set_cons_succ]
          refine wpAnyH_take (i := 2) (oi := { dst := some 162, op := Go.Op.move (Go.Operand.tmp 161), type := 4, pos := "free.go:44", after := #[{ on := 1, ground := Go.Ground.data }], guard := none }) (v := ?v2) rfl (by kernel_rfl) (by kernel_rfl) (by kernel_rfl) (fun _ _ _ h => h) (Or.inl ⟨by rfl, ?hy2⟩) hHeld ?rest2
          case hy2 => (intro w hSw; (try dsimp only at hSw); go_simp; (try with_reducible rfl))
          try simp only [Act.put, List.setIfInBounds_toArray, List.set_cons_zero, List.set_cons_succ]
          refine wpAnyH_take (i := 3) (oi := { dst := some 163, op := Go.Op.move (Go.Operand.tmp 18), type := 3, pos := "free.go:44", after := #[{ on := 2, ground := Go.Ground.guard }], guard := some (2, true) }) (v := ?v3) rfl (by kernel_rfl) (by kernel_rfl) (by kernel_rfl) (fun _ _ _ h => h) (Or.inl ⟨by rfl, ?hy3⟩) hHeld ?rest3
          case hy3 => (intro w hSw; (try dsimp only at hSw); go_simp; (try with_reducible rfl))
          try simp only [Act.put, List.setIfInBounds_toArray, List.set_cons_zero, List.set_cons_succ]
          refine wpAnyH_take (i := 4) (oi := { dst := some 164, op := Go.Op.move (Go.Operand.tmp 2), type := 24, pos := "free.go:44", after := #[{ on := 2, ground := Go.Ground.guard }], guard := some (2, true) }) (v := ?v4) rfl (by kernel_rfl) (by kernel_rfl) (by kernel_rfl) (fun _ _ _ h => h) (Or.inl ⟨by rfl, ?hy4⟩) hHeld ?rest4
          case hy4 => (intro w hSw; (try dsimp only at hSw); go_simp; (try with_reducible rfl))
          try simp only [Act.put, List.setIfInBounds_toArray, List.set_cons_zero, List.set_cons_succ]
          refine wpAnyH_take (i := 5) (oi := { dst := some 165, op := Go.Op.call { callee := Go.Callee.builtin Go.Builtin.len, args := #[Go.Operand.tmp 164], argTypes := #[24] }, type := 3, pos := "free.go:44", after := #[{ on := 4, ground := Go.Ground.data }, { on := 2, ground := Go.Ground.guard }], guard := some (2, true) }) (v := ?v5) rfl (by kernel_rfl) (by kernel_rfl) (by kernel_rfl) (fun _ _ _ h => h) (Or.inl ⟨by rfl, ?hy5⟩) hHeld ?rest5
          case hy5 => (intro w hSw; (try dsimp only at hSw); go_simp; (try with_reducible rfl))
          try simp only [Act.put, List.setIfInBounds_toArray, List.set_cons_zero, List.set_cons_succ]
          refine wpAnyH_take (i := 6) (oi := { dst := some 166, op := Go.Op.binOp Go.BinOp.leq 3 (Go.Operand.tmp 163) (Go.Operand.tmp 165) 3, type := 4, pos := "free.go:44", after := #[{ on := 3, ground := Go.Ground.data }, { on := 5, ground := Go.Ground.data }, { on := 2, ground := Go.Ground.guard }], guard := some (2, true) }) (v := ?v6) rfl (by kernel_rfl) (by kernel_rfl) (by kernel_rfl) (fun _ _ _ h => h) (Or.inl ⟨by rfl, ?hy6⟩) hHeld ?rest6
          case hy6 => (intro w hSw; (try dsimp only at hSw); go_simp; (try with_reducible rfl))
          try simp only [Act.put, List.setIfInBounds_toArray, List.set_cons_zero, List.set_cons_succ]
          refine wpAnyH_take (i := 7) (oi := { dst := some 167, op := Go.Op.pick (Go.Operand.tmp 162) (Go.Operand.tmp 166) (Go.Operand.const (Go.Value.bool false)), type := 4, pos := "free.go:44", after := #[{ on := 2, ground := Go.Ground.data }, { on := 6, ground := Go.Ground.data }], guard := none }) (v := ?v7) rfl (by kernel_rfl) (by kernel_rfl) (by kernel_rfl) (fun _ _ _ h => h) (Or.inl ⟨by rfl, ?hy7⟩) hHeld ?rest7
          case hy7 => (intro w hSw; (try dsimp only at hSw); go_simp; (try with_reducible rfl))
          try simp only [Act.put, List.setIfInBounds_toArray, List.set_cons_zero, List.set_cons_succ]
          refine wpAnyH_take (i := 8) (oi := { dst := some 168, op := Go.Op.move (Go.Operand.tmp 167), type := 4, pos := "free.go:44", after := #[{ on := 7, ground := Go.Ground.data }, { on := 2, ground := Go.Ground.chain }], guard := none }) (v := ?v8) rfl (by kernel_rfl) (by kernel_rfl) (by kernel_rfl) (fun _ _ _ h => h) (Or.inl ⟨by rfl, ?hy8⟩) hHeld ?rest8
          case hy8 => (intro w hSw; (try dsimp only at hSw); go_simp; (try with_reducible rfl))
          try simp only [Act.put, List.setIfInBounds_toArray, List.set_cons_zero, List.set_cons_succ]
          refine wpAnyH_take (i := 9) (oi := { dst := some 169, op := Go.Op.move (Go.Operand.tmp 18), type := 3, pos := "free.go:44", after := #[{ on := 8, ground := Go.Ground.guard }], guard := some (8, true) }) (v := ?v9) rfl (by kernel_rfl) (by kernel_rfl) (by kernel_rfl) (fun _ _ _ h => h) (Or.inl ⟨by rfl, ?hy9⟩) hHeld ?rest9
          case hy9 => (intro w hSw; (try dsimp only at hSw); go_simp; (try with_reducible rfl))
          try simp only [Act.put, List.setIfInBounds_toArray, List.set_cons_zero, List.set_cons_succ]
          refine wpAnyH_take (i := 10) (oi := { dst := some 170, op := Go.Op.binOp Go.BinOp.leq 3 (Go.Operand.tmp 169) (Go.Operand.const (Go.Value.int Go.IntKind.i64 4)) 3, type := 4, pos := "free.go:44", after := #[{ on := 9, ground := Go.Ground.data }, { on := 8, ground := Go.Ground.guard }], guard := some (8, true) }) (v := ?v10) rfl (by kernel_rfl) (by kernel_rfl) (by kernel_rfl) (fun _ _ _ h => h) (Or.inl ⟨by rfl, ?hy10⟩) hHeld ?rest10
          case hy10 => (intro w hSw; (try dsimp only at hSw); go_simp; (try with_reducible rfl))
          try simp only [Act.put, List.setIfInBounds_toArray, List.set_cons_zero, List.set_cons_succ]
          refine wpAnyH_take (i := 11) (oi := { dst := some 171, op := Go.Op.pick (Go.Operand.tmp 168) (Go.Operand.tmp 170) (Go.Operand.const (Go.Value.bool false)), type := 4, pos := "free.go:44", after := #[{ on := 8, ground := Go.Ground.data }, { on := 10, ground := Go.Ground.data }], guard := none }) (v := ?v11) rfl (by kernel_rfl) (by kernel_rfl) (by kernel_rfl) (fun _ _ _ h => h) (Or.inl ⟨by rfl, ?hy11⟩) hHeld ?rest11
          case hy11 => (intro w hSw; (try dsimp only at hSw); go_simp; (try with_reducible rfl))
          try simp only [Act.put, List.setIfInBounds_toArray, List.set_cons_zero, List.set_cons_succ]
          refine wpAnyH_take (i := 12) (oi := { dst := some 172, op := Go.Op.move (Go.Operand.tmp 171), type := 4, pos := "free.go:44", after := #[{ on := 11, ground := Go.Ground.data }, { on := 8, ground := Go.Ground.chain }], guard := none }) (v := ?v12) rfl (by kernel_rfl) (by kernel_rfl) (by kernel_rfl) (fun _ _ _ h => h) (Or.inl ⟨by rfl, ?hy12⟩) hHeld ?rest12
          case hy12 => (intro w hSw; (try dsimp only at hSw); go_simp; (try with_reducible rfl))
          try simp only [Act.put, List.setIfInBounds_toArray, List.set_cons_zero, List.set_cons_succ]
          refine wpAnyH_take (i := 13) (oi := { dst := some 173, op := Go.Op.move (Go.Operand.tmp 17), type := 21, pos := "free.go:44", after := #[{ on := 12, ground := Go.Ground.guard }], guard := some (12, true) }) (v := ?v13) rfl (by kernel_rfl) (by kernel_rfl) (by kernel_rfl) (fun _ _ _ h => h) (Or.inl ⟨by rfl, ?hy13⟩) hHeld ?rest13
          case hy13 => (intro w hSw; (try dsimp only at hSw); go_simp; (try with_reducible rfl))
          try simp only [Act.put, List.setIfInBounds_toArray, List.set_cons_zero, List.set_cons_succ]
          refine wpAnyH_take (i := 16) (oi := { dst := some 176, op := Go.Op.move (Go.Operand.tmp 2), type := 24, pos := "free.go:44", after := #[{ on := 12, ground := Go.Ground.guard }], guard := some (12, true) }) (v := ?v16) rfl (by kernel_rfl) (by kernel_rfl) (by kernel_rfl) (fun _ _ _ h => h) (Or.inl ⟨by rfl, ?hy16⟩) hHeld ?rest16
          case hy16 => (intro w hSw; (try dsimp only at hSw); go_simp; (try with_reducible rfl))
          try simp only [Act.put, List.setIfInBounds_toArray, List.set_cons_zero, List.set_cons_succ]
          refine wpAnyH_take (i := 17) (oi := { dst := some 177, op := Go.Op.move (Go.Operand.tmp 18), type := 3, pos := "free.go:44", after := #[{ on := 12, ground := Go.Ground.guard }], guard := some (12, true) }) (v := ?v17) rfl (by kernel_rfl) (by kernel_rfl) (by kernel_rfl) (fun _ _ _ h => h) (Or.inl ⟨by rfl, ?hy17⟩) hHeld ?rest17
          case hy17 => (intro w hSw; (try dsimp only at hSw); go_simp; (try with_reducible rfl))
          try simp only [Act.put, List.setIfInBounds_toArray, List.set_cons_zero, List.set_cons_succ]
          refine wpAnyH_take (i := 18) (oi := { dst := some 178, op := Go.Op.slice 24 (Go.Operand.tmp 176) none (some (Go.Operand.tmp 177)) none, type := 24, pos := "free.go:44", after := #[{ on := 16, ground := Go.Ground.data }, { on := 17, ground := Go.Ground.data }, { on := 12, ground := Go.Ground.guard }], guard := some (12, true) }) (v := ?v18) rfl (by kernel_rfl) (by kernel_rfl) (by kernel_rfl) (fun _ _ _ h => h) (Or.inl ⟨by rfl, ?hy18⟩) hHeld ?rest18
          case hy18 => (intro w hSw; (try dsimp only at hSw); go_simp; (try with_reducible rfl))
          try simp only [Act.put, List.setIfInBounds_toArray, List.set_cons_zero, List.set_cons_succ]
          refine wpAnyH_take (i := 19) (oi := { dst := some 179, op := Go.Op.convert 24 9 (Go.Operand.tmp 178), type := 9, pos := "free.go:44", after := #[{ on := 18, ground := Go.Ground.data }, { on := 12, ground := Go.Ground.guard }], guard := some (12, true) }) (v := ?v19) rfl (by kernel_rfl) (by kernel_rfl) (by kernel_rfl) (fun _ _ _ h => h) (Or.inl ⟨by rfl, ?hy19⟩) hHeld ?rest19
          case hy19 => (intro w hSw; (try dsimp only at hSw); go_simp; (try with_reducible rfl))
          try simp only [Act.put, List.setIfInBounds_toArray, List.set_cons_zero, List.set_cons_succ]
          refine wpAnyH_ready (rs := [14]) (by kernel_rfl) (by simp) ?_
          refine AllReadyH.cons (o := { dst := some 174, op := Go.Op.call { callee := Go.Callee.value (Go.Operand.func 21), args := #[Go.Operand.tmp 173], argTypes := #[21] }, type := 24, pos := "free.go:44", after := #[{ on := 13, ground := Go.Ground.data }, { on := 12, ground := Go.Ground.chain }, { on := 12, ground := Go.Ground.guard }], guard := some (12, true) }) rfl (fun K hK => ?_) AllReadyH.nil
          go_simp
          refine (lform_any _ hgd.out).mono ?_; rintro e w7 ⟨v7, rfl, hb7, hv7⟩; have q7 := Q.out w7 (bthen (drewN_below w6 1) hb7); have q8 := string_of_bs hv7; have Hb7 := Lib.hid hb7; clear hb7 hv7; go_wp2_with fail
          refine hK.out _ _ (q7) (fun hHeld => ?_)
          clear hK K
          try simp only [Act.put, List.setIfInBounds_toArray, List.set_cons_zero, List.set_cons_succ]
          refine wpAnyH_ready (rs := [15]) (by kernel_rfl) (by simp) ?_
          refine AllReadyH.cons (o := { dst := some 175, op := Go.Op.convert 24 9 (Go.Operand.tmp 174), type := 9, pos := "free.go:44", after := #[{ on := 14, ground := Go.Ground.data }, { on := 12, ground := Go.Ground.guard }], guard := some (12, true) }) rfl (fun K hK => ?_) AllReadyH.nil
          go_simp
          refine hK.out _ _ (q7) (fun hHeld => ?_)
          clear hK K
          try simp only [Act.put, List.setIfInBounds_toArray, List.set_cons_zero, List.set_cons_succ]
          refine wpAnyH_take (i := 20) (oi := { dst := some 180, op := Go.Op.binOp Go.BinOp.eql 9 (Go.Operand.tmp 175) (Go.Operand.tmp 179) 9, type := 4, pos := "free.go:44", after := #[{ on := 15, ground := Go.Ground.data }, { on := 19, ground := Go.Ground.data }, { on := 12, ground := Go.Ground.guard }], guard := some (12, true) }) (v := ?v20) rfl (by kernel_rfl) (by kernel_rfl) (by kernel_rfl) (fun _ _ _ h => h) (Or.inl ⟨by rfl, ?hy20⟩) hHeld ?rest20
          case hy20 => (intro w hSw; (try dsimp only at hSw); go_simp; (try with_reducible rfl))
          try simp only [Act.put, List.setIfInBounds_toArray, List.set_cons_zero, List.set_cons_succ]
          refine wpAnyH_take (i := 21) (oi := { dst := some 181, op := Go.Op.pick (Go.Operand.tmp 172) (Go.Operand.tmp 180) (Go.Operand.const (Go.Value.bool false)), type := 4, pos := "free.go:44", after := #[{ on := 12, ground := Go.Ground.data }, { on := 20, ground := Go.Ground.data }], guard := none }) (v := ?v21) rfl (by kernel_rfl) (by kernel_rfl) (by kernel_rfl) (fun _ _ _ h => h) (Or.inl ⟨by rfl, ?hy21⟩) hHeld ?rest21
          case hy21 => (intro w hSw; (try dsimp only at hSw); go_simp; (try with_reducible rfl))
          try simp only [Act.put, List.setIfInBounds_toArray, List.set_cons_zero, List.set_cons_succ]
          refine wpAnyH_take (i := 22) (oi := { dst := some 6, op := Go.Op.assign (Go.Operand.tmp 181), type := 4, pos := "free.go:44", after := #[{ on := 21, ground := Go.Ground.data }, { on := 14, ground := Go.Ground.chain }, { on := 0, ground := Go.Ground.phase }, { on := 1, ground := Go.Ground.phase }, { on := 2, ground := Go.Ground.phase }, { on := 3, ground := Go.Ground.phase }, { on := 4, ground := Go.Ground.phase }, { on := 5, ground := Go.Ground.phase }, { on := 6, ground := Go.Ground.phase }, { on := 7, ground := Go.Ground.phase }, { on := 8, ground := Go.Ground.phase }, { on := 9, ground := Go.Ground.phase }, { on := 10, ground := Go.Ground.phase }, { on := 11, ground := Go.Ground.phase }, { on := 12, ground := Go.Ground.phase }, { on := 13, ground := Go.Ground.phase }, { on := 14, ground := Go.Ground.phase }, { on := 15, ground := Go.Ground.phase }, { on := 16, ground := Go.Ground.phase }, { on := 17, ground := Go.Ground.phase }, { on := 18, ground := Go.Ground.phase }, { on := 19, ground := Go.Ground.phase }, { on := 20, ground := Go.Ground.phase }, { on := 21, ground := Go.Ground.phase }], guard := none }) (v := ?v22) rfl (by kernel_rfl) (by kernel_rfl) (by kernel_rfl) (fun _ _ _ h => h) (Or.inl ⟨by rfl, ?hy22⟩) hHeld ?rest22
          case hy22 => (intro w hSw; (try dsimp only at hSw); go_simp; (try with_reducible rfl))
          try simp only [Act.put, List.setIfInBounds_toArray, List.set_cons_zero, List.set_cons_succ]
          refine wpAnyH_done (by kernel_rfl) (NoPanic.normal ?_) _
          have hbb : (frm (r1 : Int) == xs.take r2) = true := by rw [Hf.out]; simp
          go_wp2
          go_ret
          exact ⟨ret_bool hbb, Hb6.out.trans (((drewN_below w6 1).trans (Hb7.out.mono (Nat.le_refl _))).mono Hb6.out.size)⟩
        · rw [decV_1]
          have h0 := herr (by simp)
          injection h0 with h1 h2
          injection h2 with h2 _
          subst h1 h2
          clear herr hok hle hps hbd
          have q := run_eql_err_same aE (wc.drewN m6)
          go_wp2
          go_ret
          exact ⟨rfl, Hb6.out⟩
        · rw [decV_2]
          have h0 := herr (by simp)
          injection h0 with h1 h2
          injection h2 with h2 _
          subst h1 h2
          clear herr hok hle hps hbd
          have q := run_eql_err_same aU (wc.drewN m6)
          have q' := run_eql_err_other (Hg.out.below Hb6.out)
          go_wp2
          go_ret
          exact ⟨rfl, Hb6.out⟩
end Go.Proofs.YtjnpfpaigedpbaaDoor
