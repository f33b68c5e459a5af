import Derived.Test.YtjnpfpaigedpbaaDoorC3
namespace Go.Proofs.YtjnpfpaigedpbaaDoor
open Go.RowKit

theorem row39 : (Tryd.prog.info? 75).map (·.comparable) = some true := by kernel_rfl
theorem row93 : (Tryd.prog.info? 93).map (fun i => i.size) = some 1 := by kernel_rfl
theorem run_eql_err_same (a : Addr) (W : World) : (binOp .eql 39 (errS a) (errS a)).run Tryd.prog W = .ok (.bool true) W := by
  obtain ⟨i, hi, hc⟩ := Option.map_eq_some_iff.1 row39
  obtain ⟨j, hj, hs⟩ := Option.map_eq_some_iff.1 row93
  exact run_eql_iface_ptr_same W a Tryd.underlying39 Tryd.underlying75 hi hc hj
theorem run_neq_err_same (a : Addr) (W : World) : (binOp .neq 39 (errS a) (errS a)).run Tryd.prog W = .ok (.bool false) W := by
  obtain ⟨i, hi, hc⟩ := Option.map_eq_some_iff.1 row39
  obtain ⟨j, hj, hs⟩ := Option.map_eq_some_iff.1 row93
  simp only [binOp]
  simp [Op.equal, Op.maxDepth, run_equalIn_iface_ptr_same W 9998 a Tryd.underlying39 Tryd.underlying75 hi hc hj]
theorem run_eql_err_other {W : World} {aU aE : Addr} (h : Glob W aU aE) : (binOp .eql 39 (errS aU) (errS aE)).run Tryd.prog W = .ok (.bool false) W := by
  obtain ⟨i, hi, hc⟩ := Option.map_eq_some_iff.1 row39
  obtain ⟨j, hj, hs⟩ := Option.map_eq_some_iff.1 row93
  obtain ⟨c1, t1, h1⟩ := h.hu
  obtain ⟨c2, t2, h2⟩ := h.he
  exact run_eql_iface_ptr_other W Tryd.underlying39 Tryd.underlying75 hi hc hj (by omega) h.ne h1 h2
theorem run_eql_err_other' {W : World} {aU aE : Addr} (h : Glob W aU aE) : (binOp .eql 39 (errS aE) (errS aU)).run Tryd.prog W = .ok (.bool false) W := by
  obtain ⟨i, hi, hc⟩ := Option.map_eq_some_iff.1 row39
  obtain ⟨j, hj, hs⟩ := Option.map_eq_some_iff.1 row93
  obtain ⟨c1, t1, h1⟩ := h.hu
  obtain ⟨c2, t2, h2⟩ := h.he
  exact run_eql_iface_ptr_other W Tryd.underlying39 Tryd.underlying75 hi hc hj (by omega) (Ne.symm h.ne) h2 h1

/-- A literal slice of bytes. -/
theorem bs_lit {W : World} {g c : Nat} {z : Nat × Nat} (xs : List UInt8) (hm : xs.length ≤ 9223372036854775807) (hc : xs.length ≤ c) (hg : W.heap[g]? = some (.cells (bvs xs).toArray 5 z)) : Bs W (.slice (some ⟨g, 0, none⟩) xs.length c) xs := by
  refine ⟨hm, _, c, rfl, hc, fun _ => ⟨g, 0, rfl, fun i hi => ?_⟩⟩
  have := bvs_get xs i hi
  simp only [World.cell?, hg, Nat.zero_add]
  simpa using this

theorem count_any {w : World} {v : Value} {xs : List UInt8} {aU aE : Addr} (hb : Bs w v xs) (hg : Glob w aU aE) :
    Calls Tryd.prog 25 #[v] w fun e w' => Counted xs aU aE w e w' := callsIn_wide.1 (count_in v xs w aU aE hb hg hb.1)
def Validated (xs : List UInt8) (aU aE : Addr) (w : World) (e : Ending) (w' : World) : Prop :=
  Below w.heap.size w w' ∧ ((xs.length ≤ posAfter (each xs) ∧ e = .returned .nilIface) ∨
    (posAfter (each xs) < xs.length ∧ ∃ g : Nat, e = .returned (.iface 53 (.pointer (some ⟨g, 0, none⟩))) ∧
      w'.heap[g]? = some (.cells #[.int .i64 (posAfter (each xs)), errOf (errS aU) (errS aE) (dec (xs.drop (posAfter (each xs)).toNat)).2.2] 56 (0, 0)) ∧ w.heap.size ≤ g))
set_option maxHeartbeats 400000 in
theorem valid_any {w : World} {v : Value} {xs : List UInt8} {aU aE : Addr} (hb : Bs w v xs) (hg : Glob w aU aE) :
    Calls Tryd.prog 26 #[v] w fun e w' => Validated xs aU aE w e w' := by
  have H := Lib.hid (count_any hb hg)
  clear hb hg
  go_enter Tryd.func26, Tryd.ntmps26
  go_wp2_with fail
  refine H.out.mono ?_
  rintro e w' ⟨hb, ⟨h1, rfl⟩ | ⟨h1, g, rfl, hg, hl⟩⟩
  · have H1 := Lib.hid h1
    clear h1
    go_wp2
    go_ret
    exact ⟨hb, .inl ⟨H1.out, rfl⟩⟩
  · have H1 := Lib.hid h1
    have Hg := Lib.hid hg
    clear h1 hg
    go_wp2
    go_ret
    exact ⟨hb, .inr ⟨H1.out, g, rfl, Hg.out, hl⟩⟩

theorem alloc_below (w : World) (o : Obj) : Below w.heap.size w (w.alloc o) := (Below.refl _ _).alloc (Nat.le_refl _) _
theorem bthen {a b c : World} (h : Below a.heap.size a b) (k : Below b.heap.size b c) : Below a.heap.size a c := h.trans (k.mono h.size)
theorem drewN_below (w : World) (n : Nat) : Below w.heap.size w (w.drewN n) := blw_drewN (Below.refl _ _) n
theorem bs_new (w : World) (xs : List UInt8) (hm : xs.length ≤ 9223372036854775807) : Bs (w.alloc (.cells (bvs xs).toArray 5)) (.slice (some ⟨w.heap.size, 0, none⟩) xs.length xs.length) xs :=
  bs_lit xs hm (Nat.le_refl _) (heap_alloc_new _ _)

/-- A contract on a literal slice: Decode, Last. -/
theorem decode_lit (w : World) (aU aE : Addr) (xs : List UInt8) (r : Nat × Nat × Nat) (hr : dec xs = r) (hm : xs.length ≤ 9223372036854775807) (hg : Glob w aU aE) :
    Calls Tryd.prog 22 #[.slice (some ⟨w.heap.size, 0, none⟩) xs.length xs.length] (w.alloc (.cells (bvs xs).toArray 5)) fun e w' => e = .returned (decV (errS aU) (errS aE) r) ∧ Below w.heap.size w w' ∧ Glob w' aU aE := by
  refine (decode_any (bs_new w xs hm) (hg.below (alloc_below _ _))).mono ?_
  rintro e w' ⟨rfl, m, rfl⟩
  rw [hr]
  have hb := bthen (alloc_below w (.cells (bvs xs).toArray 5)) (drewN_below _ m)
  exact ⟨rfl, hb, hg.below hb⟩
theorem last_lit (w : World) (aU aE : Addr) (xs : List UInt8) (r : Nat × Nat × Nat) (hr : last xs = r) (hm : xs.length ≤ 9223372036854775807) (hg : Glob w aU aE) :
    Calls Tryd.prog 23 #[.slice (some ⟨w.heap.size, 0, none⟩) xs.length xs.length] (w.alloc (.cells (bvs xs).toArray 5)) fun e w' => e = .returned (decV (errS aU) (errS aE) r) ∧ Below w.heap.size w w' ∧ Glob w' aU aE := by
  refine (last_any (bs_new w xs hm) (hg.below (alloc_below _ _))).mono ?_
  rintro e w' ⟨rfl, m, rfl⟩
  rw [hr]
  have hb := bthen (alloc_below w (.cells (bvs xs).toArray 5)) (drewN_below _ m)
  exact ⟨rfl, hb, hg.below hb⟩
theorem append_lit (w : World) (aU aE : Addr) (xs : List UInt8) (c : Int) (hm : xs.length ≤ 140737488351232) (hf : frm c ≠ []) (hg : Glob w aU aE) :
    Calls Tryd.prog 16 #[.slice (some ⟨w.heap.size, 0, none⟩) xs.length xs.length, .int .i32 c] (w.alloc (.cells (bvs xs).toArray 5)) fun e w' => (∃ v, e = .returned (.tuple #[v, .nilIface]) ∧ Bs w' v (xs ++ frm c)) ∧ Below w.heap.size w w' ∧ Glob w' aU aE := by
  refine (append_any _ c xs _ aU aE (bs_new w xs (by omega)) (hg.below (alloc_below _ _)) hm).mono ?_
  rintro e w' ⟨hb, ⟨h, _⟩ | ⟨_, v, rfl, ho⟩⟩
  · exact absurd h hf
  · have hb := bthen (alloc_below w (.cells (bvs xs).toArray 5)) hb
    exact ⟨⟨v, rfl, ho.bs⟩, hb, hg.below hb⟩
theorem count_lit (w : World) (aU aE : Addr) (xs : List UInt8) (hm : xs.length ≤ 9223372036854775807) (h : (xs.length : Int) ≤ posAfter (each xs)) (hg : Glob w aU aE) :
    Calls Tryd.prog 25 #[.slice (some ⟨w.heap.size, 0, none⟩) xs.length xs.length] (w.alloc (.cells (bvs xs).toArray 5)) fun e w' => e = .returned (.tuple #[.int .i64 (each xs).length, .nilIface]) ∧ Below w.heap.size w w' ∧ Glob w' aU aE := by
  refine (count_any (bs_new w xs hm) (hg.below (alloc_below _ _))).mono ?_
  rintro e w' ⟨hb, ⟨_, rfl⟩ | ⟨h', _⟩⟩
  · have hb := bthen (alloc_below w (.cells (bvs xs).toArray 5)) hb
    exact ⟨rfl, hb, hg.below hb⟩
  · omega
theorem valid_lit (w : World) (aU aE : Addr) (xs : List UInt8) (p : Int) (c : Nat) (hm : xs.length ≤ 9223372036854775807) (hp : posAfter (each xs) = p) (hlt : p < xs.length) (hc : (dec (xs.drop p.toNat)).2.2 = c) (hg : Glob w aU aE) :
    Calls Tryd.prog 26 #[.slice (some ⟨w.heap.size, 0, none⟩) xs.length xs.length] (w.alloc (.cells (bvs xs).toArray 5)) fun e w' => (∃ g : Nat, e = .returned (.iface 53 (.pointer (some ⟨g, 0, none⟩))) ∧ w'.heap[g]? = some (.cells #[.int .i64 p, errOf (errS aU) (errS aE) c] 56 (0, 0))) ∧ Below w.heap.size w w' ∧ Glob w' aU aE := by
  refine (valid_any (bs_new w xs hm) (hg.below (alloc_below _ _))).mono ?_
  rintro e w' ⟨hb, ⟨h', _⟩ | ⟨_, g, rfl, hg', _⟩⟩
  · omega
  · have hb := bthen (alloc_below w (.cells (bvs xs).toArray 5)) hb
    rw [hp, hc] at hg'
    exact ⟨⟨g, rfl, hg'⟩, hb, hg.below hb⟩

theorem assert_at (a : Addr) (W : World) : (Instr.typeAssert (.iface 53 (.pointer (some a))) 39 53 true).run Tryd.prog W = .ok (.tuple #[.pointer (some a), .bool true]) W := by kernel_rfl
theorem assert_nil (W : World) : (Instr.typeAssert .nilIface 39 53 true).run Tryd.prog W = .ok (.tuple #[.pointer none, .bool false]) W := by kernel_rfl
set_option maxHeartbeats 1000000 in
theorem first_any {w : World} {aU aE : Addr} (hg : Glob w aU aE) :
    Calls Tryd.prog 9 #[] w fun e w' => e = .returned (.bool true) ∧ Below w.heap.size w w' := by
  have Hg := Lib.hid hg
  clear hg
  go_enter Tryd.func9, Tryd.ntmps9
  go_wp2_with fail
  refine (decode_lit w aU aE [226, 130, 172, 65] (8364, 3, 0) (by decide +kernel) (by decide) Hg.out).mono ?_
  rintro e w1 ⟨rfl, hb1, hg1⟩
  have Hg1 := Lib.hid hg1
  have Hb1 := Lib.hid hb1
  clear hg1 hb1 Hg
  rw [decV_0]
  go_wp2_with fail
  refine (last_lit w1 aU aE [65, 195, 169] (233, 2, 0) (by decide +kernel) (by decide) Hg1.out).mono ?_
  rintro e w2 ⟨rfl, hb2, hg2⟩
  have Hg2 := Lib.hid hg2
  have Hb2 := Lib.hid (bthen Hb1.out hb2)
  clear hg2 hb2 Hg1 Hb1
  rw [decV_0]
  go_wp2_with fail
  refine (append_lit w2 aU aE [65] 233 (by decide) (by decide +kernel) Hg2.out).mono ?_
  rintro e w3 ⟨⟨v3, rfl, hv3⟩, hb3, hg3⟩
  have Hg3 := Lib.hid hg3
  have Hv3 := Lib.hid hv3
  have Hb3 := Lib.hid (bthen Hb2.out hb3)
  clear hg3 hb3 hv3 Hg2 Hb2
  go_wp2_with fail
  refine (decode_lit w3 aU aE [195] (0, 0, 1) (by decide +kernel) (by decide) Hg3.out).mono ?_
  rintro e w4 ⟨rfl, hb4, hg4⟩
  have Hg4 := Lib.hid hg4
  have Hv4 := Lib.hid (Hv3.out.below hb4)
  have Hb4 := Lib.hid (bthen Hb3.out hb4)
  clear hg4 hb4 Hg3 Hv3 Hb3
  rw [decV_1]
  go_wp2_with fail
  refine (valid_lit w4 aU aE [65, 195, 169, 255, 65] 3 2 (by decide) (by decide +kernel) (by decide) (by decide +kernel) Hg4.out).mono ?_
  rintro e w5 ⟨⟨g, rfl, hh5⟩, hb5, hg5⟩
  have Hg5 := Lib.hid hg5
  have Hv5 := Lib.hid (Hv4.out.below hb5)
  have Hh5 := Lib.hid hh5
  have Hb5 := Lib.hid (bthen Hb4.out hb5)
  clear hg5 hb5 hh5 Hg4 Hv4 Hb4
  go_wp2_with fail
  refine (count_lit w5 aU aE [65, 226, 130, 172] (by decide) (by decide +kernel) Hg5.out).mono ?_
  rw [show each [65, 226, 130, 172] = [(0, 65), (1, 8364)] by decide +kernel]
  rintro e w6 ⟨rfl, hb6, hg6⟩
  have Hg6 := Lib.hid hg6
  have Hv6 := Lib.hid (Hv5.out.below hb6)
  have Hh6 := Lib.hid ((hb6.block _ (lt_of_heap Hh5.out)).trans Hh5.out)
  have Hb6 := Lib.hid (bthen Hb5.out hb6)
  clear hg6 hb6 Hg5 Hv5 Hh5 Hb5
  have ha := assert_at ⟨g, 0, none⟩ w6
  have c0 : w6.cell? ⟨g, 0, none⟩ = some (.int .i64 3) := by simp [World.cell?, Hh6.out]
  have c1 : w6.cell? ⟨g, 1, none⟩ = some (errS aU) := by simp [World.cell?, Hh6.out, errOf]
  have gE := Hg6.out.e
  have gU := Hg6.out.u
  have q1 := fun n => run_neq_err_same aE (w6.drewN n)
  have q2 := fun n => run_neq_err_same aU (w6.drewN n)
  have q3 : ∀ n, (convert 24 9 v3).run Tryd.prog (w6.drewN n) = .ok (.string ⟨#[65, 195, 169]⟩) (w6.drewN n) := fun n => by
    have h := string_of_bs (Hv6.out.drewN n)
    rwa [show ([65] ++ frm 233 : List UInt8) = [65, 195, 169] by decide +kernel] at h
  have k1 := fun n => class_any 244 (by omega) (w6.drewN n) (Hg6.out.drewN n).l
  have k2 := fun n => class_any 193 (by omega) (w6.drewN n) (Hg6.out.drewN n).l
  rw [show classI 244 = 4 by decide +kernel] at k1
  rw [show classI 193 = -1 by decide +kernel] at k2
  have K1 := Lib.hid k1
  have K2 := Lib.hid k2
  clear k1 k2
  go_wp2_with fail
  go_quiet (fail)
  go_wp2_with fail
  refine (K1.out _).mono ?_
  rintro e w' ⟨rfl, rfl⟩
  go_wp2_with fail
  refine (K2.out _).mono ?_
  rintro e w' ⟨rfl, rfl⟩
  go_wp2_with fail
  go_ret
  exact ⟨rfl, blw_drewN Hb6.out _⟩
end Go.Proofs.YtjnpfpaigedpbaaDoor
