import Derived.Test.YtjnpfpaigedpbaaDoorD2
import Derived.Test.YtjnpfpaigedpbaaDoorP4
import Derived.Laws.OwnMore
namespace Go.Proofs.YtjnpfpaigedpbaaDoor
open Go.RowKit

theorem bs_of4 {w : World} {g c : Nat} {z : Nat × Nat} {cur : Array Value} (xs : List UInt8) (hm : xs.length ≤ c) (h4 : xs.length ≤ 4) (hg : w.heap[g]? = some (.cells cur 5 z)) (he : cur = (bvs xs).toArray) : Bs w (.slice (some ⟨g, 0, none⟩) xs.length c) xs :=
  bs_lit xs (by omega) hm (by rw [hg, he])

theorem byteAt_take' (xs : List UInt8) (k i : Nat) (h : i < k) : byteAt (xs.take k) i = byteAt xs i := by simp [byteAt, List.getElem?_take, h]
theorem Bs.upto {w : World} {A : Option Addr} {c n : Nat} {xs : List UInt8} (h : Bs w (.slice A n c) xs) {k : Nat} (hk : k ≤ xs.length) : Bs w (.slice A k c) (xs.take k) := by
  obtain ⟨hm, A', c', e, hc, hcell⟩ := h
  injection e with e1 e2 e3
  subst e1 e3
  have hl : (xs.take k).length = k := by simp; omega
  refine ⟨by omega, A, c, by rw [hl], by omega, fun h0 => ?_⟩
  obtain ⟨b, o, e, hcl⟩ := hcell (by omega)
  refine ⟨b, o, e, fun i hi => ?_⟩
  rw [byteAt_take' xs k i (by omega)]
  exact hcl i (by omega)
/-- wicketref2.Is. -/
def IsP (c : Int) (w : World) (e : Ending) (w' : World) : Prop := e = .returned (.bool (isR c)) ∧ w = w'
set_option maxHeartbeats 1000000 in
theorem refis_any (c : Int) (w : World) : Calls Tryd.prog 18 #[.int .i32 c] w fun e w' => IsP c w e w' := by
  have hr : isR c = (decide (0 ≤ c) && decide (c ≤ 1114111) && (decide (c < 55296) || decide (57343 < c))) := by
    unfold isR; rw [Bool.eq_iff_iff]; simp <;> omega
  go_enter Tryd.func18, Tryd.ntmps18
  by_cases a1 : 0 ≤ c
  · by_cases a2 : c ≤ 1114111
    · by_cases a3 : c < 55296
      · have hr' := Lib.hid (show isR c = true by rw [hr]; simp [a1, a2, a3])
        clear hr
        go_wp2
        go_ret
        exact ⟨by rw [hr'.out]; rfl, rfl⟩
      · by_cases a4 : 57343 < c
        · have hr' := Lib.hid (show isR c = true by rw [hr]; simp [a1, a2, a3, a4])
          clear hr
          go_wp2
          go_ret
          exact ⟨by rw [hr'.out]; rfl, rfl⟩
        · have hr' := Lib.hid (show isR c = false by rw [hr]; simp [a1, a2, a3, a4])
          clear hr
          go_wp2
          go_ret
          exact ⟨by rw [hr'.out]; rfl, rfl⟩
    · have hr' := Lib.hid (show isR c = false by rw [hr]; simp [a1, a2])
      clear hr
      go_wp2
      go_ret
      exact ⟨by rw [hr'.out]; rfl, rfl⟩
  · have hr' := Lib.hid (show isR c = false by rw [hr]; simp [a1])
    clear hr
    go_wp2
    go_ret
    exact ⟨by rw [hr'.out]; rfl, rfl⟩

/-- wicketref.SameBytes of equal bytes. -/
def TrueP (w : World) (e : Ending) (w' : World) : Prop := e = .returned (.bool true) ∧ w = w'
theorem same_any {w : World} {v u : Value} {xs : List UInt8} (h : Bs w v xs) (k : Bs w u xs) : Calls Tryd.prog 20 #[v, u] w fun e w' => TrueP w e w' := by
  have q1 := string_of_bs h
  have q2 := string_of_bs k
  clear h k
  go_enter Tryd.func20, Tryd.ntmps20
  go_wp2
  go_ret
  exact ⟨by simp, rfl⟩
set_option maxHeartbeats 1000000 in
/-- wicketref2.Form. -/
theorem refform_any {w : World} (c : Int) (hc : isR c = true) : Calls Tryd.prog 19 #[.int .i32 c] w fun e w' => ∃ v, e = .returned v ∧ Below w.heap.size w w' ∧ Bs w' v (frm c) := by
  have hr' := hc
  simp only [isR, Bool.and_eq_true, decide_eq_true_eq, Bool.not_eq_true', Bool.and_eq_false_iff, decide_eq_false_iff_not] at hr'
  have hr0 := hr'.1.1
  have hr1 := hr'.1.2
  clear hr'
  by_cases h1 : c < 128
  · have e := Lib.hid (show frm c = [UInt8.ofNat c.toNat] by rw [frm, if_pos hc, if_pos h1])
    clear hc
    go_enter Tryd.func19, Tryd.ntmps19
    go_wp2
    go_ret
    refine ⟨_, rfl, alloc_below _ _, ?_⟩
    rw [e.out]
    exact bs_of4 [_] (by simp) (by simp) (heap_alloc_new _ _) (by simp only [bvs, bv, List.map]; rw [ofNat_toNat8 _ (by omega)])
  by_cases h2 : c < 2048
  · have e := Lib.hid (show frm c = [UInt8.ofNat (192 + c / 64).toNat, UInt8.ofNat (128 + c % 64).toNat] by rw [frm, if_pos hc, if_neg h1, if_pos h2])
    clear hc
    go_enter Tryd.func19, Tryd.ntmps19
    go_wp2
    go_ret
    refine ⟨_, rfl, alloc_below _ _, ?_⟩
    rw [e.out]
    exact bs_of4 [_, _] (by simp) (by simp) (heap_alloc_new _ _) (by simp only [bvs, bv, List.map]; rw [ofNat_toNat8 _ (by omega), ofNat_toNat8 _ (by omega)])
  by_cases h3 : c < 65536
  · have e := Lib.hid (show frm c = [UInt8.ofNat (224 + c / 4096).toNat, UInt8.ofNat (128 + c / 64 % 64).toNat, UInt8.ofNat (128 + c % 64).toNat] by rw [frm, if_pos hc, if_neg h1, if_neg h2, if_pos h3])
    clear hc
    go_enter Tryd.func19, Tryd.ntmps19
    go_wp2
    go_ret
    refine ⟨_, rfl, alloc_below _ _, ?_⟩
    rw [e.out]
    exact bs_of4 [_, _, _] (by simp) (by simp) (heap_alloc_new _ _) (by simp only [bvs, bv, List.map]; rw [ofNat_toNat8 _ (by omega), ofNat_toNat8 _ (by omega), ofNat_toNat8 _ (by omega)])
  · have e := Lib.hid (show frm c = [UInt8.ofNat (240 + c / 262144).toNat, UInt8.ofNat (128 + c / 4096 % 64).toNat, UInt8.ofNat (128 + c / 64 % 64).toNat, UInt8.ofNat (128 + c % 64).toNat] by rw [frm, if_pos hc, if_neg h1, if_neg h2, if_neg h3])
    clear hc
    go_enter Tryd.func19, Tryd.ntmps19
    go_wp2
    go_ret
    refine ⟨_, rfl, alloc_below _ _, ?_⟩
    rw [e.out]
    exact bs_of4 [_, _, _, _] (by simp) (by simp) (heap_alloc_new _ _) (by simp only [bvs, bv, List.map]; rw [ofNat_toNat8 _ (by omega), ofNat_toNat8 _ (by omega), ofNat_toNat8 _ (by omega), ofNat_toNat8 _ (by omega)])

theorem OwnB.blk' {w : World} {base : Nat} {v : Value} {ys : List UInt8} (h : OwnB w base v ys) {g : Nat} (e : v.ownBlock = some g) : base ≤ g := by
  obtain ⟨_, ⟨rfl, _⟩ | ⟨g', cap, cur, rfl, hb, _⟩⟩ := h
  · simp [Value.ownBlock] at e
  · simp [Value.ownBlock] at e; omega
theorem own_grown' {w0 w w' : World} {v : Value} {ys : List UInt8} (hb : Below w0.heap.size w0 w) (h : OwnB w w0.heap.size v ys) (hg : w.grownBy w' v.ownBlock) : Below w0.heap.size w0 w' :=
  hb.grown hg hb.size (fun _ e => h.blk' e)
def tri : List UInt8 := [201, 202, 203]
theorem bs_tri (w : World) : Bs (w.alloc (.cells #[.int .u8 201, .int .u8 202, .int .u8 203] 5)) (.slice (some ⟨w.heap.size, 0, none⟩) 3 3) tri := bs_lit tri (by decide) (by decide) (heap_alloc_new _ _)
theorem bs_ee (w : World) : Bs (w.alloc (.cells #[.int .u8 238, .int .u8 238, .int .u8 238] 5)) (.slice (some ⟨w.heap.size, 0, none⟩) 3 3) [238, 238, 238] := bs_lit [238, 238, 238] (by decide) (by decide) (heap_alloc_new _ _)
theorem bs_1 (w : World) : Bs (w.alloc (.cells #[.int .u8 1] 5)) (.slice (some ⟨w.heap.size, 0, none⟩) 1 1) [1] := bs_lit [1] (by decide) (by decide) (heap_alloc_new _ _)
/-- room: the bytes with three behind them, in memory of its own. -/
theorem room_any {w : World} {v : Value} {xs : List UInt8} (hb : Bs w v xs) (hlen : xs.length ≤ 140737488351232) :
    Calls Tryd.prog 13 #[v] w fun e w' => ∃ v', e = .returned v' ∧ Below w.heap.size w w' ∧ OwnB w' w.heap.size v' (xs ++ tri) := by
  have Hb := Lib.hid hb
  clear hb
  go_enter Tryd.func13, Tryd.ntmps13
  go_wp2_with fail
  refine (bytes_any Hb.out (by omega)).mono ?_
  rintro e w1 ⟨v1, rfl, hb1, ho1⟩
  have Hb1 := Lib.hid hb1
  have Ho1 := Lib.hid ho1
  clear hb1 ho1
  go_wp2_with (at_builtin; refine wpList_append_bs rfl (.tmp 6) (.tmp 7) rfl w.heap.size _ _ xs tri (by simp [Act.eval]) (Ho1.out.below (alloc_below _ _) (Nat.le_refl _)) (by simp [Act.eval]) (bs_tri _) (by simp [tri]; omega) (Nat.le_trans Hb1.out.size (by simp)) ?_; intro v2 w2 h1 h2 h3; have Ho2 := Lib.hid h1; have Hg2 := Lib.hid h2; clear h1 h2 h3)
  go_ret
  exact ⟨_, rfl, own_grown' (bthen Hb1.out (alloc_below _ _)) (Ho1.out.below (alloc_below _ _) (Nat.le_refl _)) Hg2.out, Ho2.out⟩
/-- still. -/
theorem still_any {w : World} {v u : Value} {xs : List UInt8} (h : Bs w v (xs ++ tri)) (k : Bs w u xs) : Calls Tryd.prog 15 #[v, u] w fun e w' => TrueP w e w' := by
  have Hk := Lib.hid k
  obtain ⟨-, A, c, rfl, hc, hcell⟩ := id h
  obtain ⟨-, B, d, rfl, hd, -⟩ := id k
  have hl : (xs ++ tri).length = xs.length + 3 := by simp [tri]
  have hmx : xs.length + 3 ≤ 9223372036854775807 := by rw [← hl]; exact h.1
  have hi1 : (xs.length : Int) + 1 ≤ 9223372036854775807 := by omega
  have hi2 : (xs.length : Int) + 2 ≤ 9223372036854775807 := by omega
  have e1 : ((xs.length : Int) + 1).toNat = xs.length + 1 := by omega
  have e2 : ((xs.length : Int) + 2).toNat = xs.length + 2 := by omega
  obtain ⟨b, o, rfl, hcl⟩ := hcell (by omega)
  have c0 := hcl xs.length (by omega)
  have c1 := hcl (xs.length + 1) (by omega)
  have c2 := hcl (xs.length + 2) (by omega)
  have Ht := Lib.hid (h.upto (k := xs.length) (by omega))
  rw [show byteAt (xs ++ tri) xs.length = 201 by simp [byteAt, tri]] at c0
  rw [show byteAt (xs ++ tri) (xs.length + 1) = 202 by simp [byteAt, tri]] at c1
  rw [show byteAt (xs ++ tri) (xs.length + 2) = 203 by simp [byteAt, tri]] at c2
  rw [hl] at hc ⊢
  have hc' : xs.length ≤ c := by omega
  clear h k hcl hcell
  go_enter Tryd.func15, Tryd.ntmps15
  go_wp2_with fail
  refine (same_any (xs := xs) (by have := Ht.out; rwa [List.take_left] at this) Hk.out).mono ?_
  rintro e w' ⟨rfl, rfl⟩
  go_wp2
  go_ret
  exact ⟨rfl, rfl⟩

/-- Append, in one arm. -/
def outA (xs : List UInt8) (c : Int) : List UInt8 := if isR c = true then xs ++ frm c else []
def AppP (aU : Addr) (xs : List UInt8) (c : Int) (w : World) (e : Ending) (w' : World) : Prop :=
  Below w.heap.size w w' ∧ ∃ v er, e = .returned (.tuple #[v, er]) ∧ OwnB w' w.heap.size v (outA xs c) ∧ er = if isR c = true then .nilIface else errS aU
theorem append_uni (v : Value) (c : Int) (xs : List UInt8) (w : World) (aU aE : Addr) (hb : Bs w v xs) (hg : Glob w aU aE) (hlen : xs.length ≤ 140737488351232) :
    Calls Tryd.prog 16 #[v, .int .i32 c] w fun e w' => AppP aU xs c w e w' := by
  refine (append_any v c xs w aU aE hb hg hlen).mono ?_
  rintro e w' ⟨hb', ⟨hf, rfl⟩ | ⟨hf, u, rfl, ho⟩⟩
  · have hr : ¬ isR c = true := fun h => frm_ne h hf
    exact ⟨hb', _, _, rfl, by rw [outA, if_neg hr]; exact OwnB.nil _ _, by rw [if_neg hr]⟩
  · have hr : isR c = true := by
      by_cases h : isR c = true
      · exact h
      · exact absurd (frm_nil (by simpa using h)) hf
    exact ⟨hb', _, _, rfl, by rw [outA, if_pos hr]; exact ho, by rw [if_pos hr]⟩
/-- A row that is not empty, with what is behind its last byte. -/
theorem OwnB.form {w : World} {base : Nat} {v : Value} {ys : List UInt8} (h : OwnB w base v ys) (h0 : 0 < ys.length) :
    ∃ g cap, v = .slice (some ⟨g, 0, none⟩) ys.length cap ∧ base ≤ g ∧ g < w.heap.size ∧ ys.length ≤ cap ∧ v.ownBlock = some g := by
  obtain ⟨_, ⟨rfl, h1⟩ | ⟨g, cap, cur, rfl, hb, hg, hn, _⟩⟩ := h
  · omega
  · exact ⟨g, cap, rfl, hb, lt_of_heap hg, hn, rfl⟩
theorem OwnB.cellAt {w : World} {base g n cap : Nat} {ys : List UInt8} (h : OwnB w base (.slice (some ⟨g, 0, none⟩) n cap) ys) (hn : ys.length = n) (k : Nat) (hk : k < n) :
    w.cell? ⟨g, k, none⟩ = some (.int .u8 (byteAt ys k)) ∧ w.frozen? ⟨g, k, none⟩ = false := by
  subst hn
  exact ⟨by rw [World.ownsRow.cellAt h k (by omega)]; exact bvs_get ys k hk, World.ownsRow.frozenAt h k⟩
theorem OwnB.stored {w : World} {base g n cap : Nat} {ys : List UInt8} (h : OwnB w base (.slice (some ⟨g, 0, none⟩) n cap) ys) (hn : ys.length = n) (k : Nat) (u : UInt8) :
    OwnB (w.setCell ⟨g, k, none⟩ (bv u)) base (.slice (some ⟨g, 0, none⟩) n cap) (ys.set k u) ∧ w.grownBy (w.setCell ⟨g, k, none⟩ (bv u)) (some g) := by
  subst hn
  have := World.ownsRow.stored h k (bv u)
  exact ⟨by unfold OwnB; rw [List.length_set, show bvs (ys.set k u) = (bvs ys).set k (bv u) by simp [bvs, List.map_set]]; exact this.1, this.2⟩
end Go.Proofs.YtjnpfpaigedpbaaDoor
