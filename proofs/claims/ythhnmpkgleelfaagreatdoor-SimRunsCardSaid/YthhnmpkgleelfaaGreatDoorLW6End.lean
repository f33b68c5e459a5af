/- The tied card of wicketlaw12.SimRuns is proved: whatever the string, the list of characters and the character, the call returns true, and they read afterwards as before. Condition: the listed package-level variables read as their text lays them (the card ties them). -/
import Derived.Test.YthhnmpkgleelfaaGreatDoorL36
import Derived.Test.YthhnmpkgleelfaaGreatDoorL35
import Derived.Test.YthhnmpkgleelfaaGreatDoorL34
import Derived.Test.YthhnmpkgleelfaaGreatDoorL33
import Derived.Test.YthhnmpkgleelfaaGreatDoorL32
import Derived.Test.YthhnmpkgleelfaaGreatDoorL31
import Derived.Test.YthhnmpkgleelfaaGreatDoorL29
import Derived.Test.YthhnmpkgleelfaaGreatDoorL28
import Derived.Test.YthhnmpkgleelfaaGreatDoorL27
import Derived.Test.YthhnmpkgleelfaaGreatDoorL26
import Derived.Test.YthhnmpkgleelfaaGreatDoorL25
import Derived.Test.YthhnmpkgleelfaaGreatDoorL24
import Derived.Test.YthhnmpkgleelfaaGreatDoorL23
import Derived.Test.YthhnmpkgleelfaaGreatDoorL22
import Derived.Test.YthhnmpkgleelfaaGreatDoorL21
import Derived.Test.YthhnmpkgleelfaaGreatDoorL20
import Derived.Test.YthhnmpkgleelfaaGreatDoorL19
import Derived.Test.YthhnmpkgleelfaaGreatDoorL18
import Derived.Test.YthhnmpkgleelfaaGreatDoorL17
import Derived.Test.YthhnmpkgleelfaaGreatDoorL16
import Derived.Test.YthhnmpkgleelfaaGreatDoorL12
import Derived.Test.YthhnmpkgleelfaaGreatDoorL11
import Derived.Test.YthhnmpkgleelfaaGreatDoorL10
import Derived.Test.YthhnmpkgleelfaaGreatDoorL9
import Derived.Test.YthhnmpkgleelfaaGreatDoorL8
import Derived.Test.YthhnmpkgleelfaaGreatDoorL1
import Derived.Test.YthhnmpkgleelfaaGreatDoorL3
import Derived.Test.YthhnmpkgleelfaaGreatDoorL2
import Derived.Test.YthhnmpkgleelfaaGreatDoorL4
import Derived.Test.YthhnmpkgleelfaaGreatDoorL15
import Derived.Test.YthhnmpkgleelfaaGreatDoorL13
import Derived.Test.YthhnmpkgleelfaaGreatDoorL14
import Derived.Test.YthhnmpkgleelfaaGreatDoorL6
import Derived.Test.YthhnmpkgleelfaaGreatDoorL5
import Derived.Test.YthhnmpkgleelfaaGreatDoorL30
import Derived.Test.YthhnmpkgleelfaaGreatDoorL7
import Derived.Test.YthhnmpkgleelfaaGreatDoorL37
import Derived.Test.YthhnmpkgleelfaaGreatDoorL38
import Derived.Test.YthhnmpkgleelfaaGreatDoorL44
import Derived.Test.YthhnmpkgleelfaaGreatDoorL43
import Derived.Test.YthhnmpkgleelfaaGreatDoorL42
import Derived.Test.YthhnmpkgleelfaaGreatDoorL41
import Derived.Test.YthhnmpkgleelfaaGreatDoorL40
import Derived.Test.YthhnmpkgleelfaaGreatDoorL39
import Derived.Test.YthhnmpkgleelfaaGreatDoorL45
set_option linter.unusedVariables false
set_option linter.unusedSimpArgs false
namespace Go.Proofs.YthhnmpkgleelfaaGreatDoor
open Go.RowKit Go.Shelf
set_option maxHeartbeats 4000000 in
theorem feed_ended {M : List St} {st mg B g pg : Nat} {s : List Int} {vs ve : Value} {w : World} (h : RunR M st mg B g pg s true vs ve w) (c : Int) : Calls Tryz.prog 24 #[.pointer (some ⟨g, 0, none⟩), .int .i32 c] w fun e w' => e = .returned (.tuple #[]) ∧ w' = w := by
 have d4 : w.cell? ⟨g, 4, none⟩ = some (.bool true) := row_cell h.row (j := 4) rfl
 clear h
 go_enter Tryz.func24, Tryz.ntmps24
 go_wp2_with fail
 refine bodyPost_ret (results_none rfl _ _ _) rfl ?_
 exact ⟨rfl, rfl⟩
set_option maxHeartbeats 4000000 in
theorem end_ended {M : List St} {st mg B g pg : Nat} {s : List Int} {vs ve : Value} {w : World} (h : RunR M st mg B g pg s true vs ve w) : Calls Tryz.prog 26 #[.pointer (some ⟨g, 0, none⟩)] w fun e w' => e = .returned (.tuple #[]) ∧ w' = w := by
 have d4 : w.cell? ⟨g, 4, none⟩ = some (.bool true) := row_cell h.row (j := 4) rfl
 clear h
 go_enter Tryz.func26, Tryz.ntmps26
 go_wp2_with fail
 refine bodyPost_ret (results_none rfl _ _ _) rfl ?_
 exact ⟨rfl, rfl⟩
end Go.Proofs.YthhnmpkgleelfaaGreatDoor
namespace Go.Proofs.YthhnmpkgleelfaaGreatDoor
theorem open_iff {s : List Int} {r : Rx} (hok : r.ok) {j : Nat} (hj : j ≤ s.length) : Rch (mcS r) (mcT r) s false 0 j ↔ ∃ i, i ≤ s.length ∧ Mt (s ++ [-1]) r i j := by
 constructor
 ·intro h
  obtain ⟨i, -, hm⟩ := (rch_mt hok j).1 (h.more [-1]).sure
  exact ⟨i, Nat.le_trans (Mt.le r i j hm) hj, hm⟩
 ·rintro ⟨i, hi, hm⟩
  have h1 : Rch (mcS r) (mcT r) (s ++ [-1]) true 0 j := (rch_mt hok j).2 ⟨i, by rw [List.length_append]; omega, hm⟩
  exact (h1.early (by rw [List.length_append]; simp; omega)).less hj
theorem open_flags {s : List Int} {r : Rx} {x y z : List Bool} (hok : r.ok) (hx : x = List.replicate (s.length + 1) true ++ [false]) (h : Img (Mt (s ++ [-1]) r) x y) (hz : EndsAt (mcS r) (mcT r) s false z) : z = y.take (s.length + 1) := by
 have hyl : y.length = s.length + 2 := by rw [h.1, hx]; simp
 refine bools_ext (by rw [hz.1, List.length_take]; omega) (fun j => ?_)
 rw [hz.2 j, List.getElem?_take]
 by_cases hj : j ≤ s.length
 ·rw [if_pos (by omega), open_iff hok hj, h.2]
  constructor
  ·rintro ⟨i, hi, hm⟩
   refine ⟨i, ?_, hm⟩
   rw [hx, List.getElem?_append_left (by simp; omega), List.getElem?_replicate, if_pos (by omega)]
  ·rintro ⟨i, hi, hm⟩
   refine ⟨i, ?_, hm⟩
   have := Mt.le r i j hm
   omega
 ·rw [if_neg (by omega)]
  constructor
  ·intro hr; have := hr.len; omega
  ·intro e; cases e
end Go.Proofs.YthhnmpkgleelfaaGreatDoor
namespace Go.Proofs.YthhnmpkgleelfaaGreatDoor
open Go.RowKit
theorem rns_cell {w : World} {base g n q k : Nat} {l : List Int} {c : Int} (h : Rns w base (.slice (some ⟨g, 0, none⟩) n q) l) (hc : l[k]? = some c) : w.cell? ⟨g, k, none⟩ = some (.int .i32 c) := by
 obtain ⟨_, _, e, _⟩ := ownsRow_slice h
 obtain ⟨_, rfl, _⟩ := Value.slice.inj e
 have := ownsRow_cell h rfl k (by have := (List.getElem?_eq_some_iff.1 hc).1; omega)
 rw [this, List.getElem?_map, hc]
 rfl
def RcRel (w : World) (x : List Int) (s3 s4 : Value) (wr : World) : Prop := ∃ (k : Nat) (A : Option Addr) (q : Nat), k ≤ x.length ∧ s3 = .slice A k q ∧ s4 = .int .i64 k ∧ Below w.heap.size w wr ∧ wr.ownsRow w.heap.size 21 1 (.slice A k q) k ((x.take k).map runeV)
set_option maxHeartbeats 4000000 in
theorem law_runes_any {w : World} {v : Value} {x : List Int} (hx : Rns w 0 v x) (hl : x.length ≤ 1000000) : Calls Tryz.prog 47 #[v] w fun e w' => RnsP w x e w' := by
 obtain ⟨A, q, rfl, -, -, hA⟩ := ownsRow_slice hx
 obtain ⟨cur, hcur, hmk⟩ := run_make_k elRune x.length (by unfold maxLen; omega) (by omega)
 have H := Lib.hid hx
 have HA := Lib.hid hA
 have Hcur := Lib.hid hcur
 clear hx hA hcur
 go_enter Tryz.func47, Tryz.ntmps47
 go_wp2_with fail
 go_loopw [3, 4] (fun s3 s4 wr => RcRel w x s3 s4 wr) (fun _ v _ => x.length - (intOf v).toNat)
 case atStart => exact ⟨0, _, _, Nat.zero_le _, rfl, rfl, alloc_below _ _, ownsRow_made (heap_alloc_new _ _) (Nat.le_refl _) (by unfold maxLen; omega) Hcur.out⟩
 case round =>
  obtain ⟨k, A3, q3, hk, rfl, rfl, hb, ho⟩ := hrel
  have Hb := Lib.hid hb
  have Ho := Lib.hid ho
  have hbs := hb.size
  by_cases hlt : k < x.length
  ·obtain ⟨g, rfl⟩ := HA.out (by omega)
   obtain ⟨a, ha⟩ : ∃ a, x[k]? = some a := ⟨_, List.getElem?_eq_getElem hlt⟩
   have c1 := rns_cell (H.out.below hb) ha
   have Hs := Lib.hid (show x.take (k + 1) = x.take k ++ [a] from take_next ha)
   have hki : (k : Int) < x.length := by omega
   have Hoa := Lib.hid (ownsRow_below ho (alloc_below wr (.cells #[.int .i32 a] 21)) (Nat.le_refl _))
   have Hcn := Lib.hid (cells_new wr [runeV a] 21)
   clear hb ho ha
   go_wp2_with (at_builtin; refine wpList_append_k elRune rfl (.tmp 14) (.tmp 19) rfl w.heap.size (.slice A3 k q3) k wr.heap.size 1 1 ((x.take k).map runeV) [runeV a] (by simp [Act.eval]) Hoa.out (by simp [Act.eval]) rfl Hcn.out (by simp [runeV, Value.oneCell']) (by unfold maxLen; omega) (by omega) (by simp; omega) ?_; intro v' w5 h1 h2 h3; have Hp := Lib.hid h1; have Hg := Lib.hid h2; clear h1 h2 h3)
   obtain ⟨A5, q5, rfl, -, -, -⟩ := ownsRow_slice Hp.out
   have hb2 : Below w.heap.size w (wr.alloc (.cells #[.int .i32 a] 21)) := Hb.out.alloc hbs _
   refine ⟨⟨k + 1, A5, q5, by omega, rfl, by go_num, own_below hb2 Hoa.out hb2.size Hg.out, ?_⟩, by simp [intOf]; omega⟩
   rw [Hs.out, List.map_append]
   exact Hp.out
  ·obtain rfl : k = x.length := by omega
   rw [List.take_length] at Ho
   clear hb ho
   go_wp2_with fail
   go_ret
   exact ⟨A3, q3, rfl, Hb.out, Ho.out⟩
def OpenP (s : List Int) (r : Rx) (w : World) (e : Ending) (w' : World) : Prop := ∃ (x y : List Bool), x = List.replicate (s.length + 1) true ++ [false] ∧ Img (Mt (s ++ [-1]) r) x y ∧ IntsP w (idx 0 (y.take (s.length + 1))) e w'
set_option maxHeartbeats 8000000 in
set_option maxRecDepth 100000 in
theorem open_any {s : List Int} {r : Rx} {w : World} {v vs : Value} (hr : r.ok) (h1 : XRow w 0 v (r.flat 0)) (h3 : r.size ≤ 100000) (h4 : Rns w 0 vs s) (h5 : s.length ≤ 90000) : Calls Tryz.prog 20 #[v, vs] w fun e w' => OpenP s r w e w' := by
 obtain ⟨As, qs, rfl, -, -, -⟩ := ownsRow_slice h4
 have hmk := run_make_flags (s.length + 2) (by omega)
 rw [show ((s.length + 2 : Nat) : Int) = (s.length : Int) + 2 by omega] at hmk
 have H1 := Lib.hid h1
 have H4 := Lib.hid h4
 have Hfr := Lib.hid (fr_all (s := s ++ [-1]) r hr)
 have Hal := Lib.hid (alloc_below w (.cells (Array.replicate (s.length + 2) (.bool false)) 4))
 have Hfl := Lib.hid (fls_made w (s.length + 2) (by omega) (Nat.zero_le w.heap.size))
 clear h1 h4 hr
 obtain ⟨l, hl⟩ : ∃ l, List.replicate (s.length + 1) true ++ [false] = l := ⟨_, rfl⟩
 have Hl := Lib.hid hl
 have hll : l.length = s.length + 2 := by rw [← hl]; simp
 have Hll := Lib.hid hll
 clear hl hll
 go_enter Tryz.func20, Tryz.ntmps20
 go_wp2_with fail
 go_loopw [6] (fun s6 wr => FgRel w l (s.length + 2) s6 wr) (fun v _ => s.length + 2 - (intOf v).toNat)
 case atStart =>
  refine ⟨0, Nat.zero_le _, rfl, Hal.out, ?_⟩
  rw [List.take_zero, List.nil_append, Nat.sub_zero, Hll.out]
  exact Hfl.out
 case round =>
  obtain ⟨k, hk, rfl, hb, ho⟩ := hrel
  have hk2 : k ≤ s.length + 2 := by have := Hll.out; omega
  have Hb := Lib.hid hb
  have Ho := Lib.hid ho
  have hbs := hb.size
  by_cases hlt : k ≤ s.length
  ·have hkl : k < l.length := by have := Hll.out; omega
   have hlk : l[k]? = some true := by rw [← Hl.out, List.getElem?_append_left (by simp; omega), List.getElem?_replicate, if_pos (by omega)]
   have hfz := ho.frozen k
   have hoc := ho.cell (fill_at false hkl)
   have hst := (ho.set k true).1
   rw [set_fill hlk] at hst
   have Hst := Lib.hid hst
   have hki : (k : Int) < (s.length : Int) + 2 := by omega
   clear hb ho hlk hst
   go_wp2_with fail
   exact ⟨⟨k + 1, by omega, by go_num, below_set Hb.out (Nat.le_refl _) hbs, Hst.out⟩, by simp [intOf]; omega⟩
  ·have hfin : Fls wr 0 (.slice (some ⟨w.heap.size, 0, none⟩) (s.length + 2) (s.length + 2)) l := by
    have h9 := ho
    rw [show l.take k ++ List.replicate (l.length - k) false = l by
     have hl1 := Hll.out
     by_cases he : k = l.length
     ·rw [he, List.take_length, Nat.sub_self, List.replicate_zero, List.append_nil]
     ·have hk1 : k = s.length + 1 := by omega
      rw [hk1, hl1, show s.length + 2 - (s.length + 1) = 1 by omega, ← Hl.out, List.take_left' (by simp)]
      rfl] at h9
    exact h9
   have Hfin := Lib.hid hfin
   clear hb ho hfin
   go_wp2_with fail
   (with_reducible refine (law_runes_any (H4.out.below Hb.out) (by omega)).mono ?_)
   rintro e w2 ⟨A2, q2, rfl, hb2, ho2⟩
   have hs2 := hb2.size
   have Hoa := Lib.hid (ownsRow_below ho2 (alloc_below w2 (.cells #[.int .i32 (-1)] 21)) (Nat.le_refl _))
   have Hcn := Lib.hid (cells_new w2 [runeV (-1)] 21)
   have Hba := Lib.hid (hb2.alloc hs2 (.cells #[.int .i32 (-1)] 21))
   clear hb2 ho2
   go_wp2_with (at_builtin; refine wpList_append_k elRune rfl (.tmp 23) (.tmp 24) rfl wr.heap.size (.slice A2 s.length q2) s.length w2.heap.size 1 1 (s.map runeV) [runeV (-1)] (by simp [Act.eval]) Hoa.out (by simp [Act.eval]) rfl Hcn.out (by simp [runeV, Value.oneCell']) (by unfold maxLen; omega) (by omega) (by simp; omega) ?_; intro v' w5 h1 h2 h3; have Hp := Lib.hid h1; have Hg := Lib.hid h2; clear h1 h2 h3)
   obtain ⟨A5, q5, rfl, -, -, -⟩ := ownsRow_slice Hp.out
   have hb5 := own_below Hba.out Hoa.out Hba.out.size Hg.out
   have Hb5 := Lib.hid (Hb.out.trans (hb5.mono hbs))
   have Hfi5 := Lib.hid (Hfin.out.below hb5)
   have Hlo5 := Lib.hid (show Rns w5 0 (.slice A5 (s.length + 1) q5) (s ++ [-1]) from (Rns.app (m := [-1]) Hp.out rfl rfl).low (Nat.zero_le _))
   clear hb5
   go_wp2_with fail
   (with_reducible refine (Hfr.out.go (z := 0) 0 rfl (H1.out.below Hb5.out) (SubAt.whole r) (by rw [r.flat_len]; exact h3) Hlo5.out (by simp; omega) Hfi5.out (by rw [Hll.out]; simp)).mono ?_)
   rintro e w6 ⟨y, A3, q3, rfl, hb6, hy, himg⟩
   have Hb6 := Lib.hid (Hb5.out.trans (hb6.mono Hb5.out.size))
   have hyl : y.length = s.length + 2 := himg.1.trans Hll.out
   have hcut : Fls w6 0 (.slice A3 (s.length + 1) q3) (y.take (s.length + 1)) := by
    have h9 := own_cut (m := s.length + 1) hy (by omega)
    unfold Fls
    rw [List.length_take, Nat.min_eq_left (by omega), List.map_take]
    exact h9
   obtain ⟨g3, rfl⟩ : ∃ g, A3 = some ⟨g, 0, none⟩ := by
    obtain ⟨_, _, e, _, _, hA⟩ := ownsRow_slice hy
    obtain ⟨g, e'⟩ := hA (by omega)
    exact ⟨g, (Value.slice.inj e).1.trans e'⟩
   have hyq : s.length + 1 ≤ q3 := by obtain ⟨_, _, e, h9, _⟩ := ownsRow_slice hy; obtain ⟨_, _, rfl⟩ := Value.slice.inj e; omega
   have Himg := Lib.hid himg
   have Hcut := Lib.hid hcut
   have Hyl := Lib.hid hyl
   have hsi : (s.length : Int) + 1 ≤ q3 := by omega
   have hst : ((s.length : Int) + 1).toNat = s.length + 1 := by omega
   clear hb6 hy himg hcut hyl
   go_wp2_with fail
   (with_reducible refine (lawlist_any Hcut.out (by rw [List.length_take]; omega)).mono ?_)
   rintro e w7 ⟨A7, q7, rfl, hb7, ho7⟩
   have Hb7 := Lib.hid (Hb6.out.trans (hb7.mono Hb6.out.size))
   have Ho7 := Lib.hid (show Ints w7 w.heap.size (.slice A7 (idx 0 (y.take (s.length + 1))).length q7) (idx 0 (y.take (s.length + 1))) from ownsRow_low ho7 Hb6.out.size)
   clear hb7 ho7
   go_wp2_with fail
   go_ret
   exact ⟨l, y, Hl.out.symm, Himg.out, A7, q7, rfl, Hb7.out, Ho7.out⟩
end Go.Proofs.YthhnmpkgleelfaaGreatDoor
namespace Go.Proofs.YthhnmpkgleelfaaGreatDoor
open Go.RowKit Go.Shelf
def SimRunsRel (w : World) (M : List St) (st mg g pg : Nat) (l : List Int) (s12 s13 : Value) (wr : World) : Prop := ∃ (k : Nat) (S : List Int) (A : Option Addr) (q : Nat) (vs ve : Value), k ≤ l.length + 1 ∧ S = (l.take k).map kn ∧ s13 = .int .i64 k ∧ s12 = .slice A S.length q ∧ Rns wr w.heap.size (.slice A S.length q) S ∧ RunR M st mg w.heap.size g pg S false vs ve wr ∧ Below w.heap.size w wr ∧ ∀ b, Foot g pg vs ve b → (Value.slice A S.length q).ownBlock ≠ some b
set_option maxHeartbeats 16000000 in
set_option maxRecDepth 100000 in
theorem simruns_any {w : World} (hT : Tabs w) (p : ByteArray) {v : Value} {l : List Int} (hv : Sl w v (l.map runeV)) (more : Int) : Calls Tryz.prog 4 #[.string p, v, .int .i32 more] w fun e w' => TrP w e w' := by
 have Hf := Lib.hid (first_any hT)
 have Hg := Lib.hid (fun w0 : World => good2_any (w := w0) p)
 have HT := Lib.hid hT
 obtain ⟨-, A, cap, rfl, hc, hA⟩ := hv
 rw [List.length_map] at hc hA ⊢
 have HA := Lib.hid hA
 clear hT hA
 go_enter Tryz.func4, Tryz.ntmps4
 go_wp2_with fail
 (with_reducible refine Hf.out.mono ?_)
 rintro e w1 ⟨rfl, hb1⟩
 have Hb1 := Lib.hid hb1
 clear hb1
 go_wp2_with fail
 (with_reducible refine (Hg.out w1).mono ?_)
 rintro e w2 ⟨b, rfl, hb2, ht, -⟩
 have Hb2 := Lib.hid (Hb1.out.trans (hb2.mono Hb1.out.size))
 clear hb2
 cases b with
 | false =>
  clear ht
  go_wp2_with fail
  go_ret
  exact ⟨rfl, Hb2.out⟩
 | true =>
  obtain ⟨r, hr⟩ := ht rfl
  by_cases hl : 300 < l.length
  ·have hl2 : 300 < (l.length : Int) := by omega
   clear ht
   go_wp2_with fail
   go_ret
   exact ⟨rfl, Hb2.out⟩
  ·have hl2 : ¬ 300 < (l.length : Int) := by omega
   have hl3 : l.length ≤ 300 := by omega
   obtain ⟨ho, hx, hz, hw⟩ := hr.facts
   have hst := hr.2.2
   have Hmo := Lib.hid (mc_ok ho hst)
   have Hlen := Lib.hid (mc_len ho hst)
   have Ho := Lib.hid ho
   have Hof := Lib.hid (of_any hr (HT.out.below Hb2.out))
   clear ht hr ho hx hw
   go_wp2_with fail
   (with_reducible refine Hof.out.mono ?_)
   rintro e w3 ⟨mg, Ax, nx, qx, rfl, hm3, hx3, hmg, hb3⟩
   have Hb3 := Lib.hid (Hb2.out.trans (hb3.mono Hb2.out.size))
   have Hm3 := Lib.hid hm3
   have Hx3 := Lib.hid hx3
   clear hm3 hx3 hmg hb3 Hof
   go_wp2_with fail
   (with_reducible refine (new_any Hmo.out Hm3.out).mono ?_)
   rintro e w4 ⟨g, pg, vs, ve, rfl, hr4, hb4⟩
   have Hr4 := Lib.hid hr4
   have Hb4 := Lib.hid hb4
   have Hst4 := Lib.hid (rstates_any (Hx3.out.below hb4) Ho.out (by omega))
   clear hr4 hb4
   go_wp2_with fail
   (with_reducible refine Hst4.out.mono ?_)
   rintro e w5 ⟨rfl, hb5⟩
   have Hr5 := Lib.hid (Hr4.out.stay (Chg.of_below (F := fun _ => False) hb5) (fun _ h => h.elim) (fun _ _ h => h))
   have Hb5 := Lib.hid (Hb4.out.trans (hb5.mono Hb4.out.size))
   rw [← Hlen.out]
   obtain ⟨K, hK⟩ : ∃ K : Nat, (mcS r).length = K := ⟨_, rfl⟩
   have HK := Lib.hid hK
   rw [hK]
   clear hb5 Hst4 Hr4 Hb4 hK
   go_wp2_with fail
   go_loopw [12, 13, 14, 15] (fun s12 s13 _ _ wr => SimRunsRel w3 (mcS r) (mcT r) mg g pg l s12 s13 wr) (fun _ v _ _ _ => l.length + 2 - (intOf v).toNat)
   case atStart => exact ⟨0, [], none, 0, vs, ve, Nat.zero_le _, by simp, rfl, rfl, ⟨rfl, .inl ⟨rfl, rfl⟩⟩, Hr5.out, Hb5.out, fun b _ h => by cases h⟩
   case round =>
    clear Hr5 Hb5 vs ve
    obtain ⟨k, S, A12, q12, vs, ve, hk, hS, rfl, rfl, hs, hr, hb, hd⟩ := hrel
    have Hs := Lib.hid hs
    have Hr := Lib.hid hr
    have Hb := Lib.hid hb
    have Hd := Lib.hid hd
    have HS := Lib.hid hS
    have hSl : S.length ≤ 300 := by rw [hS, List.length_map, List.length_take]; omega
    have hbs := hb.size
    have HMl := Lib.hid Hmo.out.len
    clear hs hr hb hd hS
    by_cases hle : k ≤ l.length
    ·have hSk : S.length = k := by rw [HS.out, List.length_map, List.length_take]; omega
     have HSk := Lib.hid hSk
     have hle2 : (k : Int) ≤ (l.length : Int) := by omega
     clear hSk
     go_wp2_with fail
     (with_reducible refine (open_any Ho.out (Hx3.out.below Hb.out) (by omega) (Hs.out.low (Nat.zero_le _)) (by omega)).mono ?_)
     rintro e w7 ⟨x, y, hx, himg, A7, q7, rfl, hb7, ho7⟩
     obtain ⟨z, -, hez⟩ := Hr.out.ends
     have hzy := open_flags Ho.out hx himg hez
     rw [← hzy] at ho7 ⊢
     have Hez := Lib.hid hez
     have Hb7 := Lib.hid (Hb.out.trans (hb7.mono hbs))
     have Hr7 := Lib.hid (Hr.out.stay (Chg.of_below (F := fun _ => False) hb7) (fun _ h => h.elim) (fun _ _ h => h))
     have Hs7 := Lib.hid (Hs.out.below hb7)
     have Ho7 := Lib.hid ho7
     have hil := idx_len z 0
     have hzl := hez.1
     clear hx himg hez hzy hb7 ho7
     go_wp2_with fail
     (with_reducible refine (rends_any Hr7.out Hez.out (by omega)).mono ?_)
     rintro e w8 ⟨A8, rfl, hb8, q8, ho8⟩
     have Hb8 := Lib.hid (Hb7.out.trans (hb8.mono Hb7.out.size))
     have Hr8 := Lib.hid (Hr7.out.stay (Chg.of_below (F := fun _ => False) hb8) (fun _ h => h.elim) (fun _ _ h => h))
     have Hs8 := Lib.hid (Hs7.out.below hb8)
     have Hsi := Lib.hid (sameints_any (x := idx 0 z) (y := idx 0 z) (Sl.clip (Ints.sl ho8)) (Ints.sl (Ints.below Ho7.out hb8)) (by omega) (by omega))
     clear hb8 ho8
     go_wp2_with fail
     (with_reducible refine Hsi.out.mono ?_)
     rintro e w9 ⟨rfl, hb9⟩
     rw [show decide (idx 0 z = idx 0 z) = true by simp]
     have Hb9 := Lib.hid (Hb8.out.trans (hb9.mono Hb8.out.size))
     have Hr9 := Lib.hid (Hr8.out.stay (Chg.of_below (F := fun _ => False) hb9) (fun _ h => h.elim) (fun _ _ h => h))
     have Hs9 := Lib.hid (Hs8.out.below hb9)
     have Hhit := Lib.hid (hit_any Hr9.out Hez.out)
     have Hstp := Lib.hid (steps_any Hr9.out HMl.out (by omega))
     rw [show ((mcS r).length * (S.length + if false = true then 1 else 0) : Nat) = K * k by rw [HK.out, HSk.out]; simp] at Hstp
     obtain ⟨bz, hbz⟩ : ∃ bz, decide (0 < (idx 0 z).length) = bz := ⟨_, rfl⟩
     rw [hbz] at Hhit
     obtain ⟨kk, hkk⟩ : ∃ n : Nat, K * k = n := ⟨_, rfl⟩
     have hkb : K * k ≤ 3000 * 300 := Nat.mul_le_mul (by rw [← HK.out]; exact HMl.out) (by omega)
     have hwr : IntKind.i64.wrap ((K : Int) * (k : Int)) = (kk : Int) := by
      rw [← hkk]
      push_cast
      exact IntWalk.i64_in _ (by rw [show (K : Int) * (k : Int) = ((K * k : Nat) : Int) by push_cast; rfl]; omega)
     rw [hkk] at Hstp
     clear hb9 Hsi hkb hkk
     go_wp2_with fail
     (with_reducible refine Hhit.out.mono ?_)
     rintro e wz ⟨rfl, rfl⟩
     go_wp2_with fail
     (with_reducible refine Hstp.out.mono ?_)
     rintro e wz ⟨rfl, rfl⟩
     clear Hhit Hstp
     by_cases hlt : k < l.length
     ·obtain ⟨g0, o0, rfl, hcl⟩ := HA.out (by omega)
      obtain ⟨c, hck⟩ : ∃ c, l[k]? = some c := ⟨_, List.getElem?_eq_getElem hlt⟩
      have hlt2 : (k : Int) < (l.length : Int) := by omega
      have h0 := hcl k (runeV c) (by rw [List.getElem?_map, hck]; rfl)
      have c1 := cell_later (Hb3.out.trans (Hb9.out.mono Hb3.out.size)) h0
      have Hc0 := Lib.hid h0
      have HSn := Lib.hid (show S ++ [kn c] = (l.take (k + 1)).map kn by rw [take_next hck, List.map_append, HS.out]; rfl)
      unfold runeV at c1
      clear hcl hck h0
      go_wp2_with fail
      (with_reducible refine (feed_any Hmo.out Hr9.out (by omega) c).mono ?_)
      rintro e w10 ⟨rfl, vs', ve', hr10, hc10, hft⟩
      have Hr10 := Lib.hid hr10
      have Hb10 := Lib.hid (Hb9.out.trans (hc10.below Hb9.out.size (fun i hi => (Hr9.out.foot hi).1)))
      have Hs10 := Lib.hid (Hs9.out.stay hc10 (fun b hb hF => Hd.out b hF hb))
      have c2 := cell_later (Hb3.out.trans (Hb10.out.mono Hb3.out.size)) Hc0.out
      unfold runeV at c2
      have Hd10 := Lib.hid (show ∀ b, Foot g pg vs' ve' b → (Value.slice A12 S.length q12).ownBlock ≠ some b from fun b hb he => by
       rcases hft b hb with h1 | h1
       ·exact Hd.out b h1 he
       ·obtain ⟨_, _, h2⟩ := ownsRow_block Hs9.out he
        have := lt_of_heap h2
        omega)
      clear hr10 hc10 hft c1
      go_wp2_with fail
      (with_reducible refine (known_any c).mono ?_)
      rintro e wz ⟨rfl, rfl⟩
      have hal := alloc_below wz (.cells #[.int .i32 (kn c)] 21)
      have Hoa := Lib.hid (Hs10.out.below hal)
      have Hra := Lib.hid (Hr10.out.stay (Chg.of_below (F := fun _ => False) hal) (fun _ h => h.elim) (fun _ _ h => h))
      have Hcn := Lib.hid (cells_new wz [runeV (kn c)] 21)
      have Hba := Lib.hid (Hb10.out.trans (hal.mono Hb10.out.size))
      have hs10 := Hb10.out.size
      clear hal
      go_wp2_with (at_builtin; refine wpList_append_k elRune rfl (.tmp 88) (.tmp 94) rfl w3.heap.size (.slice A12 S.length q12) S.length wz.heap.size 1 1 (S.map runeV) [runeV (kn c)] (by simp [Act.eval]) Hoa.out (by simp [Act.eval]) rfl Hcn.out (by simp [runeV, Value.oneCell']) (by unfold maxLen; omega) (by omega) (by simp; omega) ?_; intro v' w11 h1 h2 h3; have Hp := Lib.hid h1; have Hg11 := Lib.hid h2; have H3 := Lib.hid h3; clear h1 h2 h3)
      obtain ⟨A11, q11, rfl, -, -, -⟩ := ownsRow_slice Hp.out
      have hso : Rns w11 w3.heap.size (.slice A11 (S.length + 1) q11) (S ++ [kn c]) := Rns.app (m := [kn c]) Hp.out rfl rfl
      have hlen : (S ++ [kn c]).length = S.length + 1 := by simp
      refine ⟨⟨k + 1, S ++ [kn c], A11, q11, vs', ve', by omega, HSn.out, by go_num, by rw [hlen], by rw [hlen]; exact hso, Hra.out.stay (Chg.grown Hg11.out) (fun b hb => (ownsRow_block Hoa.out hb).1) (fun b hb he => Hd10.out b hb he), own_below Hba.out Hoa.out Hba.out.size Hg11.out, ?_⟩, by simp [intOf]; omega⟩
      intro b hb he
      rw [hlen] at he
      rcases H3.out with h1 | h1
      ·exact Hd10.out b hb (by rw [← h1]; exact he)
      ·rw [h1] at he
       have h2 := Option.some.inj he
       have h3 := (Hr10.out.foot hb).2
       simp at h2
       omega
     ·have hlt2 : ¬ (k : Int) < (l.length : Int) := by omega
      have HSn := Lib.hid (show S = (l.take (k + 1)).map kn by rw [HS.out, List.take_of_length_le (by omega), List.take_of_length_le (by omega)])
      go_wp2_with fail
      refine ⟨⟨k + 1, S, A12, q12, vs, ve, by omega, HSn.out, by go_num, rfl, Hs9.out, Hr9.out, Hb9.out, Hd.out⟩, by simp [intOf]; omega⟩
    ·have hSk : S.length = l.length := by rw [HS.out, List.length_map, List.length_take]; omega
     have HSk := Lib.hid hSk
     have hle2 : ¬ (k : Int) ≤ (l.length : Int) := by omega
     clear hSk
     go_wp2_with fail
     (with_reducible refine (end_any Hmo.out Hr.out (by omega)).mono ?_)
     rintro e w7 ⟨rfl, vs', ve', hr7, hc7, -⟩
     have Hr7 := Lib.hid hr7
     have Hb7 := Lib.hid (Hb.out.trans (hc7.below hbs (fun i hi => (Hr.out.foot hi).1)))
     have Hs7 := Lib.hid (Hs.out.stay hc7 (fun b hb hF => Hd.out b hF hb))
     clear hr7 hc7
     go_wp2_with fail
     (with_reducible refine (flags_any Ho.out (Hx3.out.below Hb7.out) (by omega) (Hs7.out.low (Nat.zero_le _)) (by omega)).mono ?_)
     rintro e w8 ⟨y, A8, q8, rfl, hb8, hy, hyl, hm⟩
     obtain ⟨z, -, hez⟩ := Hr7.out.ends
     obtain rfl := all_flags Ho.out hyl hm hez
     have Hez := Lib.hid hez
     have Hb8 := Lib.hid (Hb7.out.trans (hb8.mono Hb7.out.size))
     have Hr8 := Lib.hid (Hr7.out.stay (Chg.of_below (F := fun _ => False) hb8) (fun _ h => h.elim) (fun _ _ h => h))
     have Hy := Lib.hid hy
     have hil := idx_len z 0
     have hzl : z.length ≤ 301 := by omega
     clear hy hm hez hb8 hyl
     go_wp2_with fail
     (with_reducible refine (lawlist_any Hy.out (by omega)).mono ?_)
     rintro e w9 ⟨A9, q9, rfl, hb9, ho9⟩
     have Hb9 := Lib.hid (Hb8.out.trans (hb9.mono Hb8.out.size))
     have Hr9 := Lib.hid (Hr8.out.stay (Chg.of_below (F := fun _ => False) hb9) (fun _ h => h.elim) (fun _ _ h => h))
     have Ho9 := Lib.hid ho9
     clear hb9 ho9
     go_wp2_with fail
     (with_reducible refine (rends_any Hr9.out Hez.out (by omega)).mono ?_)
     rintro e w10 ⟨A10, rfl, hb10, q10, ho10⟩
     have Hb10 := Lib.hid (Hb9.out.trans (hb10.mono Hb9.out.size))
     have Hr10 := Lib.hid (Hr9.out.stay (Chg.of_below (F := fun _ => False) hb10) (fun _ h => h.elim) (fun _ _ h => h))
     have Ho10 := Lib.hid (Ints.below Ho9.out hb10)
     have Hsi := Lib.hid (sameints_any (x := idx 0 z) (y := idx 0 z) (Sl.clip (Ints.sl ho10)) (Ints.sl Ho10.out) (by omega) (by omega))
     clear hb10 ho10
     go_wp2_with fail
     (with_reducible refine Hsi.out.mono ?_)
     rintro e w11 ⟨rfl, hb11⟩
     rw [show decide (idx 0 z = idx 0 z) = true by simp]
     have Hb11 := Lib.hid (Hb10.out.trans (hb11.mono Hb10.out.size))
     have Hr11 := Lib.hid (Hr10.out.stay (Chg.of_below (F := fun _ => False) hb11) (fun _ h => h.elim) (fun _ _ h => h))
     have Ho11 := Lib.hid (Ints.below Ho10.out hb11)
     have Hstp := Lib.hid (steps_any Hr11.out HMl.out (by omega))
     obtain ⟨kk, hkk⟩ : ∃ n : Nat, K * (l.length + 1) = n := ⟨_, rfl⟩
     have Hkk := Lib.hid (show ((mcS r).length * (S.length + 1) : Nat) = kk by rw [HK.out, HSk.out, ← hkk])
     rw [if_pos rfl, Hkk.out] at Hstp
     have hkb : K * (l.length + 1) ≤ 3000 * 301 := Nat.mul_le_mul (by rw [← HK.out]; exact HMl.out) (by omega)
     have hwr : IntKind.i64.wrap ((K : Int) * ((l.length : Int) + 1)) = (kk : Int) := by
      rw [← hkk]
      push_cast
      exact IntWalk.i64_in _ (by rw [show (K : Int) * ((l.length : Int) + 1) = ((K * (l.length + 1) : Nat) : Int) by push_cast; rfl]; omega)
     clear hb11 Hsi hkb hkk
     go_wp2_with fail
     (with_reducible refine Hstp.out.mono ?_)
     rintro e wz ⟨rfl, rfl⟩
     go_wp2_with fail
     (with_reducible refine (feed_ended Hr11.out more).mono ?_)
     rintro e wz ⟨rfl, rfl⟩
     go_wp2_with fail
     (with_reducible refine (end_ended Hr11.out).mono ?_)
     rintro e wz ⟨rfl, rfl⟩
     go_wp2_with fail
     (with_reducible refine (rends_any Hr11.out Hez.out (by omega)).mono ?_)
     rintro e w12 ⟨A12, rfl, hb12, q12, ho12⟩
     have Hb12 := Lib.hid (Hb11.out.trans (hb12.mono Hb11.out.size))
     have Hr12 := Lib.hid (Hr11.out.stay (Chg.of_below (F := fun _ => False) hb12) (fun _ h => h.elim) (fun _ _ h => h))
     have Hsi := Lib.hid (sameints_any (x := idx 0 z) (y := idx 0 z) (Sl.clip (Ints.sl ho12)) (Ints.sl (Ints.below Ho11.out hb12)) (by omega) (by omega))
     clear hb12 ho12
     go_wp2_with fail
     (with_reducible refine Hsi.out.mono ?_)
     rintro e w13 ⟨rfl, hb13⟩
     rw [show decide (idx 0 z = idx 0 z) = true by simp]
     have Hb13 := Lib.hid (Hb12.out.trans (hb13.mono Hb12.out.size))
     have Hr13 := Lib.hid (Hr12.out.stay (Chg.of_below (F := fun _ => False) hb13) (fun _ h => h.elim) (fun _ _ h => h))
     have Hhit := Lib.hid (hit_any Hr13.out Hez.out)
     have Hst2 := Lib.hid (steps_any Hr13.out HMl.out (by omega))
     rw [if_pos rfl, Hkk.out] at Hst2
     obtain ⟨bz, hbz⟩ : ∃ bz, decide (0 < (idx 0 z).length) = bz := ⟨_, rfl⟩
     rw [hbz] at Hhit
     clear hb13 Hsi
     go_wp2_with fail
     (with_reducible refine Hst2.out.mono ?_)
     rintro e wz ⟨rfl, rfl⟩
     go_wp2_with fail
     (with_reducible refine Hhit.out.mono ?_)
     rintro e wz ⟨rfl, rfl⟩
     go_wp2_with fail
     go_ret
     exact ⟨by simp, Hb3.out.trans (Hb13.out.mono Hb3.out.size)⟩
end Go.Proofs.YthhnmpkgleelfaaGreatDoor
namespace Go.Proofs.YthhnmpkgleelfaaGreatDoor
open Go.ChangeShapes Go.WideShapes Go.ChangeAt Go.WideMaps Go.WideElems Go.RowKit
set_option maxRecDepth 100000 in
theorem runs_lifted (os : Os) (started : os.Started) (H : Type) (enc : TypeId × Value → H) :
  ReturnsInHanded {} Tryz.checked os 4 .any (fun w args => (Rows.simRunsSpec.pre enc Tryz.prog Tryz.f4 [] false w args ∧ laidMetH Tryz.prog laidS w) ∧ sizedMet enc Tryz.prog Tryz.f4 (OpenSpec.ofChange Rows.simRunsSpec) false w args)
   (Rows.simRunsSpec.post enc Tryz.prog Tryz.f4 false true false false) := by
 refine returnsInHanded_of_change_and (C := Tryz.checked) (X := fun w _ => laidMetH Tryz.prog laidS w) (fun _ _ _ hh h => h.of_heap hh) Tryz.own started (by kernel_rfl) Tryz.func4
  (ChangeSpec.witness_shaped (enc := enc) (C := Tryz.checked) (os := os) (X := fun w _ => laidMetH Tryz.prog laidS w) false (World.laidAll Tryz.prog os laidS) #[.string ⟨#[]⟩, .slice none 0 0, .int .i32 0] 8 rfl (World.shaped_of_ZipB (by kernel_rfl) (by kernel_rfl)) (by kernel_rfl) (by kernel_rfl) (by kernel_rfl) (door_met os _)) ?_
 intro W base args ds gs before hval0 hW _ _ hL _
 have hval : ∀ (j : Nat) t v, Tryz.f4.params[j]? = some t → args[j]? = some v → Value.okWide Tryz.prog W .any base t v := hval0
 have hW' := hW
 have hlt : ∀ p ∈ before, p.block < W.heap.size := fun p hp => hW.lt p hp
 obtain ⟨p, q, hA0, hV, rfl, hfz, hnd⟩ := hW
 have hA : DataW.TrodAll enc Tryz.prog W 0 (fun _ => true) true Tryz.f4.params.toList args.toList ds p := hA0
 rw [Tryz.params4] at hA hval
 obtain ⟨v0, v1, v2, d0, d1, d2, p0, p1, p2, rfl, rfl, rfl, h0, h1, h2⟩ := trodAll_three hA
 obtain ⟨rfl, rfl⟩ := trodVars_none hV
 obtain ⟨c0, rfl, rfl, rfl, w0⟩ := ChangeMaps.open_string Tryz.underlying9 (hval 0 9 v0 rfl rfl) h0
 obtain ⟨x1, s1⟩ := runes_of_trod (hval 1 37 v1 rfl rfl) h1
 obtain ⟨c2, rfl, rfl, rfl, w2⟩ := open_int Tryz.underlying21 (hval 2 21 v2 rfl rfl) h2
 clear hA0 hval0
 simp only [List.append_nil, List.nil_append] at hW' hlt
 refine (simruns_any (tabs_of_laid hL) c0 s1 c2).mono fun e W' ⟨he, hb⟩ => ?_
 subst he
 exact ⟨_, rfl, post_of_below (pa := p1) (pv := []) hW' (fun _ _ _ => trodAll_mk1 (shut_bool Tryz.underlying4 true))
  (fun sp hsp => by
   have := trodAll_mk3 (ChangeMaps.shut_string Tryz.underlying9 w0) (stay (by kernel_rfl) (of_decide_eq_true (by kernel_rfl)) h1 hb (fun x hx => hlt x (by simp [hx])) sp (fun x hx => by simp [hx]) hsp) (shut_int (enc := enc) (P := Tryz.prog) (w := W') (base := 0) (spare := sp) (held := true) Tryz.underlying21 w2)
   simp only [List.append_nil, List.nil_append] at this
   exact this) (fun _ _ => rfl) (by simp) hb (ok_one (by kernel_rfl) rfl (okWide_bool_mk Tryz.underlying4 true))⟩
theorem runs_row : Rows.SimRunsSaid :=
 OpenClaim.holds_of_wide 4 Tryz.f4 rfl rfl rfl rfl rfl rfl rfl ⟨rfl, rfl, rfl, rfl, rfl⟩ rfl rfl rfl rfl rfl (by kernel_rfl) Tryz.func4 (by kernel_rfl)
  (of_decide_eq_true (by kernel_rfl)) (by unfold Func.isWrapper; rw [if_neg (of_decide_eq_false (by kernel_rfl))]; exact ⟨rfl, rfl⟩)
  (fun os started H enc _ => runs_lifted os started H enc)
end Go.Proofs.YthhnmpkgleelfaaGreatDoor
namespace Go.Proofs.YthhnmpkgleelfaaGreatDoor
open Go
theorem runs_plain (f : FuncId) (fn : Func) (hf : Tryz.pinned.checked.prog.funcNamed "wicket/wicketlaw12.SimRuns" = some f) (hfn : Tryz.pinned.checked.prog.funcs[f]? = some fn) :
  true = Tryz.pinned.checked.prog.looks [] ∧ ∀ (j : Nat) t, fn.params[j]? = some t → Tryz.pinned.checked.prog.wantsStandIn t = false := by
 obtain rfl : f = 4 := Option.some.inj ((show Tryz.prog.funcNamed "wicket/wicketlaw12.SimRuns" = some 4 by kernel_rfl).symm.trans hf) |>.symm
 obtain rfl : fn = Tryz.f4 := (Option.some.inj (Tryz.func4.symm.trans hfn)).symm
 refine ⟨by kernel_rfl, fun j t ht => ?_⟩
 rw [Tryz.params4] at ht
 have hm : t ∈ [9, 37, 21] := by simpa using Array.mem_of_getElem? ht
 have hall : ([9, 37, 21].all fun u => !Tryz.prog.wantsStandIn u) = true := by kernel_rfl
 exact (show Tryz.prog.wantsStandIn t = false by simpa using List.all_eq_true.1 hall t hm)
theorem runs_card : Rows.SimRunsCardSaid :=
 Claim7.holds_tied_plain_at .later [] _ _ _ _ runs_row (fun _ h => by cases h) (by kernel_rfl) (fun _ h => by cases h) simRuns_row_tie rfl ⟨rfl, rfl⟩ (by kernel_rfl) rfl runs_plain (by kernel_rfl)
#print axioms runs_card
end Go.Proofs.YthhnmpkgleelfaaGreatDoor
