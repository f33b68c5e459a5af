import Derived.Test.YthhnmpkgleelfaaGreatDoorL25
import Derived.Test.YthhnmpkgleelfaaGreatDoorL6
import Derived.Shelf.Lay
import Derived.Shelf.Bits.Mul64
set_option linter.unusedVariables false
set_option linter.unusedSimpArgs false
namespace Go.Proofs.YthhnmpkgleelfaaGreatDoor
open Go.RowKit
theorem fr_chr {s : List Int} (d : Int) : FrAt s (.chr d) := fr_at2 d noB (fun _ => rfl) (fun c w => by
 by_cases hc : c < 0
 ·have h := takes_neg ⟨2, d, noB, 0, 0, 0, 0⟩ c hc w
  rw [show atomT (.chr d) c = false by simp [atomT]; omega]
  exact h
 ·exact takes_chr d c (by omega) w) (fun _ _ => Iff.rfl)
theorem fr_any {s : List Int} : FrAt s .any := fr_at3 0 noB (fun _ => rfl) (fun c w => by
 by_cases hc : c < 0
 ·have h := takes_neg ⟨3, 0, noB, 0, 0, 0, 0⟩ c hc w
  rw [show atomT .any c = false by simp [atomT]; omega]
  exact h
 ·exact takes_any c (by omega) w) (fun _ _ => Iff.rfl)
theorem fr_set {s : List Int} (cs : List Int) (hg : Gaps cs) (hr : ∀ x ∈ cs, isR x = true) : FrAt s (.set cs) := fr_at4 0 (rngB cs) (fun _ => rfl) (fun c w => by
 by_cases hc : c < 0
 ·have h := takes_neg ⟨4, 0, rngB cs, 0, 0, 0, 0⟩ c hc w
  rw [show atomT (.set cs) c = false by simp [atomT]; omega]
  exact h
 ·exact takes_set cs hg hr c (by omega) w) (fun _ _ => Iff.rfl)
theorem fr_all {s : List Int} : ∀ (r : Rx), r.ok → FrAt s r
 | .emp, _ => fr_emp
 | .chr c, _ => fr_chr c
 | .any, _ => fr_any
 | .set cs, h => fr_set cs h.1 h.2
 | .beg, _ => fr_beg
 | .fin, _ => fr_fin
 | .cat a b, h => fr_cat (fr_all a h.1) (fr_all b h.2)
 | .alt a b, h => fr_alt (fr_all a h.1) (fr_all b h.2)
 | .rep a mn mx, h => by
  obtain ⟨n, rfl⟩ : ∃ n : Nat, mn = n := ⟨mn.toNat, by have := h.2.1; omega⟩
  exact fr_rep (fr_all a h.1) (by have := h.2.2.1; omega) h.2.2.2
def FlagP (s : List Int) (r : Rx) (w : World) (e : Ending) (w' : World) : Prop := ∃ (y : List Bool) (A : Option Addr) (q : Nat), e = .returned (.slice A y.length q) ∧ Below w.heap.size w w' ∧ Fls w' 0 (.slice A y.length q) y ∧ y.length = s.length + 1 ∧ ∀ j, y[j]? = some true ↔ ∃ i, i ≤ s.length ∧ Mt s r i j
def FgRel (w : World) (l : List Bool) (n : Nat) (s6 : Value) (wr : World) : Prop := ∃ k : Nat, k ≤ l.length ∧ s6 = .int .i64 k ∧ Below w.heap.size w wr ∧ Fls wr 0 (.slice (some ⟨w.heap.size, 0, none⟩) n n) (l.take k ++ List.replicate (l.length - k) false)
set_option maxHeartbeats 8000000 in
set_option maxRecDepth 100000 in
theorem flags_any {s : List Int} {r : Rx} {w : World} {v vs : Value} (hr : r.ok) (h1 : XRow w 0 v (r.flat 0)) (h3 : r.size ≤ 100000) (h4 : Rns w 0 vs s) (h5 : s.length ≤ 100000) : Calls Tryz.prog 28 #[v, vs] w fun e w' => FlagP s r w e w' := by
 obtain ⟨As, qs, rfl, -, -, -⟩ := ownsRow_slice h4
 have hmk := run_make_flags (s.length + 1) (by omega)
 rw [show ((s.length + 1 : Nat) : Int) = (s.length : Int) + 1 by omega] at hmk
 have H1 := Lib.hid h1
 have H4 := Lib.hid h4
 have Hfr := Lib.hid (fr_all (s := s) r hr)
 have Hal := Lib.hid (alloc_below w (.cells (Array.replicate (s.length + 1) (.bool false)) 4))
 have Hfl := Lib.hid (fls_made w (s.length + 1) (by omega) (Nat.zero_le w.heap.size))
 clear h1 h4 hr
 obtain ⟨l, hl⟩ : ∃ l, List.replicate (s.length + 1) true = l := ⟨_, rfl⟩
 have Hl := Lib.hid hl
 have hll : l.length = s.length + 1 := by rw [← hl]; simp
 have Hll := Lib.hid hll
 clear hl hll
 go_enter Tryz.func28, Tryz.ntmps28
 go_wp2_with fail
 go_loopw [6] (fun s6 wr => FgRel w l (s.length + 1) s6 wr) (fun v _ => s.length + 1 - (intOf v).toNat)
 case atStart =>
  refine ⟨0, Nat.zero_le _, rfl, Hal.out, ?_⟩
  rw [List.take_zero, List.nil_append, Nat.sub_zero, Hll.out]
  exact Hfl.out
 case round =>
  obtain ⟨k, hk, rfl, hb, ho⟩ := hrel
  have hk2 : k ≤ s.length + 1 := by have := Hll.out; omega
  have Hb := Lib.hid hb
  have Ho := Lib.hid ho
  have hbs := hb.size
  by_cases hlt : k ≤ s.length
  ·have hkl : k < l.length := by have := Hll.out; omega
   have hlk : l[k]? = some true := by rw [← Hl.out, List.getElem?_replicate, if_pos (by omega)]
   have hfz := ho.frozen k
   have hoc := ho.cell (fill_at false hkl)
   have hst := (ho.set k true).1
   rw [set_fill hlk] at hst
   have Hst := Lib.hid hst
   have hki : (k : Int) < (s.length : Int) + 1 := by omega
   clear hb ho hlk hst
   go_wp2_with fail
   exact ⟨⟨k + 1, by omega, by go_num, below_set Hb.out (Nat.le_refl _) hbs, Hst.out⟩, by simp [intOf]; omega⟩
  ·obtain rfl : k = s.length + 1 := by omega
   have hfin : Fls wr 0 (.slice (some ⟨w.heap.size, 0, none⟩) (s.length + 1) (s.length + 1)) l := by
    have h9 := ho
    rw [← Hll.out, List.take_length, Nat.sub_self, List.replicate_zero, List.append_nil] at h9
    rw [← Hll.out]; exact h9
   have Hfin := Lib.hid hfin
   clear hb ho hfin
   go_wp2_with fail
   (with_reducible refine (Hfr.out.go (z := 0) 0 rfl (H1.out.below Hb.out) (SubAt.whole r) (by rw [r.flat_len]; exact h3) (H4.out.below Hb.out) h5 Hfin.out Hll.out).mono ?_)
   rintro e w3 ⟨y, A3, q3, rfl, hb3, hy, himg⟩
   have Hb3 := Lib.hid (Hb.out.trans (hb3.mono hbs))
   have Hy := Lib.hid hy
   have Himg := Lib.hid himg
   clear hb3 hy himg
   go_wp2_with fail
   go_ret
   refine ⟨y, A3, q3, rfl, Hb3.out, Hy.out, Himg.out.1.trans Hll.out, fun j => ?_⟩
   rw [Himg.out.2]
   constructor
   ·rintro ⟨i, hi, hm⟩
    have := (List.getElem?_eq_some_iff.1 hi).1
    have := Hll.out
    exact ⟨i, by omega, hm⟩
   ·rintro ⟨i, hi, hm⟩
    exact ⟨i, by rw [← Hl.out, List.getElem?_replicate, if_pos (by omega)], hm⟩
theorem elInt : ElemK 30 3 (.int .i64 0) 1 8 := ⟨Tryz.underlying30, by kernel_rfl, rfl, by decide⟩
def intV (c : Int) : Value := .int .i64 c
def Ints (w : World) (base : Nat) (v : Value) (l : List Int) : Prop := w.ownsRow base 3 1 v l.length (l.map intV)
def LiRel (w : World) (y : List Bool) (s3 s4 : Value) (wr : World) : Prop := ∃ (k : Nat) (pre : List Int) (A : Option Addr) (q : Nat), k ≤ y.length ∧ s3 = .slice A pre.length q ∧ s4 = .int .i64 k ∧ Below w.heap.size w wr ∧ Ints wr w.heap.size (.slice A pre.length q) pre ∧ idx 0 y = pre ++ idx k (y.drop k) ∧ pre.length ≤ k
def IntsP (w : World) (l : List Int) (e : Ending) (w' : World) : Prop := ∃ (A : Option Addr) (q : Nat), e = .returned (.slice A l.length q) ∧ Below w.heap.size w w' ∧ Ints w' w.heap.size (.slice A l.length q) l
theorem mwithin_any (a : Int) (h : 0 ≤ a) (k : a ≤ mxS) (w : World) : Calls Tryz.prog 77 #[.int .i64 a] w fun e w' => IntP a w e w' := by
 unfold mxS at k
 go_enter Tryz.func77, Tryz.ntmps77
 by_cases ha : 0 < a
 ·go_wp2_with fail
  go_ret
  exact ⟨rfl, rfl⟩
 ·obtain rfl : a = 0 := by omega
  go_wp2_with fail
  go_ret
  exact ⟨rfl, rfl⟩
theorem madd_any (a b : Int) (h : 0 ≤ a) (k : a ≤ mxS) (h2 : 0 ≤ b) (k2 : b ≤ mxS) (w : World) : Calls Tryz.prog 57 #[.int .i64 a, .int .i64 b] w fun e w' => IntP (adS a b) w e w' := by
 go_enter Tryz.func57, Tryz.ntmps57
 go_wp2_with fail
 (with_reducible refine (mwithin_any a h k w).mono ?_)
 rintro e w' ⟨rfl, rfl⟩
 go_wp2_with fail
 (with_reducible refine (mwithin_any b h2 k2 w).mono ?_)
 rintro e w' ⟨rfl, rfl⟩
 unfold mxS at k k2
 by_cases hb : 4611686018427387904 - b < a
 ·have e := Lib.hid (show adS a b = 4611686018427387904 by unfold adS mxS; omega)
  go_wp2_with fail
  go_ret
  rw [e.out]
  exact ⟨rfl, rfl⟩
 ·have e := Lib.hid (show adS a b = a + b by unfold adS mxS; omega)
  go_wp2_with fail
  go_ret
  rw [e.out]
  exact ⟨rfl, rfl⟩
end Go.Proofs.YthhnmpkgleelfaaGreatDoor
namespace Go.Proofs.YthhnmpkgleelfaaGreatDoor
open Go.RowKit Go.Lib Go.Shelf
def lays264_ren : Go.Shelf.Ren := ⟨fun | 264 => 76 | n => n, fun | 53 => 138 | 46 => 176 | n => n, fun | n => n⟩
theorem lays264 : Go.Proofs.Lays.n264 Tryz.prog lays264_ren := {
 mixed := by kernel_rfl
 f264 := Tryz.func76.trans (congrArg some (by kernel_rfl))
 t46 := Tryz.underlying176
 a46 := Tryz.isAgg176
 z46 := Tryz.sizeOf176
 v46 := Tryz.zeroValue176
 t53 := Tryz.underlying138
 a53 := Tryz.isAgg138
 z53 := Tryz.sizeOf138
 v53 := Tryz.zeroValue138 }
theorem mul64_any (x y : Nat) (hx : x < 18446744073709551616) (hy : y < 18446744073709551616) (w : World) :
  Calls Tryz.prog 76 #[.int .u64 x, .int .u64 y] w fun e w' => e = .returned (.tuple #[.int .u64 ((x * y / 18446744073709551616 : Nat) : Int), .int .u64 ((x * y % 18446744073709551616 : Nat) : Int)]) ∧ w' = w := Any.bits_Mul64 lays264 x y hx hy w
set_option maxHeartbeats 2000000 in
theorem mmul_any (a b : Int) (h : 0 ≤ a) (k : a ≤ mxS) (h2 : 0 ≤ b) (k2 : b ≤ mxS) (w : World) : Calls Tryz.prog 51 #[.int .i64 a, .int .i64 b] w fun e w' => IntP (muS a b) w e w' := by
 obtain ⟨x, rfl⟩ : ∃ n : Nat, a = n := ⟨a.toNat, by omega⟩
 obtain ⟨y, rfl⟩ : ∃ n : Nat, b = n := ⟨b.toNat, by omega⟩
 go_enter Tryz.func51, Tryz.ntmps51
 go_wp2_with fail
 (with_reducible refine (mwithin_any x h k w).mono ?_)
 rintro e w' ⟨rfl, rfl⟩
 unfold mxS at k
 have hx : IntKind.u64.wrap (x : Int) = x := by rw [IntKind.wrap_u64]; omega
 go_wp2_with fail
 (with_reducible refine (mwithin_any y h2 k2 w).mono ?_)
 rintro e w' ⟨rfl, rfl⟩
 unfold mxS at k2
 have hy : IntKind.u64.wrap (y : Int) = y := by rw [IntKind.wrap_u64]; omega
 go_wp2_with fail
 (with_reducible refine (mul64_any x y (by omega) (by omega) w).mono ?_)
 rintro e w' ⟨rfl, rfl⟩
 have hm : muS (x : Int) (y : Int) = min ((x * y : Nat) : Int) 4611686018427387904 := by unfold muS mxS; rw [Int.natCast_mul]
 have Hm := Lib.hid hm
 clear hm hx hy
 generalize x * y = m at *
 obtain ⟨hi, hhi⟩ : ∃ n : Nat, m / 18446744073709551616 = n := ⟨_, rfl⟩
 obtain ⟨lo, hlo⟩ : ∃ n : Nat, m % 18446744073709551616 = n := ⟨_, rfl⟩
 rw [hhi, hlo]
 have hlo2 : lo < 18446744073709551616 := by omega
 by_cases c1 : 0 < hi
 ·have e := Lib.hid (show muS (x : Int) (y : Int) = 4611686018427387904 by rw [Hm.out]; omega)
  clear Hm hhi hlo
  go_wp2_with fail
  go_ret
  rw [e.out]
  exact ⟨rfl, rfl⟩
 ·obtain rfl : hi = 0 := by omega
  by_cases c2 : 4611686018427387904 < lo
  ·have e := Lib.hid (show muS (x : Int) (y : Int) = 4611686018427387904 by rw [Hm.out]; omega)
   clear Hm hhi hlo
   go_wp2_with fail
   go_ret
   rw [e.out]
   exact ⟨rfl, rfl⟩
  ·have e := Lib.hid (show muS (x : Int) (y : Int) = lo by rw [Hm.out]; omega)
   have hw : IntKind.i64.wrap (lo : Int) = lo := IntWalk.i64_in _ (by omega)
   clear Hm hhi hlo
   go_wp2_with fail
   go_ret
   rw [e.out]
   exact ⟨rfl, rfl⟩
end Go.Proofs.YthhnmpkgleelfaaGreatDoor
namespace Go.Proofs.YthhnmpkgleelfaaGreatDoor
open Go.RowKit
theorem Ints.sl {w : World} {base : Nat} {v : Value} {l : List Int} (h : Ints w base v l) : Sl w v (l.map intV) := Sl.of_own h
theorem Ints.below {w w' : World} {base : Nat} {v : Value} {l : List Int} (h : Ints w base v l) (hb : Below w.heap.size w w') : Ints w' base v l := ownsRow_below h hb (Nat.le_refl _)
theorem Ints.low {w : World} {base b : Nat} {v : Value} {l : List Int} (h : Ints w base v l) (hb : b ≤ base) : Ints w b v l := ownsRow_low h hb
def SiRel (w : World) (x y : List Int) (s5 : Value) (wr : World) : Prop := ∃ k : Nat, k ≤ x.length ∧ s5 = .int .i64 k ∧ Below w.heap.size w wr ∧ x.take k = y.take k
def SiP (w : World) (x y : List Int) (e : Ending) (w' : World) : Prop := e = .returned (.bool (decide (x = y))) ∧ Below w.heap.size w w'
set_option maxHeartbeats 4000000 in
theorem sameints_any {w : World} {v u : Value} {x y : List Int} (hx : Sl w v (x.map intV)) (hy : Sl w u (y.map intV)) (hl : x.length ≤ 1000000) (kl : y.length ≤ 1000000) : Calls Tryz.prog 13 #[v, u] w fun e w' => SiP w x y e w' := by
 obtain ⟨_, A, q, rfl, _, hA⟩ := hx
 obtain ⟨_, B, q2, rfl, _, hB⟩ := hy
 rw [List.length_map] at hA hB ⊢
 rw [List.length_map]
 have HA := Lib.hid hA
 have HB := Lib.hid hB
 clear hA hB
 go_enter Tryz.func13, Tryz.ntmps13
 by_cases hxy : x.length = y.length
 case neg =>
  have hne : ((x.length : Int) != (y.length : Int)) = true := by simp; omega
  have hd := Lib.hid (show decide (x = y) = false from decide_eq_false (fun e => hxy (by rw [e])))
  clear hxy
  go_wp2_with fail
  go_ret
  exact ⟨by rw [hd.out]; rfl, Below.refl _ _⟩
 have Hxy := Lib.hid hxy
 rw [← hxy]
 clear hxy
 go_wp2_with fail
 go_loopw [5] (fun s5 wr => SiRel w x y s5 wr) (fun v _ => x.length - (intOf v).toNat)
 case atStart => exact ⟨0, Nat.zero_le _, rfl, Below.refl _ _, by simp⟩
 case round =>
  obtain ⟨k, hk, rfl, hb, ht⟩ := hrel
  have Hb := Lib.hid hb
  have Ht := Lib.hid ht
  have hbs := hb.size
  by_cases hlt : k < x.length
  ·obtain ⟨g, o, rfl, hcl⟩ := HA.out (by omega)
   obtain ⟨g2, o2, rfl, hcl2⟩ := HB.out (by have := Hxy.out; omega)
   obtain ⟨a, ha⟩ : ∃ a, x[k]? = some a := ⟨_, List.getElem?_eq_getElem hlt⟩
   obtain ⟨b, hbb⟩ : ∃ b, y[k]? = some b := ⟨_, List.getElem?_eq_getElem (by have := Hxy.out; omega)⟩
   have c1 := cell_later hb (hcl k (intV a) (by rw [List.getElem?_map, ha]; rfl))
   have c2 := cell_later hb (hcl2 k (intV b) (by rw [List.getElem?_map, hbb]; rfl))
   unfold intV at c1 c2
   have Hs := Lib.hid (show x.take (k + 1) = x.take k ++ [a] from take_next ha)
   have Hs2 := Lib.hid (show y.take (k + 1) = y.take k ++ [b] from take_next hbb)
   have Hne := Lib.hid (show a ≠ b → x ≠ y from fun h e => by subst e; rw [ha] at hbb; exact h (Option.some.inj hbb))
   have hki : (k : Int) < x.length := by omega
   clear ha hbb hb ht hcl hcl2
   by_cases he : a = b
   ·subst he
    go_wp2_with fail
    go_quiet (fail)
    go_wp2_with fail
    exact ⟨⟨k + 1, by omega, by go_num, blw_drewN Hb.out _, by rw [Hs.out, Hs2.out, Ht.out]⟩, by simp [intOf]; omega⟩
   ·have hbe : (a == b) = false := by simpa using he
    have hd : decide (x = y) = false := decide_eq_false (Hne.out he)
    have Hd := Lib.hid hd
    clear hd he
    go_wp2_with fail
    go_quiet (fail)
    go_wp2_with fail
    go_ret
    exact ⟨by rw [Hd.out]; rfl, blw_drewN Hb.out _⟩
  ·obtain rfl : k = x.length := by omega
   have hd : decide (x = y) = true := decide_eq_true (by have := ht; rw [List.take_length, Hxy.out, List.take_length] at this; exact this)
   have Hd := Lib.hid hd
   clear hd hb ht
   go_wp2_with fail
   go_ret
   exact ⟨by rw [Hd.out]; rfl, Hb.out⟩
end Go.Proofs.YthhnmpkgleelfaaGreatDoor
