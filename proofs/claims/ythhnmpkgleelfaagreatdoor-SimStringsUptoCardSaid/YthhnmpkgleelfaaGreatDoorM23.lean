import Derived.Test.YthhnmpkgleelfaaGreatDoorM22
import Derived.Shelf.Lay
import Derived.Shelf.Bits.Mul64
set_option linter.unusedVariables false
set_option linter.unusedSimpArgs false
namespace Go.Proofs.YthhnmpkgleelfaaGreatDoor
open Go.RowKit Go.Lib Go.Shelf
def lays264_ren : Go.Shelf.Ren := ⟨fun | 264 => 76 | n => n, fun | 53 => 138 | 46 => 176 | n => n, fun | n => n⟩
theorem lays264 : Go.Proofs.Lays.n264 Tryz.prog lays264_ren := {
 mixed := by kernel_rfl
 f264 := Tryz.func76.trans (congrArg some (by kernel_rfl))
 t46 := Tryz.underlying176
 a46 := Tryz.isAgg176
 z46 := Tryz.sizeOf176
 v46 := Tryz.zeroValue176
 t53 := Tryz.underlying138
 a53 := Tryz.isAgg138
 z53 := Tryz.sizeOf138
 v53 := Tryz.zeroValue138 }
theorem mul64_any (x y : Nat) (hx : x < 18446744073709551616) (hy : y < 18446744073709551616) (w : World) :
  Calls Tryz.prog 76 #[.int .u64 x, .int .u64 y] w fun e w' => e = .returned (.tuple #[.int .u64 ((x * y / 18446744073709551616 : Nat) : Int), .int .u64 ((x * y % 18446744073709551616 : Nat) : Int)]) ∧ w' = w := Any.bits_Mul64 lays264 x y hx hy w
set_option maxHeartbeats 2000000 in
theorem mmul_any (a b : Int) (h : 0 ≤ a) (k : a ≤ mxS) (h2 : 0 ≤ b) (k2 : b ≤ mxS) (w : World) : Calls Tryz.prog 51 #[.int .i64 a, .int .i64 b] w fun e w' => IntP (muS a b) w e w' := by
 obtain ⟨x, rfl⟩ : ∃ n : Nat, a = n := ⟨a.toNat, by omega⟩
 obtain ⟨y, rfl⟩ : ∃ n : Nat, b = n := ⟨b.toNat, by omega⟩
 go_enter Tryz.func51, Tryz.ntmps51
 go_wp2_with fail
 (with_reducible refine (mwithin_any x h k w).mono ?_)
 rintro e w' ⟨rfl, rfl⟩
 unfold mxS at k
 have hx : IntKind.u64.wrap (x : Int) = x := by rw [IntKind.wrap_u64]; omega
 go_wp2_with fail
 (with_reducible refine (mwithin_any y h2 k2 w).mono ?_)
 rintro e w' ⟨rfl, rfl⟩
 unfold mxS at k2
 have hy : IntKind.u64.wrap (y : Int) = y := by rw [IntKind.wrap_u64]; omega
 go_wp2_with fail
 (with_reducible refine (mul64_any x y (by omega) (by omega) w).mono ?_)
 rintro e w' ⟨rfl, rfl⟩
 have hm : muS (x : Int) (y : Int) = min ((x * y : Nat) : Int) 4611686018427387904 := by unfold muS mxS; rw [Int.natCast_mul]
 have Hm := Lib.hid hm
 clear hm hx hy
 generalize x * y = m at *
 obtain ⟨hi, hhi⟩ : ∃ n : Nat, m / 18446744073709551616 = n := ⟨_, rfl⟩
 obtain ⟨lo, hlo⟩ : ∃ n : Nat, m % 18446744073709551616 = n := ⟨_, rfl⟩
 rw [hhi, hlo]
 have hlo2 : lo < 18446744073709551616 := by omega
 by_cases c1 : 0 < hi
 ·have e := Lib.hid (show muS (x : Int) (y : Int) = 4611686018427387904 by rw [Hm.out]; omega)
  clear Hm hhi hlo
  go_wp2_with fail
  go_ret
  rw [e.out]
  exact ⟨rfl, rfl⟩
 ·obtain rfl : hi = 0 := by omega
  by_cases c2 : 4611686018427387904 < lo
  ·have e := Lib.hid (show muS (x : Int) (y : Int) = 4611686018427387904 by rw [Hm.out]; omega)
   clear Hm hhi hlo
   go_wp2_with fail
   go_ret
   rw [e.out]
   exact ⟨rfl, rfl⟩
  ·have e := Lib.hid (show muS (x : Int) (y : Int) = lo by rw [Hm.out]; omega)
   have hw : IntKind.i64.wrap (lo : Int) = lo := IntWalk.i64_in _ (by omega)
   clear Hm hhi hlo
   go_wp2_with fail
   go_ret
   rw [e.out]
   exact ⟨rfl, rfl⟩
end Go.Proofs.YthhnmpkgleelfaaGreatDoor
namespace Go.Proofs.YthhnmpkgleelfaaGreatDoor
open Go.RowKit
theorem Ints.sl {w : World} {base : Nat} {v : Value} {l : List Int} (h : Ints w base v l) : Sl w v (l.map intV) := Sl.of_own h
theorem Ints.below {w w' : World} {base : Nat} {v : Value} {l : List Int} (h : Ints w base v l) (hb : Below w.heap.size w w') : Ints w' base v l := ownsRow_below h hb (Nat.le_refl _)
theorem Ints.low {w : World} {base b : Nat} {v : Value} {l : List Int} (h : Ints w base v l) (hb : b ≤ base) : Ints w b v l := ownsRow_low h hb
def SiRel (w : World) (x y : List Int) (s5 : Value) (wr : World) : Prop := ∃ k : Nat, k ≤ x.length ∧ s5 = .int .i64 k ∧ Below w.heap.size w wr ∧ x.take k = y.take k
def SiP (w : World) (x y : List Int) (e : Ending) (w' : World) : Prop := e = .returned (.bool (decide (x = y))) ∧ Below w.heap.size w w'
set_option maxHeartbeats 4000000 in
theorem sameints_any {w : World} {v u : Value} {x y : List Int} (hx : Sl w v (x.map intV)) (hy : Sl w u (y.map intV)) (hl : x.length ≤ 1000000) (kl : y.length ≤ 1000000) : Calls Tryz.prog 13 #[v, u] w fun e w' => SiP w x y e w' := by
 obtain ⟨_, A, q, rfl, _, hA⟩ := hx
 obtain ⟨_, B, q2, rfl, _, hB⟩ := hy
 rw [List.length_map] at hA hB ⊢
 rw [List.length_map]
 have HA := Lib.hid hA
 have HB := Lib.hid hB
 clear hA hB
 go_enter Tryz.func13, Tryz.ntmps13
 by_cases hxy : x.length = y.length
 case neg =>
  have hne : ((x.length : Int) != (y.length : Int)) = true := by simp; omega
  have hd := Lib.hid (show decide (x = y) = false from decide_eq_false (fun e => hxy (by rw [e])))
  clear hxy
  go_wp2_with fail
  go_ret
  exact ⟨by rw [hd.out]; rfl, Below.refl _ _⟩
 have Hxy := Lib.hid hxy
 rw [← hxy]
 clear hxy
 go_wp2_with fail
 go_loopw [5] (fun s5 wr => SiRel w x y s5 wr) (fun v _ => x.length - (intOf v).toNat)
 case atStart => exact ⟨0, Nat.zero_le _, rfl, Below.refl _ _, by simp⟩
 case round =>
  obtain ⟨k, hk, rfl, hb, ht⟩ := hrel
  have Hb := Lib.hid hb
  have Ht := Lib.hid ht
  have hbs := hb.size
  by_cases hlt : k < x.length
  ·obtain ⟨g, o, rfl, hcl⟩ := HA.out (by omega)
   obtain ⟨g2, o2, rfl, hcl2⟩ := HB.out (by have := Hxy.out; omega)
   obtain ⟨a, ha⟩ : ∃ a, x[k]? = some a := ⟨_, List.getElem?_eq_getElem hlt⟩
   obtain ⟨b, hbb⟩ : ∃ b, y[k]? = some b := ⟨_, List.getElem?_eq_getElem (by have := Hxy.out; omega)⟩
   have c1 := cell_later hb (hcl k (intV a) (by rw [List.getElem?_map, ha]; rfl))
   have c2 := cell_later hb (hcl2 k (intV b) (by rw [List.getElem?_map, hbb]; rfl))
   unfold intV at c1 c2
   have Hs := Lib.hid (show x.take (k + 1) = x.take k ++ [a] from take_next ha)
   have Hs2 := Lib.hid (show y.take (k + 1) = y.take k ++ [b] from take_next hbb)
   have Hne := Lib.hid (show a ≠ b → x ≠ y from fun h e => by subst e; rw [ha] at hbb; exact h (Option.some.inj hbb))
   have hki : (k : Int) < x.length := by omega
   clear ha hbb hb ht hcl hcl2
   by_cases he : a = b
   ·subst he
    go_wp2_with fail
    go_quiet (fail)
    go_wp2_with fail
    exact ⟨⟨k + 1, by omega, by go_num, blw_drewN Hb.out _, by rw [Hs.out, Hs2.out, Ht.out]⟩, by simp [intOf]; omega⟩
   ·have hbe : (a == b) = false := by simpa using he
    have hd : decide (x = y) = false := decide_eq_false (Hne.out he)
    have Hd := Lib.hid hd
    clear hd he
    go_wp2_with fail
    go_quiet (fail)
    go_wp2_with fail
    go_ret
    exact ⟨by rw [Hd.out]; rfl, blw_drewN Hb.out _⟩
  ·obtain rfl : k = x.length := by omega
   have hd : decide (x = y) = true := decide_eq_true (by have := ht; rw [List.take_length, Hxy.out, List.take_length] at this; exact this)
   have Hd := Lib.hid hd
   clear hd hb ht
   go_wp2_with fail
   go_ret
   exact ⟨by rw [Hd.out]; rfl, Hb.out⟩
end Go.Proofs.YthhnmpkgleelfaaGreatDoor
