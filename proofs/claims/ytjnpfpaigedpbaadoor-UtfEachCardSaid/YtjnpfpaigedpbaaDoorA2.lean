import Derived.Test.YtjnpfpaigedpbaaDoorA1
namespace Go.Proofs.YtjnpfpaigedpbaaDoor
open Go.RowKit

def byteAt (xs : List UInt8) (i : Nat) : Nat := (xs.getD i 0).toNat
theorem byteAt_lt (xs : List UInt8) (i : Nat) : byteAt xs i < 256 := UInt8.toNat_lt _
def headBits (n x : Nat) : Nat := if n = 1 then x else if n = 2 then x % 32 else if n = 3 then x % 16 else x % 8
def accN (n : Nat) (xs : List UInt8) : Nat → Nat
  | 0 => 0
  | 1 => headBits n (byteAt xs 0)
  | k + 2 => accN n xs (k + 1) * 64 + byteAt xs (k + 1) % 64
def okAt (xs : List UInt8) (k : Nat) : Bool := (k != 1 || secondB (byteAt xs 0) (byteAt xs 1)) && tailB (byteAt xs k)
def decLoop (xs : List UInt8) (n : Nat) : Nat → Nat → Nat × Nat × Nat
  | 0, _ => (accN n xs n, n, 0)
  | f + 1, k => if k = xs.length then (0, 0, 1) else if okAt xs k then decLoop xs n f (k + 1) else (0, 0, 2)
def dec (xs : List UInt8) : Nat × Nat × Nat :=
  if xs = [] then (0, 0, 1) else if classI (byteAt xs 0) < 1 then (0, 0, 2) else
    decLoop xs (classI (byteAt xs 0)).toNat ((classI (byteAt xs 0)).toNat - 1) 1
def errOf (U E : Value) (c : Nat) : Value := if c = 0 then .nilIface else if c = 1 then E else U
def decV (U E : Value) (r : Nat × Nat × Nat) : Value := .tuple #[.int .i32 r.1, .int .i64 r.2.1, errOf U E r.2.2]

theorem accN_bd (n : Nat) (xs : List UInt8) (hn : 2 ≤ n) (hn' : n ≤ 4) : ∀ k, k ≤ n → accN n xs k < 2097152 ∧ (k < n → accN n xs k < 32768) := by
  have b0 := byteAt_lt xs 0
  have b1 := byteAt_lt xs 1
  have b2 := byteAt_lt xs 2
  have b3 := byteAt_lt xs 3
  intro k hk
  have hk' : k = 0 ∨ k = 1 ∨ k = 2 ∨ k = 3 ∨ k = 4 := by omega
  have hn'' : n = 2 ∨ n = 3 ∨ n = 4 := by omega
  rcases hn'' with rfl | rfl | rfl <;> rcases hk' with rfl | rfl | rfl | rfl | rfl <;> simp [accN, headBits] <;> omega

def Decoded (U E : Value) (w : World) (R : Nat × Nat × Nat) (e : Ending) (w' : World) : Prop := e = .returned (decV U E R) ∧ ∃ m, w' = w.drewN m
def LoopRel (xs : List UInt8) (n : Nat) (R : Nat × Nat × Nat) (w : World) (cc i : Value) (wr : World) : Prop :=
  ∃ f k : Nat, k + f = n ∧ 1 ≤ k ∧ k ≤ xs.length ∧ i = .int .i64 k ∧ cc = .int .i32 (accN n xs k) ∧ decLoop xs n f k = R ∧ ∃ m, wr = w.drewN m

theorem tail255 : ∀ x : Nat, x < 256 → bits .and .u8 (x : Int) 63 = ((x % 64 : Nat) : Int) := by decide +kernel

theorem and31 : ∀ x : Nat, x < 256 → bits .and .i32 (x : Int) 31 = ((x % 32 : Nat) : Int) := by decide +kernel
theorem and15 : ∀ x : Nat, x < 256 → bits .and .i32 (x : Int) 15 = ((x % 16 : Nat) : Int) := by decide +kernel
theorem and7 : ∀ x : Nat, x < 256 → bits .and .i32 (x : Int) 7 = ((x % 8 : Nat) : Int) := by decide +kernel
theorem headBits_2 (x : Nat) (h : x < 256) : ((headBits 2 x : Nat) : Int) = bits .and .i32 (x : Int) 31 := by rw [and31 x h]; rfl
theorem headBits_3 (x : Nat) (h : x < 256) : ((headBits 3 x : Nat) : Int) = bits .and .i32 (x : Int) 15 := by rw [and15 x h]; rfl
theorem headBits_4 (x : Nat) (h : x < 256) : ((headBits 4 x : Nat) : Int) = bits .and .i32 (x : Int) 7 := by rw [and7 x h]; rfl

theorem loop_next {xs : List UInt8} {n f k q y m : Nat} {R : Nat × Nat × Nat} {w : World} {v : Int} (hq : accN n xs k = q) (hy : byteAt xs k = y) (hk : 1 ≤ k) (hf : k + (f + 1) = n)
    (hlt : k < xs.length) (hR : decLoop xs n (f + 1) k = R) (hok : okAt xs k = true) (hv : v = (k : Int) + 1) :
    LoopRel xs n R w (.int .i32 ((q : Int) * 64 + (y : Int) % 64)) (.int .i64 v) (w.drewN m) := by
  refine ⟨f, k + 1, by omega, by omega, by omega, by rw [hv]; rfl, ?_, ?_, m, rfl⟩
  · obtain ⟨j, rfl⟩ : ∃ j, k = j + 1 := ⟨k - 1, by omega⟩
    rw [accN, hq, hy]; congr 1
  · rw [← hR, decLoop, if_neg (by omega), if_pos hok]
theorem loop_bad {xs : List UInt8} {n f k : Nat} {R : Nat × Nat × Nat} (hlt : k < xs.length) (hR : decLoop xs n (f + 1) k = R) (hok : okAt xs k = false) : (0, 0, 2) = R := by
  rw [← hR, decLoop, if_neg (by omega), hok]; rfl
theorem okAt_one {xs : List UInt8} {x0 y : Nat} (h0 : byteAt xs 0 = x0) (h1 : byteAt xs 1 = y) : okAt xs 1 = (secondB x0 y && tailB y) := by simp [okAt, h0, h1]
theorem okAt_more {xs : List UInt8} {k y : Nat} (hk : k ≠ 1) (h1 : byteAt xs k = y) : okAt xs k = tailB y := by simp [okAt, h1, hk]

set_option maxHeartbeats 1000000 in
theorem decode_2 (b o c len : Nat) (xs : List UInt8) (w : World) (hlen : xs.length = len) (h2 : 1 ≤ len) (hm : len ≤ 9223372036854775807)
   (hc : ∀ i, i < len → w.cell? ⟨b, o + i, none⟩ = some (.int .u8 (byteAt xs i))) (U E : Value) (hU : w.cell? ⟨0, 0, none⟩ = some U) (hE : w.cell? ⟨1, 0, none⟩ = some E) (hL : Lens w) (hn : classI (byteAt xs 0) = 2) :
    Calls Tryd.prog 22 #[.slice (some ⟨b, o, none⟩) len c] w fun e w' => Decoded U E w (decLoop xs 2 1 1) e w' := by
  have hbd := accN_bd 2 xs (by omega) (by omega)
  have h0 := hc 0 (by omega)
  rw [Nat.add_zero] at h0
  have hx := byteAt_lt xs 0
  have hacc : accN 2 xs 1 = headBits 2 (byteAt xs 0) := rfl
  have hstart : LoopRel xs 2 (decLoop xs 2 1 1) w (.int .i32 (accN 2 xs 1)) (.int .i64 1) w :=
    ⟨1, 1, by omega, by omega, by omega, rfl, rfl, rfl, 0, rfl⟩
  rw [hacc] at hstart
  generalize decLoop xs 2 1 1 = R at *
  generalize hx0 : byteAt xs 0 = x0 at *
  have Hc := Lib.hid hc
  have Hn := Lib.hid hn
  have Hbd := Lib.hid hbd
  have Hs := Lib.hid hstart
  have Hlen := Lib.hid hlen
  have Hx0 := Lib.hid hx0
  clear hc hn hlen hbd hacc hstart hx0
  have HL := Lib.hid hL
  clear hL
  have hl0 : ((len : Int) == 0) = false := by simp; omega
  go_enter Tryd.func22, Tryd.ntmps22
  go_wp2_with (go_at_call 10; refine (class_any _ (by omega) _ HL.out).mono ?_; rintro e w' ⟨rfl, rfl⟩; rw [Hn.out])
  go_loopw [6, 7] (LoopRel xs 2 R w) (fun _ i _ => 2 - (intOf i).toNat)
  case atStart => exact headBits_2 x0 hx ▸ Hs.out
  case round =>
    obtain ⟨f, k, hf, hk1, hk2, rfl, rfl, hR, m, rfl⟩ := hrel
    cases f with
    | zero =>
      obtain rfl : k = 2 := by omega
      generalize hq : accN 2 xs 2 = q at *
      have HR := Lib.hid (show (q, 2, 0) = R by rw [← hR, ← hq]; rfl)
      clear hR hq
      go_wp2
      go_ret3
      exact ⟨by rw [← HR.out]; rfl, m, rfl⟩
    | succ f =>
      have hkn : k < 2 := by omega
      by_cases hkl : k = len
      · have HR := Lib.hid (show (0, 0, 1) = R by rw [← hR, decLoop, if_pos (by rw [Hlen.out]; exact hkl)])
        clear hR
        generalize accN 2 xs k = q at *
        subst hkl
        go_wp2
        go_quiet (fail)
        all_goals (go_wp2; go_ret3)
        exact ⟨by rw [← HR.out]; rfl, _, World.drewN_drewN _ _ _⟩
      · have hkl2 : k < len := by have := Hlen.out; omega
        have hkl3 : ((k : Int) == len) = false := by simp; omega
        have hq := (Hbd.out k (by omega)).2 (by omega)
        have hcell := Hc.out k hkl2
        have hx2 := byteAt_lt xs k
        have Hf := Lib.hid hf
        generalize hqq : accN 2 xs k = q at *
        have Hq := Lib.hid hqq
        clear hqq hf
        generalize hyy : byteAt xs k = y at *
        have Hy := Lib.hid hyy
        clear hyy
        have HR := Lib.hid hR
        clear hR
        have hp : 0 < len := by omega
        have hp0 : (0 : Int) < len := by omega
        by_cases hk1 : k = 1
        · subst hk1
          have hp1 : (1 : Int) < len := by omega
          have Hok := Lib.hid (okAt_one Hx0.out Hy.out)
          by_cases hs : secondB x0 y = true
          · go_wp2
            go_quiet ((go_at_call 32; exact quiet_add_left (second_any _ _ (by omega) _)))
            go_wp2_with (go_at_call 33; refine (tail_any _ _).mono ?_; rintro e w' ⟨rfl, rfl⟩)
            · have ht : (!tailB y) = true := by assumption
              go_quiet (fail)
              all_goals (go_wp2; go_ret3)
              exact ⟨by rw [← loop_bad (by rw [Hlen.out]; exact hkl2) HR.out (by rw [Hok.out, hs]; simpa using ht)]; rfl, _, World.drewN_drewN _ _ _⟩
            · have ht : (!tailB y) = false := by assumption
              exact ⟨loop_next Hq.out Hy.out (by omega) Hf.out (by rw [Hlen.out]; exact hkl2) HR.out (by rw [Hok.out, hs]; simpa using ht) (by omega), by simp [intOf]⟩
          · have hs' : secondB x0 y = false := by simpa using hs
            clear hs
            go_wp2
            go_quiet ((go_at_call 32; exact quiet_add_left (second_any _ _ (by omega) _)))
            go_wp2
            go_quiet (fail)
            all_goals (go_wp2; go_ret3)
            exact ⟨by rw [← loop_bad (by rw [Hlen.out]; exact hkl2) HR.out (by rw [Hok.out, hs']; rfl)]; rfl, _, (congrArg (fun W : World => W.drewN _) (World.drewN_drewN _ _ _)).trans (World.drewN_drewN _ _ _)⟩
        · exfalso; omega

set_option maxHeartbeats 1000000 in
theorem decode_3 (b o c len : Nat) (xs : List UInt8) (w : World) (hlen : xs.length = len) (h2 : 1 ≤ len) (hm : len ≤ 9223372036854775807)
   (hc : ∀ i, i < len → w.cell? ⟨b, o + i, none⟩ = some (.int .u8 (byteAt xs i))) (U E : Value) (hU : w.cell? ⟨0, 0, none⟩ = some U) (hE : w.cell? ⟨1, 0, none⟩ = some E) (hL : Lens w) (hn : classI (byteAt xs 0) = 3) :
    Calls Tryd.prog 22 #[.slice (some ⟨b, o, none⟩) len c] w fun e w' => Decoded U E w (decLoop xs 3 2 1) e w' := by
  have hbd := accN_bd 3 xs (by omega) (by omega)
  have h0 := hc 0 (by omega)
  rw [Nat.add_zero] at h0
  have hx := byteAt_lt xs 0
  have hacc : accN 3 xs 1 = headBits 3 (byteAt xs 0) := rfl
  have hstart : LoopRel xs 3 (decLoop xs 3 2 1) w (.int .i32 (accN 3 xs 1)) (.int .i64 1) w :=
    ⟨2, 1, by omega, by omega, by omega, rfl, rfl, rfl, 0, rfl⟩
  rw [hacc] at hstart
  generalize decLoop xs 3 2 1 = R at *
  generalize hx0 : byteAt xs 0 = x0 at *
  have Hc := Lib.hid hc
  have Hn := Lib.hid hn
  have Hbd := Lib.hid hbd
  have Hs := Lib.hid hstart
  have Hlen := Lib.hid hlen
  have Hx0 := Lib.hid hx0
  clear hc hn hlen hbd hacc hstart hx0
  have HL := Lib.hid hL
  clear hL
  have hl0 : ((len : Int) == 0) = false := by simp; omega
  go_enter Tryd.func22, Tryd.ntmps22
  go_wp2_with (go_at_call 10; refine (class_any _ (by omega) _ HL.out).mono ?_; rintro e w' ⟨rfl, rfl⟩; rw [Hn.out])
  go_loopw [6, 7] (LoopRel xs 3 R w) (fun _ i _ => 3 - (intOf i).toNat)
  case atStart => exact headBits_3 x0 hx ▸ Hs.out
  case round =>
    obtain ⟨f, k, hf, hk1, hk2, rfl, rfl, hR, m, rfl⟩ := hrel
    cases f with
    | zero =>
      obtain rfl : k = 3 := by omega
      generalize hq : accN 3 xs 3 = q at *
      have HR := Lib.hid (show (q, 3, 0) = R by rw [← hR, ← hq]; rfl)
      clear hR hq
      go_wp2
      go_ret3
      exact ⟨by rw [← HR.out]; rfl, m, rfl⟩
    | succ f =>
      have hkn : k < 3 := by omega
      by_cases hkl : k = len
      · have HR := Lib.hid (show (0, 0, 1) = R by rw [← hR, decLoop, if_pos (by rw [Hlen.out]; exact hkl)])
        clear hR
        generalize accN 3 xs k = q at *
        subst hkl
        go_wp2
        go_quiet (fail)
        all_goals (go_wp2; go_ret3)
        exact ⟨by rw [← HR.out]; rfl, _, World.drewN_drewN _ _ _⟩
      · have hkl2 : k < len := by have := Hlen.out; omega
        have hkl3 : ((k : Int) == len) = false := by simp; omega
        have hq := (Hbd.out k (by omega)).2 (by omega)
        have hcell := Hc.out k hkl2
        have hx2 := byteAt_lt xs k
        have Hf := Lib.hid hf
        generalize hqq : accN 3 xs k = q at *
        have Hq := Lib.hid hqq
        clear hqq hf
        generalize hyy : byteAt xs k = y at *
        have Hy := Lib.hid hyy
        clear hyy
        have HR := Lib.hid hR
        clear hR
        have hp : 0 < len := by omega
        have hp0 : (0 : Int) < len := by omega
        by_cases hk1 : k = 1
        · subst hk1
          have hp1 : (1 : Int) < len := by omega
          have Hok := Lib.hid (okAt_one Hx0.out Hy.out)
          by_cases hs : secondB x0 y = true
          · go_wp2
            go_quiet ((go_at_call 32; exact quiet_add_left (second_any _ _ (by omega) _)))
            go_wp2_with (go_at_call 33; refine (tail_any _ _).mono ?_; rintro e w' ⟨rfl, rfl⟩)
            · have ht : (!tailB y) = true := by assumption
              go_quiet (fail)
              all_goals (go_wp2; go_ret3)
              exact ⟨by rw [← loop_bad (by rw [Hlen.out]; exact hkl2) HR.out (by rw [Hok.out, hs]; simpa using ht)]; rfl, _, World.drewN_drewN _ _ _⟩
            · have ht : (!tailB y) = false := by assumption
              exact ⟨loop_next Hq.out Hy.out (by omega) Hf.out (by rw [Hlen.out]; exact hkl2) HR.out (by rw [Hok.out, hs]; simpa using ht) (by omega), by simp [intOf]⟩
          · have hs' : secondB x0 y = false := by simpa using hs
            clear hs
            go_wp2
            go_quiet ((go_at_call 32; exact quiet_add_left (second_any _ _ (by omega) _)))
            go_wp2
            go_quiet (fail)
            all_goals (go_wp2; go_ret3)
            exact ⟨by rw [← loop_bad (by rw [Hlen.out]; exact hkl2) HR.out (by rw [Hok.out, hs']; rfl)]; rfl, _, (congrArg (fun W : World => W.drewN _) (World.drewN_drewN _ _ _)).trans (World.drewN_drewN _ _ _)⟩
        · have hk3 : ((k : Int) == 1) = false := by simp; omega
          have Hok := Lib.hid (okAt_more hk1 Hy.out)
          go_wp2
          go_quiet (fail)
          go_wp2_with (go_at_call 33; refine (tail_any _ _).mono ?_; rintro e w' ⟨rfl, rfl⟩)
          · have ht : (!tailB y) = true := by assumption
            go_quiet (fail)
            all_goals (go_wp2; go_ret3)
            exact ⟨by rw [← loop_bad (by rw [Hlen.out]; exact hkl2) HR.out (by rw [Hok.out]; simpa using ht)]; rfl, _, World.drewN_drewN _ _ _⟩
          · have ht : (!tailB y) = false := by assumption
            exact ⟨loop_next Hq.out Hy.out (by omega) Hf.out (by rw [Hlen.out]; exact hkl2) HR.out (by rw [Hok.out]; simpa using ht) (by omega), by simp [intOf]; omega⟩

set_option maxHeartbeats 1000000 in
theorem decode_4 (b o c len : Nat) (xs : List UInt8) (w : World) (hlen : xs.length = len) (h2 : 1 ≤ len) (hm : len ≤ 9223372036854775807)
   (hc : ∀ i, i < len → w.cell? ⟨b, o + i, none⟩ = some (.int .u8 (byteAt xs i))) (U E : Value) (hU : w.cell? ⟨0, 0, none⟩ = some U) (hE : w.cell? ⟨1, 0, none⟩ = some E) (hL : Lens w) (hn : classI (byteAt xs 0) = 4) :
    Calls Tryd.prog 22 #[.slice (some ⟨b, o, none⟩) len c] w fun e w' => Decoded U E w (decLoop xs 4 3 1) e w' := by
  have hbd := accN_bd 4 xs (by omega) (by omega)
  have h0 := hc 0 (by omega)
  rw [Nat.add_zero] at h0
  have hx := byteAt_lt xs 0
  have hacc : accN 4 xs 1 = headBits 4 (byteAt xs 0) := rfl
  have hstart : LoopRel xs 4 (decLoop xs 4 3 1) w (.int .i32 (accN 4 xs 1)) (.int .i64 1) w :=
    ⟨3, 1, by omega, by omega, by omega, rfl, rfl, rfl, 0, rfl⟩
  rw [hacc] at hstart
  generalize decLoop xs 4 3 1 = R at *
  generalize hx0 : byteAt xs 0 = x0 at *
  have Hc := Lib.hid hc
  have Hn := Lib.hid hn
  have Hbd := Lib.hid hbd
  have Hs := Lib.hid hstart
  have Hlen := Lib.hid hlen
  have Hx0 := Lib.hid hx0
  clear hc hn hlen hbd hacc hstart hx0
  have HL := Lib.hid hL
  clear hL
  have hl0 : ((len : Int) == 0) = false := by simp; omega
  go_enter Tryd.func22, Tryd.ntmps22
  go_wp2_with (go_at_call 10; refine (class_any _ (by omega) _ HL.out).mono ?_; rintro e w' ⟨rfl, rfl⟩; rw [Hn.out])
  go_loopw [6, 7] (LoopRel xs 4 R w) (fun _ i _ => 4 - (intOf i).toNat)
  case atStart => exact headBits_4 x0 hx ▸ Hs.out
  case round =>
    obtain ⟨f, k, hf, hk1, hk2, rfl, rfl, hR, m, rfl⟩ := hrel
    cases f with
    | zero =>
      obtain rfl : k = 4 := by omega
      generalize hq : accN 4 xs 4 = q at *
      have HR := Lib.hid (show (q, 4, 0) = R by rw [← hR, ← hq]; rfl)
      clear hR hq
      go_wp2
      go_ret3
      exact ⟨by rw [← HR.out]; rfl, m, rfl⟩
    | succ f =>
      have hkn : k < 4 := by omega
      by_cases hkl : k = len
      · have HR := Lib.hid (show (0, 0, 1) = R by rw [← hR, decLoop, if_pos (by rw [Hlen.out]; exact hkl)])
        clear hR
        generalize accN 4 xs k = q at *
        subst hkl
        go_wp2
        go_quiet (fail)
        all_goals (go_wp2; go_ret3)
        exact ⟨by rw [← HR.out]; rfl, _, World.drewN_drewN _ _ _⟩
      · have hkl2 : k < len := by have := Hlen.out; omega
        have hkl3 : ((k : Int) == len) = false := by simp; omega
        have hq := (Hbd.out k (by omega)).2 (by omega)
        have hcell := Hc.out k hkl2
        have hx2 := byteAt_lt xs k
        have Hf := Lib.hid hf
        generalize hqq : accN 4 xs k = q at *
        have Hq := Lib.hid hqq
        clear hqq hf
        generalize hyy : byteAt xs k = y at *
        have Hy := Lib.hid hyy
        clear hyy
        have HR := Lib.hid hR
        clear hR
        have hp : 0 < len := by omega
        have hp0 : (0 : Int) < len := by omega
        by_cases hk1 : k = 1
        · subst hk1
          have hp1 : (1 : Int) < len := by omega
          have Hok := Lib.hid (okAt_one Hx0.out Hy.out)
          by_cases hs : secondB x0 y = true
          · go_wp2
            go_quiet ((go_at_call 32; exact quiet_add_left (second_any _ _ (by omega) _)))
            go_wp2_with (go_at_call 33; refine (tail_any _ _).mono ?_; rintro e w' ⟨rfl, rfl⟩)
            · have ht : (!tailB y) = true := by assumption
              go_quiet (fail)
              all_goals (go_wp2; go_ret3)
              exact ⟨by rw [← loop_bad (by rw [Hlen.out]; exact hkl2) HR.out (by rw [Hok.out, hs]; simpa using ht)]; rfl, _, World.drewN_drewN _ _ _⟩
            · have ht : (!tailB y) = false := by assumption
              exact ⟨loop_next Hq.out Hy.out (by omega) Hf.out (by rw [Hlen.out]; exact hkl2) HR.out (by rw [Hok.out, hs]; simpa using ht) (by omega), by simp [intOf]⟩
          · have hs' : secondB x0 y = false := by simpa using hs
            clear hs
            go_wp2
            go_quiet ((go_at_call 32; exact quiet_add_left (second_any _ _ (by omega) _)))
            go_wp2
            go_quiet (fail)
            all_goals (go_wp2; go_ret3)
            exact ⟨by rw [← loop_bad (by rw [Hlen.out]; exact hkl2) HR.out (by rw [Hok.out, hs']; rfl)]; rfl, _, (congrArg (fun W : World => W.drewN _) (World.drewN_drewN _ _ _)).trans (World.drewN_drewN _ _ _)⟩
        · have hk3 : ((k : Int) == 1) = false := by simp; omega
          have Hok := Lib.hid (okAt_more hk1 Hy.out)
          go_wp2
          go_quiet (fail)
          go_wp2_with (go_at_call 33; refine (tail_any _ _).mono ?_; rintro e w' ⟨rfl, rfl⟩)
          · have ht : (!tailB y) = true := by assumption
            go_quiet (fail)
            all_goals (go_wp2; go_ret3)
            exact ⟨by rw [← loop_bad (by rw [Hlen.out]; exact hkl2) HR.out (by rw [Hok.out]; simpa using ht)]; rfl, _, World.drewN_drewN _ _ _⟩
          · have ht : (!tailB y) = false := by assumption
            exact ⟨loop_next Hq.out Hy.out (by omega) Hf.out (by rw [Hlen.out]; exact hkl2) HR.out (by rw [Hok.out]; simpa using ht) (by omega), by simp [intOf]; omega⟩
end Go.Proofs.YtjnpfpaigedpbaaDoor
