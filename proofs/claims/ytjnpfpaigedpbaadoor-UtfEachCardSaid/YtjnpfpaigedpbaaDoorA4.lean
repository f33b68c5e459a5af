import Derived.Test.YtjnpfpaigedpbaaDoorA3
namespace Go.Proofs.YtjnpfpaigedpbaaDoor
open Go.RowKit

def back (xs : List UInt8) : Nat → Nat
  | 0 => 0
  | k + 1 => if decide (xs.length < k + 1 + 4) && tailB (byteAt xs (k + 1)) then back xs k else k + 1
theorem back_le (xs : List UInt8) : ∀ k, back xs k ≤ k
  | 0 => Nat.le_refl _
  | k + 1 => by unfold back; split; exact Nat.le_succ_of_le (back_le xs k); exact Nat.le_refl _
def last (xs : List UInt8) : Nat × Nat × Nat :=
  if xs = [] then (0, 0, 1) else
    let f := back xs (xs.length - 1)
    let r := dec (xs.drop f)
    if r.2.2 = 0 ∧ f + r.2.1 = xs.length then (r.1, r.2.1, 0) else (0, 0, 2)

theorem byteAt_drop (xs : List UInt8) (k i : Nat) : byteAt (xs.drop k) i = byteAt xs (k + i) := by simp [byteAt, List.getElem?_drop]
theorem Bs.cut {w : World} {b o c : Nat} {xs : List UInt8} (h : Bs w (.slice (some ⟨b, o, none⟩) xs.length c) xs) {k : Nat} (hk : k ≤ xs.length) :
    Bs w (.slice (some ⟨b, o + k, none⟩) (xs.length - k) (c - k)) (xs.drop k) := by
  obtain ⟨hm, A, c', e, hc, hcell⟩ := h
  injection e with e1 e2 e3
  subst e1 e3
  refine ⟨by simp; omega, _, _, by rw [List.length_drop], by simp; omega, fun h => ⟨b, o + k, rfl, fun i hi => ?_⟩⟩
  simp at h hi
  obtain ⟨b', o', e, hc'⟩ := hcell (by omega)
  injection e with e; injection e with e e'; subst e e'
  rw [Nat.add_assoc, byteAt_drop]; exact hc' (k + i) (by omega)


theorem back_stop {xs : List UInt8} {k m : Nat} (h : back xs k = back xs m) (hk : ¬ (0 < k ∧ xs.length < k + 4 ∧ tailB (byteAt xs k) = true)) : back xs m = k := by
  rw [← h]
  cases k with
  | zero => rfl
  | succ k =>
    unfold back
    rw [if_neg]
    intro hc
    simp only [Bool.and_eq_true, decide_eq_true_eq] at hc
    exact hk ⟨by omega, hc⟩
theorem back_go {xs : List UInt8} {k m : Nat} (h : back xs k = back xs m) (h0 : 0 < k) (h4 : xs.length < k + 4) (ht : tailB (byteAt xs k) = true) : back xs (k - 1) = back xs m := by
  obtain ⟨j, rfl⟩ : ∃ j, k = j + 1 := ⟨k - 1, by omega⟩
  rw [← h, back, if_pos (by rw [ht]; simpa using h4)]; rfl
theorem last_of {xs : List UInt8} {k : Nat} (h0 : 0 < xs.length) (h : back xs (xs.length - 1) = k) :
    last xs = if (dec (xs.drop k)).2.2 = 0 ∧ k + (dec (xs.drop k)).2.1 = xs.length then ((dec (xs.drop k)).1, (dec (xs.drop k)).2.1, 0) else (0, 0, 2) := by
  unfold last; rw [if_neg (by intro e; subst e; simp at h0)]; simp only [h]
theorem decLoop_bd (xs : List UInt8) (n : Nat) (hn : n ≤ 4) : ∀ f k, (decLoop xs n f k).2.1 ≤ 4 ∧ (decLoop xs n f k).2.2 ≤ 2
  | 0, _ => ⟨hn, by simp [decLoop]⟩
  | f + 1, k => by
    unfold decLoop; split
    · simp
    · split
      · exact decLoop_bd xs n hn f (k + 1)
      · simp
theorem dec_bd (xs : List UInt8) : (dec xs).2.1 ≤ 4 ∧ (dec xs).2.2 ≤ 2 := by
  unfold dec; split
  · simp
  · split
    · simp
    · exact decLoop_bd xs _ (by have := classI_cases _ (byteAt_lt xs 0); omega) _ _
theorem decLoop_le (xs : List UInt8) (n : Nat) : ∀ f k, k + f = n → k ≤ xs.length → (decLoop xs n f k).2.1 ≤ xs.length
  | 0, k, h, hk => by show n ≤ _; omega
  | f + 1, k, h, hk => by
    unfold decLoop; split
    · exact Nat.zero_le _
    · split
      · exact decLoop_le xs n f (k + 1) (by omega) (by omega)
      · exact Nat.zero_le _
theorem dec_le (xs : List UInt8) : (dec xs).2.1 ≤ xs.length := by
  unfold dec; split
  · exact Nat.zero_le _
  · rename_i h0
    split
    · exact Nat.zero_le _
    · have : 0 < xs.length := List.length_pos_iff.2 h0
      exact decLoop_le xs _ _ 1 (by omega) (by omega)
theorem decV_0 (U E : Value) (a b : Nat) : decV U E (a, b, 0) = .tuple #[.int .i32 a, .int .i64 b, .nilIface] := rfl
theorem decV_1 (U E : Value) (a b : Nat) : decV U E (a, b, 1) = .tuple #[.int .i32 a, .int .i64 b, E] := rfl
theorem decV_2 (U E : Value) (a b : Nat) : decV U E (a, b, 2) = .tuple #[.int .i32 a, .int .i64 b, U] := rfl

set_option maxHeartbeats 1000000 in
theorem last_any' (b o c : Nat) (xs : List UInt8) (w : World) (aU aE : Addr) (hb : Bs w (.slice (some ⟨b, o, none⟩) xs.length c) xs) (hg : Glob w aU aE) (h1 : 1 ≤ xs.length)
  (hc : ∀ i, i < xs.length → w.cell? ⟨b, o + i, none⟩ = some (.int .u8 (byteAt xs i))) (hm : xs.length ≤ 9223372036854775807) (hlc : xs.length ≤ c) :
    Calls Tryd.prog 23 #[.slice (some ⟨b, o, none⟩) xs.length c] w fun e w' => Decoded (errS aU) (errS aE) w (last xs) e w' := by
  have Hb := Lib.hid hb
  have Hg := Lib.hid hg
  have hU := hg.u
  have Hc := Lib.hid hc
  clear hb hg hc
  have HL := Lib.hid (fun k => @last_of xs k h1)
  generalize last xs = R at *
  generalize hlen : xs.length = len at *
  have Hlen := Lib.hid hlen
  clear hlen
  have hl0 : ((len : Int) == 0) = false := by simp; omega
  go_enter Tryd.func23, Tryd.ntmps23
  go_wp2
  go_loopw [5] (fun i wr => ∃ k : Nat, k < len ∧ i = .int .i64 k ∧ Hid (back xs k = back xs (len - 1)) ∧ ∃ m, wr = w.drewN m) (fun i _ => (intOf i).toNat)
  case atStart => exact ⟨len - 1, by omega, by go_num, rfl, 0, rfl⟩
  case round =>
    obtain ⟨k, hk, rfl, hbk, m, rfl⟩ := hrel
    have hcell := Hc.out k hk
    generalize hy : byteAt xs k = y at *
    have Hy := Lib.hid hy
    clear hy
    by_cases hgo : 0 < k ∧ len < k + 4 ∧ tailB y = true
    · obtain ⟨h0, h4, ht⟩ := hgo
      have h4' : ((len : Int) - 4) < k := by omega
      go_wp2_with (go_at_call 33; refine (tail_any _ _).mono ?_; rintro e w' ⟨rfl, rfl⟩)
      exact ⟨⟨k - 1, by omega, by go_num, back_go hbk.out h0 (by rw [Hlen.out]; exact h4) (by rw [Hy.out]; exact ht), m, rfl⟩, by simp [intOf]; omega⟩
    · have hst := back_stop hbk.out (by rw [Hlen.out, Hy.out]; exact hgo)
      have HR := Lib.hid (HL.out k hst)
      clear hbk hst
      have hgo' : k = 0 ∨ (0 < k ∧ k + 4 ≤ len) ∨ (0 < k ∧ len < k + 4 ∧ tailB y = false) := by
        by_cases hk0 : k = 0
        · exact .inl hk0
        · by_cases h4 : len < k + 4
          · refine .inr (.inr ⟨by omega, h4, ?_⟩)
            cases ht : tailB y
            · rfl
            · exact absurd ⟨by omega, h4, ht⟩ hgo
          · exact .inr (.inl ⟨by omega, by omega⟩)
      clear hgo
      have hcut : Bs w (.slice (some ⟨b, o + k, none⟩) (len - k) (c - k)) (xs.drop k) := by have h := Hb.out; rw [← Hlen.out] at h ⊢; exact h.cut (by rw [Hlen.out]; omega)
      have Hcut := Lib.hid hcut
      clear hcut
      have hdle : (dec (xs.drop k)).2.1 ≤ len - k := by have := dec_le (xs.drop k); rw [List.length_drop, Hlen.out] at this; exact this
      have Hbd := Lib.hid (show ((dec (xs.drop k)).2.1 ≤ len - k) ∧ (dec (xs.drop k)).2.2 ≤ 2 from ⟨hdle, (dec_bd _).2⟩)
      clear hdle
      have hck : ¬ c = k := by omega
      rcases hgo' with rfl | ⟨h0, h4⟩ | ⟨h0, h4, ht⟩
      · rw [List.drop_zero] at HR Hcut Hbd
        go_wp2_with fail
        refine (decode_any (Hb.out.drewN m) (Hg.out.drewN m)).mono ?_
        generalize dec xs = r at *
        obtain ⟨r1, r2, r3⟩ := r
        have hb2 : r2 ≤ len - 0 := Hbd.out.1
        have hb3 : r3 = 0 ∨ r3 = 1 ∨ r3 = 2 := by have : r3 ≤ 2 := Hbd.out.2; omega
        clear Hbd
        rcases hb3 with rfl | rfl | rfl
        · by_cases he : 0 + r2 = len
          · have HR2 := Lib.hid (show R = (r1, r2, 0) by rw [HR.out, if_pos ⟨rfl, he⟩])
            have hz : ((r2 : Int) == len) = true := by simp; omega
            clear he
            rintro e w' ⟨rfl, m', rfl⟩
            rw [decV_0]
            go_wp2
            go_ret3
            exact ⟨by rw [HR2.out]; rfl, _, by first | rfl | (simp only [World.drewN_drewN]; rfl)⟩
          · have HR2 := Lib.hid (show R = (0, 0, 2) by rw [HR.out, if_neg (fun h => he h.2)])
            have hz : ((r2 : Int) == len) = false := by simp; omega
            clear he
            rintro e w' ⟨rfl, m', rfl⟩
            rw [decV_0]
            go_wp2
            go_quiet (fail)
            all_goals (go_wp2; go_ret3)
            exact ⟨by rw [HR2.out]; rfl, _, by first | rfl | (simp only [World.drewN_drewN]; rfl)⟩
        · have HR2 := Lib.hid (show R = (0, 0, 2) by rw [HR.out, if_neg (fun h => by cases h.1)])
          rintro e w' ⟨rfl, m', rfl⟩
          rw [decV_1]
          go_wp2
          go_quiet (fail)
          all_goals (go_wp2; go_ret3)
          exact ⟨by rw [HR2.out]; rfl, _, by first | rfl | (simp only [World.drewN_drewN]; rfl)⟩
        · have HR2 := Lib.hid (show R = (0, 0, 2) by rw [HR.out, if_neg (fun h => by cases h.1)])
          rintro e w' ⟨rfl, m', rfl⟩
          rw [decV_2]
          go_wp2
          go_quiet (fail)
          all_goals (go_wp2; go_ret3)
          exact ⟨by rw [HR2.out]; rfl, _, by first | rfl | (simp only [World.drewN_drewN]; rfl)⟩
      · have h4' : ¬ ((len : Int) - 4) < k := by omega
        go_wp2_with fail
        refine (decode_any (Hcut.out.drewN m) (Hg.out.drewN m)).mono ?_
        generalize dec (xs.drop k) = r at *
        obtain ⟨r1, r2, r3⟩ := r
        have hb2 : r2 ≤ len - k := Hbd.out.1
        have hb3 : r3 = 0 ∨ r3 = 1 ∨ r3 = 2 := by have : r3 ≤ 2 := Hbd.out.2; omega
        clear Hbd
        rcases hb3 with rfl | rfl | rfl
        · by_cases he : k + r2 = len
          · have HR2 := Lib.hid (show R = (r1, r2, 0) by rw [HR.out, if_pos ⟨rfl, he⟩])
            have hz : ((k : Int) + r2 == len) = true := by simp; omega
            clear he
            rintro e w' ⟨rfl, m', rfl⟩
            rw [decV_0]
            go_wp2
            go_ret3
            exact ⟨by rw [HR2.out]; rfl, _, by first | rfl | (simp only [World.drewN_drewN]; rfl)⟩
          · have HR2 := Lib.hid (show R = (0, 0, 2) by rw [HR.out, if_neg (fun h => he h.2)])
            have hz : ((k : Int) + r2 == len) = false := by simp; omega
            clear he
            rintro e w' ⟨rfl, m', rfl⟩
            rw [decV_0]
            go_wp2
            go_quiet (fail)
            all_goals (go_wp2; go_ret3)
            exact ⟨by rw [HR2.out]; rfl, _, by first | rfl | (simp only [World.drewN_drewN]; rfl)⟩
        · have HR2 := Lib.hid (show R = (0, 0, 2) by rw [HR.out, if_neg (fun h => by cases h.1)])
          rintro e w' ⟨rfl, m', rfl⟩
          rw [decV_1]
          go_wp2
          go_quiet (fail)
          all_goals (go_wp2; go_ret3)
          exact ⟨by rw [HR2.out]; rfl, _, by first | rfl | (simp only [World.drewN_drewN]; rfl)⟩
        · have HR2 := Lib.hid (show R = (0, 0, 2) by rw [HR.out, if_neg (fun h => by cases h.1)])
          rintro e w' ⟨rfl, m', rfl⟩
          rw [decV_2]
          go_wp2
          go_quiet (fail)
          all_goals (go_wp2; go_ret3)
          exact ⟨by rw [HR2.out]; rfl, _, by first | rfl | (simp only [World.drewN_drewN]; rfl)⟩
      · have h4' : ((len : Int) - 4) < k := by omega
        go_wp2_with (go_at_call 33; refine (tail_any _ _).mono ?_; rintro e w' ⟨rfl, rfl⟩)
        refine (decode_any (Hcut.out.drewN m) (Hg.out.drewN m)).mono ?_
        generalize dec (xs.drop k) = r at *
        obtain ⟨r1, r2, r3⟩ := r
        have hb2 : r2 ≤ len - k := Hbd.out.1
        have hb3 : r3 = 0 ∨ r3 = 1 ∨ r3 = 2 := by have : r3 ≤ 2 := Hbd.out.2; omega
        clear Hbd
        rcases hb3 with rfl | rfl | rfl
        · by_cases he : k + r2 = len
          · have HR2 := Lib.hid (show R = (r1, r2, 0) by rw [HR.out, if_pos ⟨rfl, he⟩])
            have hz : ((k : Int) + r2 == len) = true := by simp; omega
            clear he
            rintro e w' ⟨rfl, m', rfl⟩
            rw [decV_0]
            go_wp2
            go_ret3
            exact ⟨by rw [HR2.out]; rfl, _, by first | rfl | (simp only [World.drewN_drewN]; rfl)⟩
          · have HR2 := Lib.hid (show R = (0, 0, 2) by rw [HR.out, if_neg (fun h => he h.2)])
            have hz : ((k : Int) + r2 == len) = false := by simp; omega
            clear he
            rintro e w' ⟨rfl, m', rfl⟩
            rw [decV_0]
            go_wp2
            go_quiet (fail)
            all_goals (go_wp2; go_ret3)
            exact ⟨by rw [HR2.out]; rfl, _, by first | rfl | (simp only [World.drewN_drewN]; rfl)⟩
        · have HR2 := Lib.hid (show R = (0, 0, 2) by rw [HR.out, if_neg (fun h => by cases h.1)])
          rintro e w' ⟨rfl, m', rfl⟩
          rw [decV_1]
          go_wp2
          go_quiet (fail)
          all_goals (go_wp2; go_ret3)
          exact ⟨by rw [HR2.out]; rfl, _, by first | rfl | (simp only [World.drewN_drewN]; rfl)⟩
        · have HR2 := Lib.hid (show R = (0, 0, 2) by rw [HR.out, if_neg (fun h => by cases h.1)])
          rintro e w' ⟨rfl, m', rfl⟩
          rw [decV_2]
          go_wp2
          go_quiet (fail)
          all_goals (go_wp2; go_ret3)
          exact ⟨by rw [HR2.out]; rfl, _, by first | rfl | (simp only [World.drewN_drewN]; rfl)⟩

set_option maxHeartbeats 1000000 in
theorem last_nil (A : Option Addr) (c : Nat) (w : World) (U E : Value) (hE : w.cell? ⟨1, 0, none⟩ = some E) :
    Calls Tryd.prog 23 #[.slice A 0 c] w fun e w' => Decoded U E w (0, 0, 1) e w' := by
  go_enter Tryd.func23, Tryd.ntmps23
  go_wp2
  go_quiet (fail)
  all_goals (go_wp2; go_ret3)
  exact ⟨rfl, _, rfl⟩

theorem last_any {w : World} {v : Value} {aU aE : Addr} {xs : List UInt8} (hb : Bs w v xs) (hg : Glob w aU aE) :
    Calls Tryd.prog 23 #[v] w fun e w' => Decoded (errS aU) (errS aE) w (last xs) e w' := by
  have hb' := hb
  obtain ⟨hm, A, c, rfl, hc, hcell⟩ := hb
  by_cases h0 : xs.length = 0
  · obtain rfl : xs = [] := List.eq_nil_of_length_eq_zero h0
    exact last_nil A c w (errS aU) (errS aE) hg.e
  · obtain ⟨b, o, rfl, hcl⟩ := hcell (by omega)
    exact last_any' b o c xs w aU aE hb' hg (by omega) hcl hm hc
end Go.Proofs.YtjnpfpaigedpbaaDoor
