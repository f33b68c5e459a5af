import Derived.Test.YtjnpfpaigedpbaaDoorA2
namespace Go.Proofs.YtjnpfpaigedpbaaDoor
open Go.RowKit

set_option maxHeartbeats 1000000 in
theorem decode_1 (b o c len : Nat) (w : World) (h2 : 1 ≤ len) (hm : len ≤ 9223372036854775807) (x : Nat) (hx : x < 256)
   (h0 : w.cell? ⟨b, o, none⟩ = some (.int .u8 x)) (U E : Value) (hL : Lens w) (hn : classI x = 1) :
    Calls Tryd.prog 22 #[.slice (some ⟨b, o, none⟩) len c] w fun e w' => Decoded U E w (x, 1, 0) e w' := by
  have Hn := Lib.hid hn
  have HL := Lib.hid hL
  clear hL hn
  have hl0 : ((len : Int) == 0) = false := by simp; omega
  go_enter Tryd.func22, Tryd.ntmps22
  go_wp2_with (go_at_call 10; refine (class_any _ (by omega) _ HL.out).mono ?_; rintro e w' ⟨rfl, rfl⟩; rw [Hn.out])
  go_loopw [6, 7] (fun cc i wr => i = .int .i64 1 ∧ cc = .int .i32 x ∧ w = wr) (fun _ i _ => 1 - (intOf i).toNat)
  case atStart => exact ⟨rfl, rfl, rfl⟩
  case round =>
    obtain ⟨rfl, rfl, rfl⟩ := hrel
    go_wp2
    go_ret3
    exact ⟨rfl, 0, rfl⟩

set_option maxHeartbeats 1000000 in
theorem decode_0 (b o c len : Nat) (w : World) (h2 : 1 ≤ len) (hm : len ≤ 9223372036854775807) (x : Nat) (hx : x < 256)
   (h0 : w.cell? ⟨b, o, none⟩ = some (.int .u8 x)) (U E : Value) (hU : w.cell? ⟨0, 0, none⟩ = some U) (hL : Lens w) (n : Int) (hn1 : n < 1) (hn : classI x = n) :
    Calls Tryd.prog 22 #[.slice (some ⟨b, o, none⟩) len c] w fun e w' => Decoded U E w (0, 0, 2) e w' := by
  have Hn := Lib.hid hn
  have HL := Lib.hid hL
  clear hL hn
  have hl0 : ((len : Int) == 0) = false := by simp; omega
  go_enter Tryd.func22, Tryd.ntmps22
  go_wp2_with (go_at_call 10; refine (class_any _ (by omega) _ HL.out).mono ?_; rintro e w' ⟨rfl, rfl⟩; rw [Hn.out])
  go_quiet (fail)
  all_goals (go_wp2; go_ret3)
  exact ⟨rfl, _, rfl⟩

set_option maxHeartbeats 1000000 in
theorem decode_nil (A : Option Addr) (c : Nat) (w : World) (U E : Value) (hE : w.cell? ⟨1, 0, none⟩ = some E) :
    Calls Tryd.prog 22 #[.slice A 0 c] w fun e w' => Decoded U E w (0, 0, 1) e w' := by
  go_enter Tryd.func22, Tryd.ntmps22
  go_wp2
  go_quiet (fail)
  all_goals (go_wp2; go_ret3)
  exact ⟨rfl, _, rfl⟩

/-- A slice value that reads as these bytes. -/
def Bs (w : World) (v : Value) (xs : List UInt8) : Prop :=
  xs.length ≤ 9223372036854775807 ∧ ∃ A c, v = .slice A xs.length c ∧ xs.length ≤ c ∧ (0 < xs.length → ∃ b o, A = some ⟨b, o, none⟩ ∧ ∀ i, i < xs.length → w.cell? ⟨b, o + i, none⟩ = some (.int .u8 (byteAt xs i)))

/-- A sentinel error. -/
abbrev errS (a : Addr) : Value := .iface 75 (.pointer (some a))
/-- What the package-level variables hold. -/
structure Glob (w : World) (aU aE : Addr) : Prop where
  u : w.cell? ⟨0, 0, none⟩ = some (errS aU)
  e : w.cell? ⟨1, 0, none⟩ = some (errS aE)
  l : Lens w
  hu : ∃ cs t, w.heap[aU.block]? = some (.cells cs t (0, 0))
  he : ∃ cs t, w.heap[aE.block]? = some (.cells cs t (0, 0))
  ne : aU ≠ aE

theorem lt_of_heap {w : World} {k : Nat} {o : Obj} (h : w.heap[k]? = some o) : k < w.heap.size := (Array.getElem?_eq_some_iff.1 h).1
theorem Glob.below {w w' : World} {aU aE : Addr} (h : Glob w aU aE) (hb : Below w.heap.size w w') : Glob w' aU aE := by
  obtain ⟨c1, t1, h1⟩ := h.hu
  obtain ⟨c2, t2, h2⟩ := h.he
  exact ⟨cell_later hb h.u, cell_later hb h.e, fun i hi => cell_later hb (h.l i hi),
    ⟨c1, t1, (hb.block _ (lt_of_heap h1)).trans h1⟩, ⟨c2, t2, (hb.block _ (lt_of_heap h2)).trans h2⟩, h.ne⟩
theorem Glob.drewN {w : World} {aU aE : Addr} (h : Glob w aU aE) (m : Nat) : Glob (w.drewN m) aU aE := ⟨h.u, h.e, h.l, h.hu, h.he, h.ne⟩
theorem Bs.drewN {w : World} {v : Value} {xs : List UInt8} (h : Bs w v xs) (m : Nat) : Bs (w.drewN m) v xs := h
theorem Bs.below {w w' : World} {v : Value} {xs : List UInt8} (h : Bs w v xs) (hb : Below w.heap.size w w') : Bs w' v xs := by
  obtain ⟨hm, A, c, e, hc, hcell⟩ := h
  refine ⟨hm, A, c, e, hc, fun h0 => ?_⟩
  obtain ⟨b, o, e, hcl⟩ := hcell h0
  exact ⟨b, o, e, fun i hi => cell_later hb (hcl i hi)⟩

theorem classI_cases (x : Nat) (hx : x < 256) : classI x < 1 ∨ classI x = 1 ∨ classI x = 2 ∨ classI x = 3 ∨ classI x = 4 := by
  have h : ∀ x : Nat, x < 256 → classI (x : Int) < 1 ∨ classI (x : Int) = 1 ∨ classI (x : Int) = 2 ∨ classI (x : Int) = 3 ∨ classI (x : Int) = 4 := by decide +kernel
  exact h x hx
theorem classI_one (x : Nat) (hx : x < 256) (h : classI x = 1) : x < 128 := by
  have h' : ∀ x : Nat, x < 256 → classI (x : Int) = 1 → x < 128 := by decide +kernel
  exact h' x hx h

theorem dec_nil : dec [] = (0, 0, 1) := rfl
theorem dec_0 {xs : List UInt8} (h : 0 < xs.length) (hc : classI (byteAt xs 0) < 1) : dec xs = (0, 0, 2) := by
  unfold dec; rw [if_neg (by intro e; subst e; simp at h), if_pos hc]
theorem dec_n {xs : List UInt8} {n : Nat} (h : 0 < xs.length) (hn : 1 ≤ n) (hc : classI (byteAt xs 0) = n) : dec xs = decLoop xs n (n - 1) 1 := by
  unfold dec; rw [if_neg (by intro e; subst e; simp at h), if_neg (by omega), hc]; rfl

theorem decode_any {w : World} {v : Value} {aU aE : Addr} {xs : List UInt8} (hb : Bs w v xs) (hg : Glob w aU aE) :
    Calls Tryd.prog 22 #[v] w fun e w' => Decoded (errS aU) (errS aE) w (dec xs) e w' := by
  obtain ⟨hm, A, c, rfl, hc, hcell⟩ := hb
  by_cases h0 : xs.length = 0
  · obtain rfl : xs = [] := List.eq_nil_of_length_eq_zero h0
    exact decode_nil A c w (errS aU) (errS aE) hg.e
  · obtain ⟨b, o, rfl, hcl⟩ := hcell (by omega)
    have hx := byteAt_lt xs 0
    have h1 := hcl 0 (by omega)
    rw [Nat.add_zero] at h1
    rcases classI_cases _ hx with hn | hn | hn | hn | hn
    · rw [dec_0 (by omega) hn]
      exact decode_0 b o c xs.length w (by omega) hm _ hx h1 (errS aU) (errS aE) hg.u hg.l _ hn rfl
    · rw [dec_n (n := 1) (by omega) (by omega) hn]
      have := decode_1 b o c xs.length w (by omega) hm _ hx h1 (errS aU) (errS aE) hg.l hn
      simpa [decLoop, accN, headBits] using this
    · rw [dec_n (n := 2) (by omega) (by omega) hn]
      exact decode_2 b o c xs.length xs w rfl (by omega) hm hcl (errS aU) (errS aE) hg.u hg.e hg.l hn
    · rw [dec_n (n := 3) (by omega) (by omega) hn]
      exact decode_3 b o c xs.length xs w rfl (by omega) hm hcl (errS aU) (errS aE) hg.u hg.e hg.l hn
    · rw [dec_n (n := 4) (by omega) (by omega) hn]
      exact decode_4 b o c xs.length xs w rfl (by omega) hm hcl (errS aU) (errS aE) hg.u hg.e hg.l hn
end Go.Proofs.YtjnpfpaigedpbaaDoor
