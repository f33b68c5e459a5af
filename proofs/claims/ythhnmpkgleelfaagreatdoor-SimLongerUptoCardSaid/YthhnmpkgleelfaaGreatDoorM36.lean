import Derived.Test.YthhnmpkgleelfaaGreatDoorM32
import Derived.Shelf.Unicode.DecodeAny
import Derived.Test.YthhnmpkgleelfaaGreatDoorM15
import Derived.Lib.OthersKept
import Derived.LoopN
set_option linter.unusedVariables false
set_option linter.unusedSimpArgs false
namespace Go.Proofs.YthhnmpkgleelfaaGreatDoor
open Go.RowKit Go.Shelf
theorem Fr.low {B g : Nat} {w w' : World} (h : Fr g w w') (hg : B ≤ g) (hB : B ≤ w.heap.size) : Below B w w' := ⟨h.os, h.tape, h.output, h.size, fun k hk => h.block k (Nat.lt_of_lt_of_le hk hB) (fun e => by have := Option.some.inj e; omega)⟩
abbrev rst (s : ByteArray) (k : Nat) : List UInt8 := s.data.toList.drop k
theorem rst_len (s : ByteArray) (k : Nat) : (rst s k).length = s.size - k := by unfold rst; rw [List.length_drop, Array.length_toList]; rfl
theorem rst_drop (s : ByteArray) (k n : Nat) : rst s (k + n) = (rst s k).drop n := by unfold rst; rw [List.drop_drop]
def Rst (s : ByteArray) (B g : Nat) (w : World) (k : Nat) : Prop := B ≤ g ∧ Tb B w ∧ s.size ≤ 2000 ∧ k ≤ s.size ∧ w.heap[g]? = some (.cells #[.string s, .int .i64 k] 109 (0, 0))
section
variable {s : ByteArray} {B g k : Nat} {w w' : World}
theorem Rst.lt (h : Rst s B g w k) : g < w.heap.size := lt_of_heap h.2.2.2.2
theorem Rst.tabs (h : Rst s B g w k) : Tabs w := h.2.1.tabs
theorem Rst.size (h : Rst s B g w k) : s.size ≤ 2000 ∧ k ≤ s.size := ⟨h.2.2.1, h.2.2.2.1⟩
theorem Rst.below (h : Rst s B g w k) (hb : Below w.heap.size w w') : Rst s B g w' k := ⟨h.1, h.2.1.then (hb.mono h.2.1.size), h.2.2.1, h.2.2.2.1, quiet_heap h.2.2.2.2 hb⟩
theorem Rst.cells (h : Rst s B g w k) : w.cell? ⟨g, 0, none⟩ = some (.string s) ∧ w.cell? ⟨g, 1, none⟩ = some (.int .i64 k) ∧ w.frozen? ⟨g, 1, none⟩ = false := ⟨row_cell h.2.2.2.2 (j := 0) rfl, row_cell h.2.2.2.2 (j := 1) rfl, row_frozen h.2.2.2.2 1⟩
theorem Rst.setAt (h : Rst s B g w k) {m : Nat} (hm : m ≤ s.size) : Rst s B g (w.setCell ⟨g, 1, none⟩ (.int .i64 m)) m :=
 ⟨h.1, h.2.1.then ((Fr.set g 1 w _).low h.1 h.2.1.size), h.2.2.1, hm, row_set h.2.2.2.2 1 _⟩
end
def RdP (s : ByteArray) (B g : Nat) (w : World) (k : Nat) (w' : World) : Prop := Rst s B g w' k ∧ Fr g w w'
section
variable {s : ByteArray} {B g k m : Nat} {w w1 w2 : World}
theorem RdP.start (h : Rst s B g w k) : RdP s B g w k w := ⟨h, Fr.refl _ _⟩
theorem RdP.rst (h : RdP s B g w k w1) : Rst s B g w1 k := h.1
theorem RdP.trans (h : RdP s B g w k w1) (h2 : RdP s B g w1 m w2) : RdP s B g w m w2 := ⟨h2.1, h.2.then h2.2⟩
theorem RdP.quiet (h : RdP s B g w k w1) (hb : Below w1.heap.size w1 w2) : RdP s B g w k w2 := ⟨h.1.below hb, h.2.then (Fr.of_below hb)⟩
theorem RdP.setAt (h : RdP s B g w k w1) {m : Nat} (hm : m ≤ s.size) : RdP s B g w m (w1.setCell ⟨g, 1, none⟩ (.int .i64 m)) := ⟨h.1.setAt hm, h.2.then (Fr.set g 1 w1 _)⟩
end
def pkc (t : List UInt8) : Int := if t = [] then 0 else nx t
theorem pkc_of {t : List UInt8} (h : 0 ≤ nx t) : pkc t = nx t := by
 unfold pkc
 split
 ·rename_i h0; rw [h0, nx_nil] at h; omega
 ·rfl
def PkP (t : List UInt8) (w : World) (e : Ending) (w' : World) : Prop := e = .returned (.tuple #[.int .i32 (pkc t), .int .i64 (nl t)]) ∧ Below w.heap.size w w'
def lays197_ren : Go.Shelf.Ren := ⟨fun | 197 => 111 | 260 => 124 | n => n, fun | 9 => 9 | 21 => 21 | 3 => 3 | 4 => 4 | 5 => 5 | 105 => 153 | 119 => 229 | 0 => 0 | 46 => 176 | 139 => 232 | 138 => 231 | n => n, fun | 3 => 4 | 4 => 5 | n => n⟩
theorem lays197 : Go.Proofs.Lays.n197 Tryz.prog lays197_ren := {
 mixed := by kernel_rfl
 f197 := Tryz.func111.trans (congrArg some (by kernel_rfl))
 f260 := Tryz.func124.trans (congrArg some (by kernel_rfl))
 t0 := Tryz.underlying0
 a0 := Tryz.isAgg0
 z0 := Tryz.sizeOf0
 v0 := Tryz.zeroValue0
 t3 := Tryz.underlying3
 a3 := Tryz.isAgg3
 z3 := Tryz.sizeOf3
 v3 := Tryz.zeroValue3
 t4 := Tryz.underlying4
 a4 := Tryz.isAgg4
 z4 := Tryz.sizeOf4
 v4 := Tryz.zeroValue4
 t5 := Tryz.underlying5
 a5 := Tryz.isAgg5
 z5 := Tryz.sizeOf5
 v5 := Tryz.zeroValue5
 t9 := Tryz.underlying9
 a9 := Tryz.isAgg9
 z9 := Tryz.sizeOf9
 v9 := Tryz.zeroValue9
 t21 := Tryz.underlying21
 a21 := Tryz.isAgg21
 z21 := Tryz.sizeOf21
 v21 := Tryz.zeroValue21
 t46 := Tryz.underlying176
 a46 := Tryz.isAgg176
 z46 := Tryz.sizeOf176
 v46 := Tryz.zeroValue176
 t105 := Tryz.underlying153
 a105 := Tryz.isAgg153
 z105 := Tryz.sizeOf153
 v105 := Tryz.zeroValue153
 t119 := Tryz.underlying229
 a119 := Tryz.isAgg229
 z119 := Tryz.sizeOf229
 t138 := Tryz.underlying231
 a138 := Tryz.isAgg231
 z138 := Tryz.sizeOf231
 v138 := Tryz.zeroValue231
 t139 := Tryz.underlying232
 a139 := Tryz.isAgg232
 z139 := Tryz.sizeOf232
 v139 := Tryz.zeroValue232
 g3 := by kernel_rfl
 g4 := by kernel_rfl }
theorem decrune_any {w : World} (s : ByteArray) (k : Nat) (hk : k < s.size) (hn : nx (rst s k) ≠ -2) (hT : Tabs w) : Calls Tryz.prog 111 #[.string (s.extract k s.size)] w fun e w' => e = .returned (.tuple #[.int .i32 (nx (rst s k)), .int .i64 (nl (rst s k))]) ∧ Below w.heap.size w w' := by
 refine (Any.utf8_DecodeRuneInString lays197 (s.extract k s.size) w hT.1).mono ?_
 rintro e w' ⟨rfl, hb⟩
 refine ⟨?_, hb⟩
 have hd : (s.extract k s.size).data.toList = rst s k := Lib.extract_to_end s k
 have hsz : 0 < (s.extract k s.size).size := by
  show 0 < (s.extract k s.size).data.size
  rw [← Array.length_toList, hd, rst_len]; omega
 have h1 := decode_dec (s.extract k s.size) 0 hsz
 rw [List.drop_zero, hd] at h1
 rcases nx_cases (rst s k) with ⟨h0, _⟩ | ⟨_, hd2, h3, h4, _⟩ | ⟨_, _, h3, _⟩
 ·have := rst_len s k; rw [h0] at this; simp at this; omega
 ·rw [if_pos hd2] at h1
  unfold Lib.decodeGo
  rw [if_neg (by omega), h1, h3, h4]
 ·exact absurd h3 hn
theorem rst_nil {s : ByteArray} {k : Nat} (h : k = s.size) : rst s k = [] := List.eq_nil_of_length_eq_zero (by rw [rst_len]; omega)
theorem rst_ne {s : ByteArray} {k : Nat} (h : k < s.size) : rst s k ≠ [] := fun e => by have := rst_len s k; rw [e] at this; simp at this; omega
theorem nl_fffd {t : List UInt8} (h : nx t = 65533) : nl t ≠ 1 := by
 rcases nx_cases t with ⟨_, h1, _⟩ | ⟨_, hd, h1, h2, _⟩ | ⟨_, _, h1, _⟩
 ·omega
 ·have e1 := (dec_frm hd).1
  rw [show (dec t).1 = 65533 by omega] at e1
  rw [frm_fffd] at e1
  have := congrArg List.length e1
  rw [List.length_take] at this
  simp at this
  omega
 ·omega
set_option maxHeartbeats 4000000 in
theorem peek_any {s : ByteArray} {B g k : Nat} {w : World} (h : Rst s B g w k) (hn : nx (rst s k) ≠ -2) : Calls Tryz.prog 102 #[.pointer (some ⟨g, 0, none⟩)] w fun e w' => PkP (rst s k) w e w' := by
 obtain ⟨hsz, hk⟩ := h.size
 obtain ⟨c0, c1, -⟩ := h.cells
 by_cases h0 : k = s.size
 ·subst h0
  have Hp := Lib.hid (show pkc (rst s s.size) = 0 ∧ nl (rst s s.size) = 0 by rw [rst_nil rfl]; exact ⟨rfl, rfl⟩)
  clear h hn
  go_enter Tryz.func102, Tryz.ntmps102
  go_wp2_with fail
  go_quiet (fail)
  go_wp2_with fail
  go_ret2
  refine ⟨?_, blw_drewN (Below.refl _ _) _⟩
  rw [Hp.out.1, Hp.out.2]
  rfl
 ·have hlt : k < s.size := by omega
  have hne : ((k : Int) == s.size) = false := by simpa using (by omega : ¬ (k : Int) = s.size)
  have Hd := Lib.hid (fun (w1 : World) (hT : Tabs w1) => decrune_any s k hlt hn hT)
  have Hp := Lib.hid (show pkc (rst s k) = nx (rst s k) by unfold pkc; rw [if_neg (rst_ne hlt)])
  have Hf := Lib.hid (fun h : nx (rst s k) = 65533 => nl_fffd h)
  have HR := Lib.hid (RdP.start h)
  clear h hn h0
  generalize rst s k = t at *
  go_enter Tryz.func102, Tryz.ntmps102
  go_wp2_with fail
  go_quiet (fail)
  go_wp2_with fail
  generalize hq : World.drewN _ _ = w1
  have Hq := Lib.hid (show Below w.heap.size w w1 by rw [← hq]; exact blw_drewN (Below.refl _ _) _)
  obtain ⟨wq, hwq⟩ : ∃ wq, w1.drew = wq := ⟨_, rfl⟩
  have Hq := Lib.hid (show Below w.heap.size w wq by rw [← hwq]; exact Hq.out.drew)
  have HR := Lib.hid (HR.out.quiet Hq.out)
  have HC := Lib.hid (show wq.cell? ⟨g, 0, none⟩ = some (.string s) ∧ wq.cell? ⟨g, 1, none⟩ = some (.int .i64 k) from ⟨HR.out.rst.cells.1, HR.out.rst.cells.2.1⟩)
  have hki : (k : Int) ≤ s.size := by omega
  clear hq c0 c1
  refine wp_region_noPanic ?_
  refine wp_region_held_drew (S := fun w' => w'.cell? ⟨g, 0, none⟩ = some (.string s) ∧ w'.cell? ⟨g, 1, none⟩ = some (.int .i64 k)) (by kernel_rfl) ((by rw [hwq]; exact HC.out)) (fun hHeld => ?_)
  refine tkH 0 (v := ?v0) (nth rfl) (by kernel_rfl) (by kernel_rfl) (by kernel_rfl) (fun _ _ _ h => h) (by rfl) hHeld ?y0 ?r0
  case y0 => (intro w hSw; (try dsimp only at hSw); go_simp; (try with_reducible rfl))
  try simp only [Act.put, pA, pB, pC]
  refine tkH 1 (v := ?v1) (nth rfl) (by kernel_rfl) (by kernel_rfl) (by kernel_rfl) (fun _ _ _ h => h) (by rfl) hHeld ?y1 ?r1
  case y1 => (intro w hSw; (try dsimp only at hSw); go_simp; (try with_reducible rfl))
  try simp only [Act.put, pA, pB, pC]
  refine tkH 2 (v := ?v2) (nth rfl) (by kernel_rfl) (by kernel_rfl) (by kernel_rfl) (fun _ _ _ h => h) (by rfl) hHeld ?y2 ?r2
  case y2 => (intro w hSw; (try dsimp only at hSw); go_simp; (try with_reducible rfl))
  try simp only [Act.put, pA, pB, pC]
  refine tkH 3 (v := ?v3) (nth rfl) (by kernel_rfl) (by kernel_rfl) (by kernel_rfl) (fun _ _ _ h => h) (by rfl) hHeld ?y3 ?r3
  case y3 => (intro w hSw; (try dsimp only at hSw); go_simp; (try with_reducible rfl))
  try simp only [Act.put, pA, pB, pC]
  refine tkH 4 (v := ?v4) (nth rfl) (by kernel_rfl) (by kernel_rfl) (by kernel_rfl) (fun _ _ _ h => h) (by rfl) hHeld ?y4 ?r4
  case y4 => (intro w hSw; (try dsimp only at hSw); go_simp; (try with_reducible rfl))
  try simp only [Act.put, pA, pB, pC]
  refine tkH 5 (v := ?v5) (nth rfl) (by kernel_rfl) (by kernel_rfl) (by kernel_rfl) (fun _ _ _ h => h) (by rfl) hHeld ?y5 ?r5
  case y5 => (intro w hSw; (try dsimp only at hSw); go_simp; (try with_reducible rfl))
  try simp only [Act.put, pA, pB, pC]
  refine tkH 6 (v := ?v6) (nth rfl) (by kernel_rfl) (by kernel_rfl) (by kernel_rfl) (fun _ _ _ h => h) (by rfl) hHeld ?y6 ?r6
  case y6 => (intro w hSw; (try dsimp only at hSw); go_simp; (try with_reducible rfl))
  try simp only [Act.put, pA, pB, pC]
  refine tkH 7 (v := ?v7) (nth rfl) (by kernel_rfl) (by kernel_rfl) (by kernel_rfl) (fun _ _ _ h => h) (by rfl) hHeld ?y7 ?r7
  case y7 => (intro w hSw; (try dsimp only at hSw); go_simp; (try with_reducible rfl))
  try simp only [Act.put, pA, pB, pC]
  refine tkH 8 (v := ?v8) (nth rfl) (by kernel_rfl) (by kernel_rfl) (by kernel_rfl) (fun _ _ _ h => h) (by rfl) hHeld ?y8 ?r8
  case y8 => (intro w hSw; (try dsimp only at hSw); go_simp; (try with_reducible rfl))
  try simp only [Act.put, pA, pB, pC]
  refine wpAnyH_ready (rs := [9]) (by kernel_rfl) (by simp) ?_
  refine AllReadyH.cons (nth rfl) (fun K hK => ?_) AllReadyH.nil
  go_simp
  clear hwq; (with_reducible refine (Hd.out wq HR.out.rst.tabs).mono ?_); rintro e wn ⟨rfl, hb⟩; have Hb := Lib.hid (Hq.out.trans (hb.mono Hq.out.size)); go_simp
  refine hK.out _ _ (⟨cell_later hb HC.out.1, cell_later hb HC.out.2⟩) (fun hHeld => ?_)
  clear hK K
  try simp only [Act.put, pA, pB, pC]
  refine tkH 10 (v := ?v9) (nth rfl) (by kernel_rfl) (by kernel_rfl) (by kernel_rfl) (fun _ _ _ h => h) (by rfl) hHeld ?y9 ?r9
  case y9 => (intro w hSw; (try dsimp only at hSw); go_simp; (try with_reducible rfl))
  try simp only [Act.put, pA, pB, pC]
  refine tkH 11 (v := ?va) (nth rfl) (by kernel_rfl) (by kernel_rfl) (by kernel_rfl) (fun _ _ _ h => h) (by rfl) hHeld ?ya ?ra
  case ya => (intro w hSw; (try dsimp only at hSw); go_simp; (try with_reducible rfl))
  try simp only [Act.put, pA, pB, pC]
  refine tkH 12 (v := ?vb) (nth rfl) (by kernel_rfl) (by kernel_rfl) (by kernel_rfl) (fun _ _ _ h => h) (by rfl) hHeld ?yb ?rb
  case yb => (intro w hSw; (try dsimp only at hSw); go_simp; (try with_reducible rfl))
  try simp only [Act.put, pA, pB, pC]
  refine tkH 13 (v := ?vc) (nth rfl) (by kernel_rfl) (by kernel_rfl) (by kernel_rfl) (fun _ _ _ h => h) (by rfl) hHeld ?yc ?rc
  case yc => (intro w hSw; (try dsimp only at hSw); go_simp; (try with_reducible rfl))
  try simp only [Act.put, pA, pB, pC]
  refine tkH 14 (v := ?vd) (nth rfl) (by kernel_rfl) (by kernel_rfl) (by kernel_rfl) (fun _ _ _ h => h) (by rfl) hHeld ?yd ?rd
  case yd => (intro w hSw; (try dsimp only at hSw); go_simp; (try with_reducible rfl))
  try simp only [Act.put, pA, pB, pC]
  refine wpAnyH_done (by kernel_rfl) (NoPanic.normal ?_) _
  clear hHeld
  by_cases hf : nx t = 65533
  ·have hn1 := Hf.out hf
   have hn2 : ((nl t : Int) == 1) = false := by simpa using (by omega : ¬ (nl t : Int) = 1)
   have hf1 : (nx t == 65533) = true := by simpa using hf
   have Hh := Lib.hid hf
   clear hf hn1
   go_wp2_with fail
   go_ret2
   rw [PkP, Hp.out]
   exact ⟨rfl, Hb.out⟩
  ·have hf1 : (nx t == 65533) = false := by simpa using hf
   clear hf
   go_wp2_with fail
   go_ret2
   rw [PkP, Hp.out]
   exact ⟨rfl, Hb.out⟩
def IqP (q : Bool) (s : ByteArray) (B g : Nat) (w : World) (k : Nat) (e : Ending) (w' : World) : Prop := e = .returned (.bool q) ∧ RdP s B g w k w'
def CqP (c : Int) (s : ByteArray) (B g : Nat) (w : World) (k : Nat) (e : Ending) (w' : World) : Prop := e = .returned (.int .i32 c) ∧ RdP s B g w k w'
theorem rst_nl {s : ByteArray} {k : Nat} (hk : k ≤ s.size) : k + nl (rst s k) ≤ s.size := by
 have h1 := nl_le (rst s k)
 have h2 := rst_len s k
 omega
theorem RdP.setNat {s : ByteArray} {B g k m : Nat} {w w1 : World} {z : Int} (h : RdP s B g w k w1) (hz : z = (m : Nat)) (hm : m ≤ s.size) : RdP s B g w m (w1.setCell ⟨g, 1, none⟩ (.int .i64 z)) := by
 subst hz; exact h.setAt hm
set_option maxHeartbeats 2000000 in
theorem is_yes {s : ByteArray} {B g k : Nat} {w : World} {c : Int} (h : Rst s B g w k) (hc : nx (rst s k) = c) (h0 : 0 ≤ c) : Calls Tryz.prog 90 #[.pointer (some ⟨g, 0, none⟩), .int .i32 c] w fun e w' => IqP true s B g w (k + nl (rst s k)) e w' := by
 obtain ⟨hsz, hk⟩ := h.size
 have hle := rst_nl hk
 have Hpk := Lib.hid (peek_any h (by omega))
 have hp := nl_pos (xs := rst s k) (by omega)
 have Hp := Lib.hid (show pkc (rst s k) = c by rw [pkc_of (by omega), hc])
 have HR := Lib.hid (RdP.start h)
 have hne : ((nl (rst s k) : Int) == 0) = false := by simpa using (by omega : ¬ (nl (rst s k) : Int) = 0)
 clear h hc
 generalize rst s k = t at *
 go_enter Tryz.func90, Tryz.ntmps90
 go_wp2_with fail
 (with_reducible refine Hpk.out.mono ?_)
 rintro e w1 ⟨rfl, hb⟩
 rw [Hp.out]
 have HR1 := Lib.hid (HR.out.quiet hb)
 obtain ⟨-, c1, f1⟩ := HR1.out.rst.cells
 clear hb
 go_wp2_with fail
 go_ret
 exact ⟨rfl, HR1.out.setNat (by omega) hle⟩
set_option maxHeartbeats 2000000 in
theorem is_no {s : ByteArray} {B g k : Nat} {w : World} {c : Int} (h : Rst s B g w k) (hn : nx (rst s k) ≠ -2) (hc : nx (rst s k) ≠ c) : Calls Tryz.prog 90 #[.pointer (some ⟨g, 0, none⟩), .int .i32 c] w fun e w' => IqP false s B g w k e w' := by
 have Hpk := Lib.hid (peek_any h hn)
 have HR := Lib.hid (RdP.start h)
 rcases nx_cases (rst s k) with ⟨h0, h1, h2⟩ | ⟨h0, hd, h1, h2, hr⟩ | ⟨_, _, h1, _⟩
 ·clear h hc hn
  generalize rst s k = t at *
  subst h0
  go_enter Tryz.func90, Tryz.ntmps90
  go_wp2_with fail
  (with_reducible refine Hpk.out.mono ?_)
  rintro e w1 ⟨rfl, hb⟩
  rw [show nl [] = 0 from rfl]
  have HR1 := Lib.hid (HR.out.quiet hb)
  clear hb
  go_wp2_with fail
  go_ret
  exact ⟨rfl, HR1.out⟩
 ·have hp := nl_pos (xs := rst s k) (isR_pos hr)
  have Hp := Lib.hid (show pkc (rst s k) = nx (rst s k) from pkc_of (isR_pos hr))
  have hne : ((nl (rst s k) : Int) == 0) = false := by simpa using (by omega : ¬ (nl (rst s k) : Int) = 0)
  have hnc : (nx (rst s k) != c) = true := by simpa using hc
  clear h hc hn h0 hd h1 h2 hr hp
  generalize rst s k = t at *
  go_enter Tryz.func90, Tryz.ntmps90
  go_wp2_with fail
  (with_reducible refine Hpk.out.mono ?_)
  rintro e w1 ⟨rfl, hb⟩
  rw [Hp.out]
  have HR1 := Lib.hid (HR.out.quiet hb)
  clear hb
  go_wp2_with fail
  go_ret
  exact ⟨rfl, HR1.out⟩
 ·exact absurd h1 hn
set_option maxHeartbeats 2000000 in
theorem pnext_any {s : ByteArray} {B g k : Nat} {w : World} (h : Rst s B g w k) (h0 : 0 ≤ nx (rst s k)) : Calls Tryz.prog 125 #[.pointer (some ⟨g, 0, none⟩)] w fun e w' => CqP (nx (rst s k)) s B g w (k + nl (rst s k)) e w' := by
 obtain ⟨hsz, hk⟩ := h.size
 have hle := rst_nl hk
 have Hpk := Lib.hid (peek_any h (by omega))
 have hp := nl_pos h0
 have Hp := Lib.hid (pkc_of h0)
 have HR := Lib.hid (RdP.start h)
 have hne : ((nl (rst s k) : Int) == 0) = false := by simpa using (by omega : ¬ (nl (rst s k) : Int) = 0)
 clear h
 generalize rst s k = t at *
 go_enter Tryz.func125, Tryz.ntmps125
 go_wp2_with fail
 (with_reducible refine Hpk.out.mono ?_)
 rintro e w1 ⟨rfl, hb⟩
 rw [Hp.out]
 have HR1 := Lib.hid (HR.out.quiet hb)
 obtain ⟨-, c1, f1⟩ := HR1.out.rst.cells
 clear hb
 go_wp2_with fail
 go_ret
 exact ⟨rfl, HR1.out.setNat (by omega) hle⟩
def ancB (c : Int) : Bool := decide (c = 94) || decide (c = 36)
set_option maxHeartbeats 2000000 in
theorem anchor_any {s : ByteArray} {B g k : Nat} {w : World} (h : Rst s B g w k) (hn : nx (rst s k) ≠ -2) : Calls Tryz.prog 112 #[.pointer (some ⟨g, 0, none⟩)] w fun e w' => IqP (ancB (nx (rst s k))) s B g w k e w' := by
 have Hpk := Lib.hid (peek_any h hn)
 have HR := Lib.hid (RdP.start h)
 have hv : (nx (rst s k) = 94 ∧ pkc (rst s k) = 94) ∨ (nx (rst s k) = 36 ∧ pkc (rst s k) = 36) ∨ (ancB (nx (rst s k)) = false ∧ (pkc (rst s k) == 94) = false ∧ (pkc (rst s k) == 36) = false) := by
  unfold pkc ancB
  split
  ·rename_i h0; rw [h0]; exact .inr (.inr ⟨by decide, by decide, by decide⟩)
  ·by_cases h1 : nx (rst s k) = 94
   ·exact .inl ⟨h1, h1⟩
   ·by_cases h2 : nx (rst s k) = 36
    ·exact .inr (.inl ⟨h2, h2⟩)
    ·exact .inr (.inr ⟨by simp [h1, h2], by simpa using h1, by simpa using h2⟩)
 have hq : ∀ q, ancB (nx (rst s k)) = q → (∀ e w', IqP q s B g w k e w' → IqP (ancB (nx (rst s k))) s B g w k e w') := fun q h => by rw [h]; exact fun _ _ x => x
 clear h hn
 generalize rst s k = t at *
 rcases hv with ⟨h1, h2⟩ | ⟨h1, h2⟩ | ⟨h1, h2, h3⟩
 ·rw [h1]
  have Hp := Lib.hid h2
  clear h1 h2 hq
  go_enter Tryz.func112, Tryz.ntmps112
  go_wp2_with fail
  (with_reducible refine Hpk.out.mono ?_)
  rintro e w1 ⟨rfl, hb⟩
  rw [Hp.out]
  have HR1 := Lib.hid (HR.out.quiet hb)
  clear hb
  go_wp2_with fail
  go_ret
  exact ⟨rfl, HR1.out⟩
 ·rw [h1]
  have Hp := Lib.hid h2
  clear h1 h2 hq
  go_enter Tryz.func112, Tryz.ntmps112
  go_wp2_with fail
  (with_reducible refine Hpk.out.mono ?_)
  rintro e w1 ⟨rfl, hb⟩
  rw [Hp.out]
  have HR1 := Lib.hid (HR.out.quiet hb)
  clear hb
  go_wp2_with fail
  go_ret
  exact ⟨rfl, HR1.out⟩
 ·rw [h1]
  clear h1 hq
  go_enter Tryz.func112, Tryz.ntmps112
  go_wp2_with fail
  (with_reducible refine Hpk.out.mono ?_)
  rintro e w1 ⟨rfl, hb⟩
  have HR1 := Lib.hid (HR.out.quiet hb)
  clear hb
  go_wp2_with fail
  go_ret
  exact ⟨rfl, HR1.out⟩
theorem rst_cons {s : ByteArray} {k : Nat} {b : UInt8} {t : List UInt8} (h : rst s k = b :: t) : rst s (k + 1) = t ∧ k < s.size := by
 refine ⟨by rw [rst_drop, h]; rfl, ?_⟩
 have := rst_len s k
 rw [h] at this
 simp at this
 omega
set_option maxHeartbeats 2000000 in
theorem pdigit_any (b : UInt8) (w : World) (h : 0 ≤ hexv b) : Calls Tryz.prog 178 #[.int .i32 (b.toNat : Nat)] w fun e w' => e = .returned (.int .i32 (hexv b)) ∧ w' = w := by
 obtain ⟨n, hn⟩ : ∃ n, b.toNat = n := ⟨_, rfl⟩
 have hv : (hexv b = (n : Int) - 48 ∧ 48 ≤ n ∧ n ≤ 57) ∨ (hexv b = (n : Int) - 87 ∧ 97 ≤ n ∧ n ≤ 102) ∨ (hexv b = (n : Int) - 55 ∧ 65 ≤ n ∧ n ≤ 70) := by
  unfold hexv at h ⊢
  rw [hn] at h ⊢
  split
  ·rename_i h1; exact .inl ⟨rfl, h1⟩
  ·rename_i h1
   rw [if_neg h1] at h
   split
   ·rename_i h2; exact .inr (.inl ⟨rfl, h2⟩)
   ·rename_i h2
    rw [if_neg h2] at h
    split
    ·rename_i h3; exact .inr (.inr ⟨rfl, h3⟩)
    ·rename_i h3; rw [if_neg h3] at h; omega
 rw [hn]
 obtain ⟨z, hz⟩ : ∃ z : Int, z = (n : Nat) := ⟨_, rfl⟩
 rw [← hz]
 rcases hv with ⟨e, h1, h2⟩ | ⟨e, h1, h2⟩ | ⟨e, h1, h2⟩
 ·have E := Lib.hid (show hexv b = z - 48 by rw [e, hz])
  have k1 : 48 ≤ z := by omega
  have k2 : z ≤ 57 := by omega
  clear e hz h h1 h2 hn
  go_enter Tryz.func178, Tryz.ntmps178
  go_wp2_with fail
  go_ret
  rw [E.out]
  exact ⟨rfl, rfl⟩
 ·have E := Lib.hid (show hexv b = z - 97 + 10 by rw [e, hz]; omega)
  have k1 : 97 ≤ z := by omega
  have k2 : z ≤ 102 := by omega
  clear e hz h h1 h2 hn
  go_enter Tryz.func178, Tryz.ntmps178
  go_wp2_with fail
  go_ret
  rw [E.out]
  exact ⟨rfl, rfl⟩
 ·have E := Lib.hid (show hexv b = z - 65 + 10 by rw [e, hz]; omega)
  have k1 : 65 ≤ z := by omega
  have k2 : z ≤ 70 := by omega
  clear e hz h h1 h2 hn
  go_enter Tryz.func178, Tryz.ntmps178
  go_wp2_with fail
  go_ret
  rw [E.out]
  exact ⟨rfl, rfl⟩
theorem hexv_bd (b : UInt8) : hexv b ≤ 15 := by unfold hexv; split; (· omega); split; (· omega); split <;> omega
theorem hexv_lit {b : UInt8} (h : 0 ≤ hexv b) : b.toNat < 128 := by
 unfold hexv at h
 split at h
 ·omega
 ·split at h
  ·omega
  ·split at h
   ·omega
   ·omega
def FoRel (s : ByteArray) (B g : Nat) (w : World) (k : Nat) (a b c : Int) (X : Int) (s9 s10 : Value) (wr : World) : Prop :=
 (s10 = .int .i64 3 ∧ s9 = .int .i32 0 ∧ RdP s B g w k wr) ∨ (s10 = .int .i64 2 ∧ s9 = .int .i32 a ∧ RdP s B g w (k + 1) wr) ∨ (s10 = .int .i64 1 ∧ s9 = .int .i32 b ∧ RdP s B g w (k + 2) wr) ∨ (s10 = .int .i64 0 ∧ s9 = .int .i32 c ∧ RdP s B g w (k + 3) wr) ∨ (s10 = .int .i64 (-1) ∧ s9 = .int .i32 X ∧ RdP s B g w (k + 4) wr)
theorem peek_lit {s : ByteArray} {B g k : Nat} {w : World} {b : UInt8} {t : List UInt8} (h : Rst s B g w k) (hr : rst s k = b :: t) (hb : b.toNat < 128) : Calls Tryz.prog 102 #[.pointer (some ⟨g, 0, none⟩)] w fun e w' => e = .returned (.tuple #[.int .i32 (b.toNat : Nat), .int .i64 1]) ∧ Below w.heap.size w w' := by
 obtain ⟨h1, h2⟩ := nx_ascii b t hb
 refine (peek_any h (by rw [hr, h1]; omega)).mono ?_
 rintro e w' ⟨rfl, hb⟩
 rw [hr, pkc_of (by omega), h1, h2]
 exact ⟨rfl, hb⟩
set_option maxHeartbeats 8000000 in
set_option maxRecDepth 100000 in
theorem pfour_any {s : ByteArray} {B g k : Nat} {w : World} {a b c d : UInt8} {t : List UInt8} (h : Rst s B g w k) (hr : rst s k = a :: b :: c :: d :: t) (hx : allHex a b c d) {lo mid hi : Int} (l0 : 0 ≤ lo) (l1 : lo ≤ 65536) (m0 : 0 ≤ mid) (m1 : mid ≤ 65536) (i0 : 0 ≤ hi) (i1 : hi ≤ 65536) (hc : (lo ≤ four a b c d ∧ four a b c d ≤ mid) ∨ hi ≤ four a b c d) : Calls Tryz.prog 169 #[.pointer (some ⟨g, 0, none⟩), .int .i32 lo, .int .i32 mid, .int .i32 hi] w fun e w' => CqP (four a b c d) s B g w (k + 4) e w' := by
 obtain ⟨ha, hb, hcc, hd⟩ := hx
 obtain ⟨r1, q0⟩ := rst_cons hr
 obtain ⟨r2, q1⟩ := rst_cons r1
 obtain ⟨r3, q2⟩ := rst_cons r2
 obtain ⟨r4, q3⟩ := rst_cons r3
 have Hd0 := Lib.hid (fun w => pdigit_any a w ha)
 have Hd1 := Lib.hid (fun w => pdigit_any b w hb)
 have Hd2 := Lib.hid (fun w => pdigit_any c w hcc)
 have Hd3 := Lib.hid (fun w => pdigit_any d w hd)
 have Hp0 := Lib.hid (fun (w : World) (h : Rst s B g w k) => peek_lit h hr (hexv_lit ha))
 have Hp1 := Lib.hid (fun (w : World) (h : Rst s B g w (k + 1)) => peek_lit h r1 (hexv_lit hb))
 have Hp2 := Lib.hid (fun (w : World) (h : Rst s B g w (k + 2)) => peek_lit h r2 (hexv_lit hcc))
 have Hp3 := Lib.hid (fun (w : World) (h : Rst s B g w (k + 3)) => peek_lit h r3 (hexv_lit hd))
 obtain ⟨hsz, hk⟩ := h.size
 have HR := Lib.hid (RdP.start h)
 have b1 := hexv_bd a
 have b2 := hexv_bd b
 have b3 := hexv_bd c
 have b4 := hexv_bd d
 have hf : four a b c d = ((hexv a * 16 + hexv b) * 16 + hexv c) * 16 + hexv d := rfl
 rw [hf] at hc ⊢
 clear h hr r1 r2 r3 r4 hf
 generalize hexv a = va at *
 generalize hexv b = vb at *
 generalize hexv c = vc at *
 generalize hexv d = vd at *
 have x1 : max va 0 = va := by omega
 have x2 : max vb 0 = vb := by omega
 have x3 : max vc 0 = vc := by omega
 have x4 : max vd 0 = vd := by omega
 go_enter Tryz.func169, Tryz.ntmps169
 go_wp2_with fail
 go_loopw [9, 10] (fun s9 s10 wr => FoRel s B g w k va (va * 16 + vb) ((va * 16 + vb) * 16 + vc) (((va * 16 + vb) * 16 + vc) * 16 + vd) s9 s10 wr) (fun _ v _ => (intOf v + 1).toNat)
 case atStart => exact .inl ⟨rfl, rfl, HR.out⟩
 case round =>
  rcases hrel with ⟨rfl, rfl, hm⟩ | ⟨rfl, rfl, hm⟩ | ⟨rfl, rfl, hm⟩ | ⟨rfl, rfl, hm⟩ | ⟨rfl, rfl, hm⟩
  ·have Hm := Lib.hid hm
   clear hm
   have hq : (va * 4096 ≤ mid ∧ lo ≤ va * 4096 + 4096 - 1) ∨ hi ≤ va * 4096 + 4096 - 1 := by omega
   have Hc := Lib.hid hc
   clear hc
   rcases hq with ⟨hq1, hq2⟩ | hq
   all_goals
    go_wp2_with fail
    (with_reducible refine (Hp0.out wr Hm.out.rst).mono ?_)
    rintro e w2 ⟨rfl, hb2⟩
    have Hm2 := Lib.hid (Hm.out.quiet hb2)
    obtain ⟨-, c1, f1⟩ := Hm2.out.rst.cells
    clear hb2
    go_wp2_with fail
    (with_reducible refine (Hd0.out w2).mono ?_)
    rintro e w3 ⟨rfl, rfl⟩
    go_wp2_with fail
    all_goals exact ⟨.inr (.inl ⟨rfl, rfl, Hm2.out.setNat (by omega) (by omega)⟩), by simp [intOf]⟩
  ·have Hm := Lib.hid hm
   clear hm
   have hq : ((va * 16 + vb) * 256 ≤ mid ∧ lo ≤ (va * 16 + vb) * 256 + 256 - 1) ∨ hi ≤ (va * 16 + vb) * 256 + 256 - 1 := by omega
   have Hc := Lib.hid hc
   clear hc
   rcases hq with ⟨hq1, hq2⟩ | hq
   all_goals
    go_wp2_with fail
    (with_reducible refine (Hp1.out wr Hm.out.rst).mono ?_)
    rintro e w2 ⟨rfl, hb2⟩
    have Hm2 := Lib.hid (Hm.out.quiet hb2)
    obtain ⟨-, c1, f1⟩ := Hm2.out.rst.cells
    clear hb2
    go_wp2_with fail
    (with_reducible refine (Hd1.out w2).mono ?_)
    rintro e w3 ⟨rfl, rfl⟩
    go_wp2_with fail
    all_goals exact ⟨.inr (.inr (.inl ⟨rfl, rfl, Hm2.out.setNat (by omega) (by omega)⟩)), by simp [intOf]⟩
  ·have Hm := Lib.hid hm
   clear hm
   have hq : (((va * 16 + vb) * 16 + vc) * 16 ≤ mid ∧ lo ≤ ((va * 16 + vb) * 16 + vc) * 16 + 16 - 1) ∨ hi ≤ ((va * 16 + vb) * 16 + vc) * 16 + 16 - 1 := by omega
   have Hc := Lib.hid hc
   clear hc
   rcases hq with ⟨hq1, hq2⟩ | hq
   all_goals
    go_wp2_with fail
    (with_reducible refine (Hp2.out wr Hm.out.rst).mono ?_)
    rintro e w2 ⟨rfl, hb2⟩
    have Hm2 := Lib.hid (Hm.out.quiet hb2)
    obtain ⟨-, c1, f1⟩ := Hm2.out.rst.cells
    clear hb2
    go_wp2_with fail
    (with_reducible refine (Hd2.out w2).mono ?_)
    rintro e w3 ⟨rfl, rfl⟩
    go_wp2_with fail
    all_goals exact ⟨.inr (.inr (.inr (.inl ⟨rfl, rfl, Hm2.out.setNat (by omega) (by omega)⟩))), by simp [intOf]⟩
  ·have Hm := Lib.hid hm
   clear hm
   have hq : (((va * 16 + vb) * 16 + vc) * 16 + vd ≤ mid ∧ lo ≤ ((va * 16 + vb) * 16 + vc) * 16 + vd) ∨ hi ≤ ((va * 16 + vb) * 16 + vc) * 16 + vd := by omega
   have Hc := Lib.hid hc
   clear hc
   rcases hq with ⟨hq1, hq2⟩ | hq
   all_goals
    go_wp2_with fail
    (with_reducible refine (Hp3.out wr Hm.out.rst).mono ?_)
    rintro e w2 ⟨rfl, hb2⟩
    have Hm2 := Lib.hid (Hm.out.quiet hb2)
    obtain ⟨-, c1, f1⟩ := Hm2.out.rst.cells
    clear hb2
    go_wp2_with fail
    (with_reducible refine (Hd3.out w2).mono ?_)
    rintro e w3 ⟨rfl, rfl⟩
    go_wp2_with fail
    all_goals exact ⟨.inr (.inr (.inr (.inr ⟨rfl, rfl, Hm2.out.setNat (by omega) (by omega)⟩))), by simp [intOf]⟩
  ·have Hm := Lib.hid hm
   clear hm
   go_wp2_with fail
   go_ret
   exact ⟨rfl, Hm.out⟩
def Pos (s : ByteArray) (B g : Nat) (w : World) (t : List UInt8) : Prop := ∃ k, rst s k = t ∧ Rst s B g w k
def PdP (s : ByteArray) (B g : Nat) (w : World) (t : List UInt8) (w' : World) : Prop := Pos s B g w' t ∧ Fr g w w'
section
variable {s : ByteArray} {B g : Nat} {w w1 w2 : World} {t u : List UInt8}
theorem Pos.below (h : Pos s B g w t) (hb : Below w.heap.size w w1) : Pos s B g w1 t := by
 obtain ⟨k, hk, h⟩ := h
 exact ⟨k, hk, h.below hb⟩
theorem Pos.lt (h : Pos s B g w t) : g < w.heap.size := by obtain ⟨k, _, h⟩ := h; exact h.lt
theorem Pos.tabs (h : Pos s B g w t) : Tabs w := by obtain ⟨k, _, h⟩ := h; exact h.tabs
theorem Pos.heap (h : Pos s B g w t) : ∃ cs, w.heap[g]? = some (.cells cs 109 (0, 0)) := by obtain ⟨k, _, h⟩ := h; exact ⟨_, h.2.2.2.2⟩
theorem PdP.start (h : Pos s B g w t) : PdP s B g w t w := ⟨h, Fr.refl _ _⟩
theorem PdP.pos (h : PdP s B g w t w1) : Pos s B g w1 t := h.1
theorem PdP.trans (h : PdP s B g w t w1) (h2 : PdP s B g w1 u w2) : PdP s B g w u w2 := ⟨h2.1, h.2.then h2.2⟩
theorem PdP.quiet (h : PdP s B g w t w1) (hb : Below w1.heap.size w1 w2) : PdP s B g w t w2 := ⟨h.1.below hb, h.2.then (Fr.of_below hb)⟩
theorem PdP.of {k : Nat} (h : RdP s B g w k w1) (hk : rst s k = t) : PdP s B g w t w1 := ⟨⟨k, hk, h.1⟩, h.2⟩
theorem PdP.size (h : PdP s B g w t w1) : w.heap.size ≤ w1.heap.size := h.2.size
end
def BoP (q : Bool) (s : ByteArray) (B g : Nat) (w : World) (t : List UInt8) (e : Ending) (w' : World) : Prop := e = .returned (.bool q) ∧ PdP s B g w t w'
def CcP (c : Int) (s : ByteArray) (B g : Nat) (w : World) (t : List UInt8) (e : Ending) (w' : World) : Prop := e = .returned (.int .i32 c) ∧ PdP s B g w t w'
section
variable {s : ByteArray} {B g : Nat} {w : World} {t : List UInt8}
theorem qpeek (h : Pos s B g w t) (hn : nx t ≠ -2) : Calls Tryz.prog 102 #[.pointer (some ⟨g, 0, none⟩)] w fun e w' => PkP t w e w' := by
 obtain ⟨k, rfl, h⟩ := h
 exact peek_any h hn
theorem qis {b : UInt8} {c : Int} (h : Pos s B g w (b :: t)) (hb : b.toNat < 128) (hc : ((b.toNat : Nat) : Int) = c) : Calls Tryz.prog 90 #[.pointer (some ⟨g, 0, none⟩), .int .i32 c] w fun e w' => BoP true s B g w t e w' := by
 obtain ⟨k, hk, h⟩ := h
 obtain ⟨h1, h2⟩ := nx_ascii b t hb
 subst hc
 refine (is_yes h (c := (b.toNat : Nat)) (by rw [hk, h1]) (Int.natCast_nonneg _)).mono ?_
 rintro e w' ⟨rfl, hr⟩
 exact ⟨rfl, PdP.of hr (by rw [rst_drop, hk, h2]; rfl)⟩
theorem qisn {c : Int} (h : Pos s B g w t) (hn : nx t ≠ -2) (hc : nx t ≠ c) : Calls Tryz.prog 90 #[.pointer (some ⟨g, 0, none⟩), .int .i32 c] w fun e w' => BoP false s B g w t e w' := by
 obtain ⟨k, rfl, h⟩ := h
 refine (is_no h hn hc).mono ?_
 rintro e w' ⟨rfl, hr⟩
 exact ⟨rfl, PdP.of hr rfl⟩
theorem qnext (h : Pos s B g w t) (h0 : 0 ≤ nx t) : Calls Tryz.prog 125 #[.pointer (some ⟨g, 0, none⟩)] w fun e w' => CcP (nx t) s B g w (t.drop (nl t)) e w' := by
 obtain ⟨k, rfl, h⟩ := h
 refine (pnext_any h h0).mono ?_
 rintro e w' ⟨rfl, hr⟩
 exact ⟨rfl, PdP.of hr (rst_drop _ _ _)⟩
theorem qnextl {b : UInt8} (c : Int) (h : Pos s B g w (b :: t)) (hb : b.toNat < 128) (hc : ((b.toNat : Nat) : Int) = c) : Calls Tryz.prog 125 #[.pointer (some ⟨g, 0, none⟩)] w fun e w' => CcP c s B g w t e w' := by
 subst hc
 obtain ⟨h1, h2⟩ := nx_ascii b t hb
 refine (qnext h (by rw [h1]; exact Int.natCast_nonneg _)).mono ?_
 rintro e w' ⟨rfl, hr⟩
 rw [h1, h2] at *
 exact ⟨rfl, hr⟩
theorem qanchor (h : Pos s B g w t) (hn : nx t ≠ -2) : Calls Tryz.prog 112 #[.pointer (some ⟨g, 0, none⟩)] w fun e w' => BoP (ancB (nx t)) s B g w t e w' := by
 obtain ⟨k, rfl, h⟩ := h
 refine (anchor_any h hn).mono ?_
 rintro e w' ⟨rfl, hr⟩
 exact ⟨rfl, PdP.of hr rfl⟩
theorem qfour {a b c d : UInt8} (h : Pos s B g w (a :: b :: c :: d :: t)) (hx : allHex a b c d) {lo mid hi : Int} (l0 : 0 ≤ lo) (l1 : lo ≤ 65536) (m0 : 0 ≤ mid) (m1 : mid ≤ 65536) (i0 : 0 ≤ hi) (i1 : hi ≤ 65536) (hc : (lo ≤ four a b c d ∧ four a b c d ≤ mid) ∨ hi ≤ four a b c d) : Calls Tryz.prog 169 #[.pointer (some ⟨g, 0, none⟩), .int .i32 lo, .int .i32 mid, .int .i32 hi] w fun e w' => CcP (four a b c d) s B g w t e w' := by
 obtain ⟨k, hk, h⟩ := h
 refine (pfour_any h hk hx l0 l1 m0 m1 i0 i1 hc).mono ?_
 rintro e w' ⟨rfl, hr⟩
 exact ⟨rfl, PdP.of hr (by rw [rst_drop, hk]; rfl)⟩
end
abbrev slU : ByteArray := { data := #[92, 117] }
theorem PdP.iter {s u : ByteArray} {B g j p q : Nat} {w w1 : World} {t : List UInt8} (h : PdP s B g w t w1) (hj : w1.heap[j]? = some (.stringIter u p)) (hs : w.heap.size ≤ j) (hg : g < w.heap.size) : PdP s B g w t (w1.iterAt j u q) ∧ (w1.iterAt j u q).heap[j]? = some (.stringIter u q) := by
 have hne : g ≠ j := by omega
 obtain ⟨⟨k, hk, h1, h2, h3, h4, h5⟩, h6⟩ := h
 refine ⟨⟨⟨k, hk, h1, ?_, h3, h4, ?_⟩, ?_⟩, Lib.iterAt_heap w1 j u p q hj⟩
 ·obtain ⟨w0, e0, e1, e2⟩ := h2
  exact ⟨w0, e0, e1, Lib.below_iterAt e2 (by omega) u q⟩
 ·rw [Lib.iterAt_other w1 j g u q hne]; exact h5
 ·exact ⟨h6.os, h6.tape, h6.output, by rw [Lib.iterAt_size]; exact h6.size, fun i hi hig => (Lib.iterAt_other w1 j i u q (by omega)).trans (h6.block i hi hig)⟩
def UnRel (s : ByteArray) (B g j : Nat) (w : World) (t : List UInt8) (wr : World) : Prop :=
 (PdP s B g w (92 :: 117 :: t) wr ∧ wr.heap[j]? = some (.stringIter slU 0)) ∨ (PdP s B g w (117 :: t) wr ∧ wr.heap[j]? = some (.stringIter slU 1)) ∨ (PdP s B g w t wr ∧ wr.heap[j]? = some (.stringIter slU 2))
theorem iterPos_of {w : World} {j p : Nat} {u : ByteArray} (h : w.heap[j]? = some (.stringIter u p)) : w.iterPos j = p := by
 unfold World.iterPos; rw [h]
set_option maxHeartbeats 4000000 in
theorem punicode_one {s : ByteArray} {B g : Nat} {w : World} {a b c d : UInt8} {t : List UInt8} (h : Pos s B g w (a :: b :: c :: d :: t)) (hx : allHex a b c d) (hc : four a b c d < 55296 ∨ 57344 ≤ four a b c d) : Calls Tryz.prog 156 #[.pointer (some ⟨g, 0, none⟩)] w fun e w' => CcP (four a b c d) s B g w t e w' := by
 have h0 : 0 ≤ four a b c d := by obtain ⟨x1, x2, x3, x4⟩ := hx; unfold four; omega
 have Hf := Lib.hid (qfour (lo := 0) (mid := 56319) (hi := 57344) h hx (by decide) (by decide) (by decide) (by decide) (by decide) (by decide) (by omega))
 clear h hx
 generalize four a b c d = X at *
 rcases hc with hc | hc
 ·go_enter Tryz.func156, Tryz.ntmps156
  go_wp2_with fail
  (with_reducible refine Hf.out.mono ?_)
  rintro e w1 ⟨rfl, h1⟩
  have H1 := Lib.hid h1
  clear h1
  go_wp2_with fail
  go_ret
  exact ⟨rfl, H1.out⟩
 ·have n1 : ¬ X < 55296 := by omega
  have n2 : 56319 < X := by omega
  go_enter Tryz.func156, Tryz.ntmps156
  go_wp2_with fail
  (with_reducible refine Hf.out.mono ?_)
  rintro e w1 ⟨rfl, h1⟩
  have H1 := Lib.hid h1
  clear h1
  go_wp2_with fail
  go_ret
  exact ⟨rfl, H1.out⟩
set_option maxHeartbeats 4000000 in
theorem punicode_two {s : ByteArray} {B g : Nat} {w : World} {a b c d a' b' c' d' : UInt8} {t : List UInt8} (h : Pos s B g w (a :: b :: c :: d :: 92 :: 117 :: a' :: b' :: c' :: d' :: t)) (hx : allHex a b c d) (hc : 55296 ≤ four a b c d ∧ four a b c d < 56320) (hx' : allHex a' b' c' d') (hc' : 56320 ≤ four a' b' c' d' ∧ four a' b' c' d' < 57344) : Calls Tryz.prog 156 #[.pointer (some ⟨g, 0, none⟩)] w fun e w' => CcP (65536 + (four a b c d - 55296) * 1024 + four a' b' c' d' - 56320) s B g w t e w' := by
 obtain ⟨c1, c2⟩ := hc
 obtain ⟨c3, c4⟩ := hc'
 have hg := h.lt
 have Hf := Lib.hid (qfour (lo := 0) (mid := 56319) (hi := 57344) h hx (by decide) (by decide) (by decide) (by decide) (by decide) (by decide) (by omega))
 have Hf2 := Lib.hid (fun (w1 : World) (h1 : Pos s B g w1 (a' :: b' :: c' :: d' :: t)) => qfour (lo := 56320) (mid := 57343) (hi := 65536) h1 hx' (by decide) (by decide) (by decide) (by decide) (by decide) (by decide) (by omega))
 clear h hx hx'
 generalize four a b c d = X at *
 generalize four a' b' c' d' = Y at *
 obtain ⟨u, hu⟩ : ∃ u, a' :: b' :: c' :: d' :: t = u := ⟨_, rfl⟩
 rw [hu] at Hf Hf2
 clear hu
 go_enter Tryz.func156, Tryz.ntmps156
 go_wp2_with fail
 (with_reducible refine Hf.out.mono ?_)
 rintro e w1 ⟨rfl, h1⟩
 have H1 := Lib.hid (h1.quiet (alloc_below w1 (.stringIter slU 0)))
 have Hi := Lib.hid (heap_alloc_new w1 (.stringIter slU 0))
 have hs1 := h1.size
 clear h1
 go_wp2_with fail
 generalize w1.heap.size = j at *
 go_loopw [5] (fun _ wr => UnRel s B g j w u wr) (fun _ wr => 2 - wr.iterPos j)
 case atStart => exact .inl ⟨H1.out, Hi.out⟩
 case round =>
  rcases hrel with ⟨hp, hi⟩ | ⟨hp, hi⟩ | ⟨hp, hi⟩
  ·have Hp := Lib.hid hp
   have Hi2 := Lib.hid hi
   have hnx : ∀ ty, (Instr.next (.pointer (some ⟨j, 0, none⟩)) true ty).run Tryz.prog wr = .ok (.tuple #[.bool true, .int .i64 0, .int .i32 92]) (wr.iterAt j slU 1) := fun ty => Lib.run_next_ascii_at wr j slU 0 ty hi (by decide) (by decide)
   obtain ⟨hq, hj⟩ := hp.iter (q := 1) hi hs1 hg
   have Hq := Lib.hid hq
   have Hj := Lib.hid hj
   clear hp hi hq hj
   go_wp2_with fail
   (with_reducible refine (qis (b := 92) Hq.out.pos (by decide) (by decide)).mono ?_)
   rintro e w3 ⟨rfl, h3⟩
   have Hj3 := Lib.hid ((h3.2.block j (lt_of_heap Hj.out) (fun e => by have := Option.some.inj e; omega)).trans Hj.out)
   have H3 := Lib.hid (Hq.out.trans h3)
   clear h3
   go_wp2_with fail
   exact ⟨.inr (.inl ⟨H3.out, Hj3.out⟩), by rw [iterPos_of Hj3.out, iterPos_of Hi2.out]; decide⟩
  ·have Hp := Lib.hid hp
   have Hi2 := Lib.hid hi
   have hnx : ∀ ty, (Instr.next (.pointer (some ⟨j, 0, none⟩)) true ty).run Tryz.prog wr = .ok (.tuple #[.bool true, .int .i64 1, .int .i32 117]) (wr.iterAt j slU 2) := fun ty => Lib.run_next_ascii_at wr j slU 1 ty hi (by decide) (by decide)
   obtain ⟨hq, hj⟩ := hp.iter (q := 2) hi hs1 hg
   have Hq := Lib.hid hq
   have Hj := Lib.hid hj
   clear hp hi hq hj
   go_wp2_with fail
   (with_reducible refine (qis (b := 117) Hq.out.pos (by decide) (by decide)).mono ?_)
   rintro e w3 ⟨rfl, h3⟩
   have Hj3 := Lib.hid ((h3.2.block j (lt_of_heap Hj.out) (fun e => by have := Option.some.inj e; omega)).trans Hj.out)
   have H3 := Lib.hid (Hq.out.trans h3)
   clear h3
   go_wp2_with fail
   exact ⟨.inr (.inr ⟨H3.out, Hj3.out⟩), by rw [iterPos_of Hj3.out, iterPos_of Hi2.out]; decide⟩
  ·have Hp := Lib.hid hp
   have hnx : ∀ ty, (Instr.next (.pointer (some ⟨j, 0, none⟩)) true ty).run Tryz.prog wr = .ok (.tuple #[.bool false]) wr := fun ty => Lib.run_next_end_at wr j slU 2 ty hi (by decide)
   clear hp hi
   go_wp2_with fail
   (with_reducible refine (Hf2.out wr Hp.out.pos).mono ?_)
   rintro e w3 ⟨rfl, h3⟩
   have H3 := Lib.hid (Hp.out.trans h3)
   clear h3
   go_wp2_with fail
   go_ret
   exact ⟨rfl, H3.out⟩
end Go.Proofs.YthhnmpkgleelfaaGreatDoor
