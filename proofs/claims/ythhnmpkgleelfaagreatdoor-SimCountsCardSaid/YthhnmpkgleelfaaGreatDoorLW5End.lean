/- The tied card of wicketlaw12.SimCounts is proved: whatever the string and the list of strings, the call returns true, and they read afterwards as before. Condition: the listed package-level variables read as their text lays them (the card ties them). -/
import Derived.Test.YthhnmpkgleelfaaGreatDoorL1
import Derived.Test.YthhnmpkgleelfaaGreatDoorRows
import Derived.WalkKit
import Derived.WalkSpells
import Derived.WalkLawsBesides
import Derived.Deep.QuietTactic
import Derived.BigQuiet
import Derived.Lib.Hide
import Derived.IntWalk
import Derived.Test.YthhnmpkgleelfaaGreatDoorL22
import Derived.Test.YthhnmpkgleelfaaGreatDoorL21
import Derived.Test.YthhnmpkgleelfaaGreatDoorL20
import Derived.Test.YthhnmpkgleelfaaGreatDoorL19
import Derived.Test.YthhnmpkgleelfaaGreatDoorL18
import Derived.Test.YthhnmpkgleelfaaGreatDoorL17
import Derived.Test.YthhnmpkgleelfaaGreatDoorL16
import Derived.Test.YthhnmpkgleelfaaGreatDoorL12
import Derived.Test.YthhnmpkgleelfaaGreatDoorL11
import Derived.Test.YthhnmpkgleelfaaGreatDoorL10
import Derived.Test.YthhnmpkgleelfaaGreatDoorL9
import Derived.Test.YthhnmpkgleelfaaGreatDoorL8
import Derived.Test.YthhnmpkgleelfaaGreatDoorL3
import Derived.Test.YthhnmpkgleelfaaGreatDoorL2
import Derived.Test.YthhnmpkgleelfaaGreatDoorL4
import Derived.Test.YthhnmpkgleelfaaGreatDoorL15
import Derived.Test.YthhnmpkgleelfaaGreatDoorL13
import Derived.Test.YthhnmpkgleelfaaGreatDoorL14
import Derived.Test.YthhnmpkgleelfaaGreatDoorL26
import Derived.Test.YthhnmpkgleelfaaGreatDoorL25
import Derived.Test.YthhnmpkgleelfaaGreatDoorL24
import Derived.Test.YthhnmpkgleelfaaGreatDoorL23
import Derived.Test.YthhnmpkgleelfaaGreatDoorL6
import Derived.Test.YthhnmpkgleelfaaGreatDoorL5
import Derived.Test.YthhnmpkgleelfaaGreatDoorL37
import Derived.Test.YthhnmpkgleelfaaGreatDoorL36
import Derived.Test.YthhnmpkgleelfaaGreatDoorL35
import Derived.Test.YthhnmpkgleelfaaGreatDoorL34
import Derived.Test.YthhnmpkgleelfaaGreatDoorL33
import Derived.Test.YthhnmpkgleelfaaGreatDoorL32
import Derived.Test.YthhnmpkgleelfaaGreatDoorL31
import Derived.Test.YthhnmpkgleelfaaGreatDoorL29
import Derived.Test.YthhnmpkgleelfaaGreatDoorL28
import Derived.Test.YthhnmpkgleelfaaGreatDoorL27
import Derived.Test.YthhnmpkgleelfaaGreatDoorL30
import Derived.Test.YthhnmpkgleelfaaGreatDoorL7
import Derived.Test.YthhnmpkgleelfaaGreatDoorL44
import Derived.Test.YthhnmpkgleelfaaGreatDoorL43
import Derived.Test.YthhnmpkgleelfaaGreatDoorL42
import Derived.Test.YthhnmpkgleelfaaGreatDoorL41
import Derived.Test.YthhnmpkgleelfaaGreatDoorL40
import Derived.Test.YthhnmpkgleelfaaGreatDoorL39
import Derived.Test.YthhnmpkgleelfaaGreatDoorL38
import Derived.Test.YthhnmpkgleelfaaGreatDoorL45
import Derived.Deep.Strs
import Derived.Deep.OwnShut
set_option linter.unusedVariables false
set_option linter.unusedSimpArgs false
namespace Go.Proofs.YthhnmpkgleelfaaGreatDoor
open Go.RowKit
theorem ret_bool {a b : Bool} (h : a = b) : Ending.returned (.bool a) = .returned (.bool b) := by rw [h]
def ChP (w : World) (s : ByteArray) (e : Ending) (w' : World) : Prop := e = .returned (.int .i64 (runes badR s.data.toList).length) ∧ Below w.heap.size w w'
theorem refchars_any (w : World) (s : ByteArray) (hs : s.size ≤ 10000000) : Calls Tryz.prog 41 #[.string s] w fun e w' => ChP w s e w' := by
 go_enter Tryz.func41, Tryz.ntmps41
 go_wp2_with fail
 (with_reducible refine (refrunes_any w s hs).mono ?_)
 rintro e w2 ⟨A, n, q, rfl, hb, hr⟩
 obtain rfl : n = (runes badR s.data.toList).length := by obtain ⟨_, _, e, _⟩ := ownsRow_slice hr; exact (Value.slice.inj e).2.1
 have Hb := Lib.hid hb
 have Hr := Lib.hid hr
 clear hb hr
 go_wp2_with fail
 go_ret
 exact ⟨rfl, Hb.out⟩
set_option maxHeartbeats 4000000 in
theorem list_any {w : World} {v : Value} {y : List Bool} (hy : Fls w 0 v y) (hl : y.length ≤ 1000000) : Calls Tryz.prog 40 #[v] w fun e w' => IntsP w (idx 0 y) e w' := by
 obtain ⟨A, q, rfl, hA⟩ := hy.form
 have H := Lib.hid hy
 have HA := Lib.hid hA
 clear hy hA
 go_enter Tryz.func40, Tryz.ntmps40
 go_wp2_with fail
 go_loopw [3, 4] (fun s3 s4 wr => LiRel w y s3 s4 wr) (fun _ v _ => y.length - (intOf v).toNat)
 case atStart => exact ⟨0, [], none, 0, Nat.zero_le _, rfl, rfl, Below.refl _ _, ⟨rfl, .inl ⟨rfl, rfl⟩⟩, rfl, Nat.le_refl _⟩
 case round =>
  obtain ⟨k, pre, A3, q3, hk, rfl, rfl, hb, ho, he, hp⟩ := hrel
  have Hb := Lib.hid hb
  have Ho := Lib.hid ho
  have He := Lib.hid he
  have hbs := hb.size
  by_cases hlt : k < y.length
  ·obtain ⟨g, rfl⟩ := HA.out (by omega)
   obtain ⟨b, hbk⟩ : ∃ b, y[k]? = some b := ⟨_, List.getElem?_eq_getElem hlt⟩
   have c1 := (H.out.below hb).cell hbk
   have Hd := Lib.hid (drop_at hbk)
   have hki : (k : Int) < y.length := by omega
   clear hb ho he hbk
   cases b
   ·have Hst := Lib.hid (show idx 0 y = pre ++ idx (k + 1) (y.drop (k + 1)) by rw [He.out, Hd.out]; rfl)
    go_wp2_with fail
    exact ⟨⟨k + 1, pre, A3, q3, by omega, rfl, by go_num, Hb.out, Ho.out, Hst.out, by omega⟩, by simp [intOf]; omega⟩
   ·have Hst := Lib.hid (show idx 0 y = (pre ++ [(k : Int)]) ++ idx (k + 1) (y.drop (k + 1)) by rw [He.out, Hd.out, List.append_assoc]; rfl)
    have Hoa := Lib.hid (ownsRow_below Ho.out (alloc_below wr (.cells #[.int .i64 (k : Int)] 3)) (Nat.le_refl _))
    have Hcn := Lib.hid (cells_new wr [intV k] 3)
    go_wp2_with (at_builtin; refine wpList_append_k elInt rfl (.tmp 15) (.tmp 17) rfl w.heap.size (.slice A3 pre.length q3) pre.length wr.heap.size 1 1 (pre.map intV) [intV k] (by simp [Act.eval]) Hoa.out (by simp [Act.eval]) rfl Hcn.out (by simp [intV, Value.oneCell']) (by unfold maxLen; omega) (by omega) (by simp; omega) ?_; intro v' w5 h1 h2 h3; have Hp := Lib.hid h1; have Hg := Lib.hid h2; clear h1 h2 h3)
    obtain ⟨A5, q5, rfl, -, -, -⟩ := ownsRow_slice Hp.out
    have hb2 : Below w.heap.size w (wr.alloc (.cells #[.int .i64 (k : Int)] 3)) := Hb.out.alloc hbs _
    refine ⟨⟨k + 1, pre ++ [(k : Int)], A5, q5, by omega, by simp, by go_num, own_below hb2 Hoa.out hb2.size Hg.out, ?_, Hst.out, by simp; omega⟩, by simp [intOf]; omega⟩
    unfold Ints
    rw [List.length_append, List.map_append]
    exact Hp.out
  ·obtain rfl : k = y.length := by omega
   have Hst := Lib.hid (show idx 0 y = pre by rw [He.out, List.drop_length]; simp [idx])
   clear hb ho he
   go_wp2_with fail
   go_ret
   rw [Hst.out]
   exact ⟨A3, q3, rfl, Hb.out, Ho.out⟩
def EndsP (s : List Int) (r : Rx) (w : World) (e : Ending) (w' : World) : Prop := ∃ y : List Bool, y.length = s.length + 1 ∧ (∀ j, y[j]? = some true ↔ ∃ i, i ≤ s.length ∧ Mt s r i j) ∧ IntsP w (idx 0 y) e w'
set_option maxHeartbeats 4000000 in
theorem ends_any {w : World} {v : Value} {r : Rx} {s : ByteArray} (hr : r.ok) (h1 : XRow w 0 v (r.flat 0)) (h3 : r.size ≤ 100000) (hs : s.size ≤ 100000) : Calls Tryz.prog 15 #[v, .string s] w fun e w' => EndsP (runes badR s.data.toList) r w e w' := by
 obtain ⟨Av, qv, rfl, -⟩ := h1.form
 have H1 := Lib.hid h1
 have Hr := Lib.hid hr
 have hrl : (runes badR s.data.toList).length ≤ 100000 := by
  have h9 := runes_len badR _ s.data.toList (Nat.le_refl _)
  have : s.data.toList.length = s.size := by rw [Array.length_toList]; rfl
  omega
 clear h1 hr
 go_enter Tryz.func15, Tryz.ntmps15
 go_wp2_with fail
 (with_reducible refine (refrunes_any w s (by omega)).mono ?_)
 rintro e w2 ⟨A2, n2, q2, rfl, hb2, hr2⟩
 have Hb2 := Lib.hid hb2
 have Hr2 := Lib.hid (hr2.low (Nat.zero_le _))
 clear hb2 hr2
 go_wp2_with fail
 (with_reducible refine (flags_any Hr.out (H1.out.below Hb2.out) h3 Hr2.out hrl).mono ?_)
 rintro e w3 ⟨y, A3, q3, rfl, hb3, hy, hyl, hm⟩
 have Hb3 := Lib.hid (Hb2.out.trans (hb3.mono Hb2.out.size))
 have Hy := Lib.hid hy
 have Hm := Lib.hid (And.intro hyl hm)
 clear hb3 hy hm hyl
 go_wp2_with fail
 (with_reducible refine (list_any Hy.out (by have := Hm.out.1; omega)).mono ?_)
 rintro e w4 ⟨A4, q4, rfl, hb4, ho4⟩
 have Hb4 := Lib.hid (Hb3.out.trans (hb4.mono Hb3.out.size))
 have Ho4 : Hid (Ints w4 w.heap.size (.slice A4 (idx 0 y).length q4) (idx 0 y)) := Lib.hid (ownsRow_low ho4 Hb3.out.size)
 clear hb4 ho4
 go_wp2_with fail
 go_ret
 exact ⟨y, Hm.out.1, Hm.out.2, A4, q4, rfl, Hb4.out, Ho4.out⟩
def MatchP (s : List Int) (r : Rx) (w : World) (e : Ending) (w' : World) : Prop := ∃ y : List Bool, y.length = s.length + 1 ∧ (∀ j, y[j]? = some true ↔ ∃ i, i ≤ s.length ∧ Mt s r i j) ∧ e = .returned (.tuple #[.bool (decide (0 < (idx 0 y).length)), .int .i64 (statesF r * ((s.length : Int) + 1))]) ∧ Below w.heap.size w w'
set_option maxHeartbeats 4000000 in
theorem matches_any {w : World} {v : Value} {r : Rx} {s : ByteArray} (hr : r.ok) (h1 : XRow w 0 v (r.flat 0)) (h3 : r.size ≤ 100000) (hs : s.size ≤ 100000) (hst : statesF r ≤ 100000) : Calls Tryz.prog 17 #[v, .string s] w fun e w' => MatchP (runes badR s.data.toList) r w e w' := by
 obtain ⟨Av, qv, rfl, -⟩ := h1.form
 have H1 := Lib.hid h1
 have Hr := Lib.hid hr
 have hrl : (runes badR s.data.toList).length ≤ 100000 := by
  have h9 := runes_len badR _ s.data.toList (Nat.le_refl _)
  have : s.data.toList.length = s.size := by rw [Array.length_toList]; rfl
  omega
 have hs0 : 0 ≤ statesF r := (adS_bd (needF_bd r hr).1 (by omega)).1
 clear h1 hr
 go_enter Tryz.func17, Tryz.ntmps17
 go_wp2_with fail
 (with_reducible refine (ends_any Hr.out H1.out h3 hs).mono ?_)
 rintro e w2 ⟨y, hyl, hm, A2, q2, rfl, hb2, -⟩
 have Hb2 := Lib.hid hb2
 have Hm := Lib.hid (And.intro hyl hm)
 have hil := idx_len y 0
 have hil2 : (idx 0 y).length ≤ 100001 := by omega
 clear hb2 hyl hm hil
 go_wp2_with fail
 (with_reducible refine (rstates_any (H1.out.below Hb2.out) Hr.out h3).mono ?_)
 rintro e w3 ⟨rfl, hb3⟩
 have Hb3 := Lib.hid (Hb2.out.trans (hb3.mono Hb2.out.size))
 clear hb3
 go_wp2_with fail
 (with_reducible refine (refchars_any w3 s (by omega)).mono ?_)
 rintro e w4 ⟨rfl, hb4⟩
 have Hb4 := Lib.hid (Hb3.out.trans (hb4.mono Hb3.out.size))
 clear hb4
 obtain ⟨n, hn⟩ : ∃ n, (runes badR s.data.toList).length = n := ⟨_, rfl⟩
 obtain ⟨k, hk⟩ : ∃ k, statesF r = k := ⟨_, rfl⟩
 rw [hn] at hrl ⊢
 rw [hk] at hs0 hst ⊢
 have hw1 : IntKind.i64.wrap ((n : Int) + 1) = (n : Int) + 1 := IntWalk.i64_in _ (by omega)
 have hp1 : k * ((n : Int) + 1) ≤ 100000 * 100001 := Int.mul_le_mul hst (by omega) (by omega) (by omega)
 have hp2 : 0 ≤ k * ((n : Int) + 1) := Int.mul_nonneg hs0 (by omega)
 have hw2 : IntKind.i64.wrap (k * ((n : Int) + 1)) = k * ((n : Int) + 1) := IntWalk.i64_in _ (by omega)
 have Hn := Lib.hid hn
 have Hk := Lib.hid hk
 clear hn hk hp1 hp2
 go_wp2_with fail
 go_ret2
 refine ⟨y, Hm.out.1, Hm.out.2, ?_, Hb4.out⟩
 rw [Hn.out, Hk.out]
 congr 4
end Go.Proofs.YthhnmpkgleelfaaGreatDoor
namespace Go.Proofs.YthhnmpkgleelfaaGreatDoor
open Go.RowKit Go.Shelf
theorem str_beq (a b : ByteArray) : (a.toList == b.toList) = decide (a = b) := by
 rw [Bool.eq_iff_iff, beq_iff_eq, decide_eq_true_iff, ByteArray.toList_eq, ByteArray.toList_eq]
 refine ⟨fun h => ?_, fun h => by rw [h]⟩
 cases a; cases b; simp at h; simp [h]
def BoolP (w : World) (b : Bool) (e : Ending) (w' : World) : Prop := e = .returned (.bool b) ∧ Below w.heap.size w w'
def strV (s : ByteArray) : Value := .string s
def Strs (w : World) (base : Nat) (v : Value) (l : List ByteArray) : Prop := w.ownsRow base 9 1 v l.length (l.map strV)
theorem Strs.below {w w' : World} {base : Nat} {v : Value} {l : List ByteArray} (h : Strs w base v l) (hb : Below w.heap.size w w') : Strs w' base v l := ownsRow_below h hb (Nat.le_refl _)
theorem elStr : ElemK 56 9 (.string ByteArray.empty) 1 16 := ⟨Tryz.underlying56, by kernel_rfl, rfl, by decide⟩
def TextsP (w : World) (l : List ByteArray) (e : Ending) (w' : World) : Prop := ∃ v', e = .returned v' ∧ Below w.heap.size w w' ∧ Strs w' w.heap.size v' l
def TextsRel (w0 : World) (l : List ByteArray) (s3 s4 : Value) (wr : World) : Prop := ∃ k : Nat, k ≤ l.length ∧ s4 = .int .i64 k ∧ Below w0.heap.size w0 wr ∧ Strs wr w0.heap.size s3 (l.take k)
set_option maxHeartbeats 1000000 in
theorem texts_any {w : World} {v : Value} {l : List ByteArray} (hv : Sl w v (l.map strV)) (hl : l.length ≤ 1000000) : Calls Tryz.prog 32 #[v] w fun e w' => TextsP w l e w' := by
 obtain ⟨hm, A, cap, rfl, hc, hA⟩ := id hv
 rw [List.length_map] at hm hc hA ⊢
 obtain ⟨cur, hcur, hmk⟩ := run_make_k elStr l.length (by unfold maxLen; omega) (by omega)
 have HA := Lib.hid hA
 have Hcur := Lib.hid hcur
 clear hv hA hcur
 go_enter Tryz.func32, Tryz.ntmps32
 go_wp2_with fail
 go_loopw [3, 4] (TextsRel w l) (fun _ i _ => l.length - (intOf i).toNat)
 case atStart =>
  exact ⟨0, by omega, rfl, alloc_below _ _, by rw [List.take_zero]; exact ownsRow_made (heap_alloc_new _ _) (Nat.le_refl _) (by unfold maxLen; omega) Hcur.out⟩
 case round =>
  obtain ⟨k, hk, rfl, hb, ho⟩ := hrel
  have Hb := Lib.hid hb
  have Ho := Lib.hid ho
  have hsz := hb.size
  clear hb ho
  by_cases hlt : k < l.length
  ·obtain ⟨g, o, rfl, hcl⟩ := HA.out (by omega)
   obtain ⟨s, hs⟩ : ∃ s, l[k]? = some s := ⟨_, List.getElem?_eq_getElem hlt⟩
   have hcell := cell_later Hb.out (hcl k (strV s) (by rw [List.getElem?_map, hs]; rfl))
   unfold strV at hcell
   have Hs := Lib.hid (show l.take (k + 1) = l.take k ++ [s] by rw [List.take_add_one, hs]; rfl)
   have hlk : (l.take k).length = k := by rw [List.length_take]; omega
   have Hlk := Lib.hid hlk
   clear hs hlk hcl
   go_wp2_with (at_builtin; refine wpList_append_k elStr rfl (.tmp 14) (.tmp 19) rfl w.heap.size u3 k wr.heap.size 1 1 ((l.take k).map strV) [strV s] (by simp [Act.eval]) (by have := Ho.out.below (alloc_below wr (.cells #[.string s] 9)); unfold Strs at this; rw [Hlk.out] at this; exact this) (by simp [Act.eval]) rfl (cells_new wr [strV s] 9) (by simp [strV, Value.oneCell']) (by unfold maxLen; omega) (by omega) (by simp; omega) ?_; intro v' w1 h1 h2 h3; have Hp := Lib.hid h1; have Hg := Lib.hid h2; clear h1 h2 h3)
   have hb2 : Below w.heap.size w (wr.alloc (.cells #[.string s] 9)) := Hb.out.alloc hsz _
   exact ⟨⟨k + 1, by omega, by go_num, own_below hb2 (Ho.out.below (alloc_below wr (.cells #[.string s] 9))) hb2.size Hg.out, by rw [Hs.out]; unfold Strs; rw [List.length_append, Hlk.out, List.map_append]; exact Hp.out⟩, by simp [intOf]; omega⟩
  ·obtain rfl : k = l.length := by omega
   go_wp2
   go_ret
   exact ⟨_, rfl, Hb.out, by have := Ho.out; rwa [List.take_length] at this⟩
def SameRel (w : World) {α : Type} (l m : List α) (s5 : Value) (wr : World) : Prop := ∃ k : Nat, k ≤ l.length ∧ s5 = .int .i64 k ∧ (∃ j, wr = w.drewN j) ∧ l.take k = m.take k
set_option maxHeartbeats 1000000 in
theorem sametexts_any {w : World} {v u : Value} {l m : List ByteArray} (hv : Sl w v (l.map strV)) (hu : Sl w u (m.map strV)) : Calls Tryz.prog 35 #[v, u] w fun e w' => BoolP w (decide (l = m)) e w' := by
 obtain ⟨hm, A, cap, rfl, hc, hA⟩ := id hv
 obtain ⟨hm2, A2, cap2, rfl, hc2, hA2⟩ := id hu
 rw [List.length_map] at hm hm2 hc hc2 hA hA2 ⊢
 rw [List.length_map]
 have HA := Lib.hid hA
 have HA2 := Lib.hid hA2
 clear hv hu hA hA2
 by_cases hl : l.length = m.length
 ·have hl' : ((l.length : Int) != m.length) = false := by simp [hl]
  have Hl := Lib.hid hl
  clear hl
  go_enter Tryz.func35, Tryz.ntmps35
  go_wp2_with fail
  go_loopw [5] (SameRel w l m) (fun i _ => l.length - (intOf i).toNat)
  case atStart => exact ⟨0, by omega, rfl, ⟨0, rfl⟩, by simp⟩
  case round =>
   obtain ⟨k, hk, rfl, ⟨j, rfl⟩, ht⟩ := hrel
   have Ht := Lib.hid ht
   clear ht
   by_cases hlt : k < l.length
   ·have hlt2 : k < m.length := by rw [← Hl.out]; exact hlt
    obtain ⟨g, o, rfl, hcl⟩ := HA.out (by omega)
    obtain ⟨g2, o2, rfl, hcl2⟩ := HA2.out (by omega)
    obtain ⟨s, hs⟩ : ∃ s, l[k]? = some s := ⟨_, List.getElem?_eq_getElem hlt⟩
    obtain ⟨s2, hs2⟩ : ∃ s, m[k]? = some s := ⟨_, List.getElem?_eq_getElem hlt2⟩
    have c1 := hcl k (strV s) (by rw [List.getElem?_map, hs]; rfl)
    have c2 := hcl2 k (strV s2) (by rw [List.getElem?_map, hs2]; rfl)
    unfold strV at c1 c2
    have Hs := Lib.hid (show l.take (k + 1) = l.take k ++ [s] by rw [List.take_add_one, hs]; rfl)
    have Hs2 := Lib.hid (show m.take (k + 1) = m.take k ++ [s2] by rw [List.take_add_one, hs2]; rfl)
    have hki : (k : Int) < m.length := by omega
    have hki1 : (k : Int) < l.length := by omega
    clear hs hs2 hcl hcl2
    by_cases he : s = s2
    ·subst he
     go_wp2_with fail
     go_quiet (fail)
     go_wp2_with fail
     exact ⟨⟨k + 1, by omega, by go_num, ⟨_, rfl⟩, by rw [Hs.out, Hs2.out, Ht.out]⟩, by simp [intOf]; omega⟩
    ·have he' : (s.toList == s2.toList) = false := by rw [str_beq]; simp [he]
     have He := Lib.hid he
     clear he
     go_wp2_with fail
     go_quiet (fail)
     go_wp2_with fail
     go_ret
     refine ⟨ret_bool (decide_eq_false (fun h => He.out ?_)).symm, blw_drewN (blw_drewN (Below.refl _ _) _) _⟩
     subst h
     have := Hs.out.symm.trans Hs2.out
     simpa using this
   ·obtain rfl : k = l.length := by omega
    go_wp2
    go_ret
    refine ⟨ret_bool (decide_eq_true ?_).symm, blw_drewN (Below.refl _ _) _⟩
    have := Ht.out
    rwa [List.take_length, Hl.out, List.take_length] at this
 ·have hl' : ((l.length : Int) != m.length) = true := by simp; omega
  have Hl := Lib.hid hl
  clear hl
  go_enter Tryz.func35, Tryz.ntmps35
  go_wp2_with fail
  go_ret
  exact ⟨ret_bool (decide_eq_false (fun h => Hl.out (by rw [h]))).symm, Below.refl _ _⟩
def HitsOf (M : List St) (st : Nat) (l : List ByteArray) (z : List Bool) : Prop := z.length = l.length ∧ ∀ (k : Nat) (s : ByteArray), l[k]? = some s → (z[k]? = some true ↔ ∃ j, Rch M st (runes badR s.data.toList) true 0 j)
def sumS (L : Nat) : List ByteArray → Nat
 | [] => 0
 | s :: t => L * ((runes badR s.data.toList).length + 1) + sumS L t
theorem sumS_snoc (L : Nat) (s : ByteArray) : ∀ l : List ByteArray, sumS L (l ++ [s]) = sumS L l + L * ((runes badR s.data.toList).length + 1)
 | [] => by simp [sumS]
 | a :: l => by rw [List.cons_append, sumS, sumS_snoc L s l, sumS]; omega
theorem runes_sz2 (s : ByteArray) (hs : s.size ≤ 2000) : (runes badR s.data.toList).length ≤ 2000 := by
 have h1 := runes_len badR s.data.toList.length s.data.toList (Nat.le_refl _)
 have h2 : s.data.toList.length = s.size := by rw [Array.length_toList]; rfl
 omega
theorem one_le {L : Nat} (hL : L ≤ 3000) {s : ByteArray} (hs : s.size ≤ 2000) : L * ((runes badR s.data.toList).length + 1) ≤ 3000 * 2001 := Nat.mul_le_mul hL (by have := runes_sz2 s hs; omega)
theorem sumS_le {L : Nat} (hL : L ≤ 3000) : ∀ l : List ByteArray, (∀ s ∈ l, s.size ≤ 2000) → sumS L l ≤ l.length * (3000 * 2001)
 | [], _ => by simp [sumS]
 | a :: l, h => by
  have h1 := one_le hL (h a (by simp))
  have h2 := sumS_le hL l (fun s hs => h s (List.mem_cons_of_mem _ hs))
  rw [sumS, List.length_cons]
  omega
theorem HitsOf.nil (M : List St) (st : Nat) : HitsOf M st [] [] := ⟨rfl, fun k s h => by simp at h⟩
theorem idx_pos (z : List Bool) : 0 < (idx 0 z).length ↔ ∃ j : Nat, z[j]? = some true := by
 constructor
 ·intro h
  obtain ⟨c, hc⟩ := List.exists_mem_of_length_pos h
  obtain ⟨j, -, hj⟩ := (idx_mem z 0 c).1 hc
  exact ⟨j, hj⟩
 ·rintro ⟨j, hj⟩
  exact List.length_pos_of_mem ((mem0 z j).2 hj)
theorem hit_iff {M : List St} {st : Nat} {S : List Int} {z : List Bool} {b : Bool} (h : EndsAt M st S true z) (hb : decide (0 < (idx 0 z).length) = b) : b = true ↔ ∃ j, Rch M st S true 0 j := by
 rw [← hb, decide_eq_true_iff, idx_pos]
 exact ⟨fun ⟨j, hj⟩ => ⟨j, (h.2 j).1 hj⟩, fun ⟨j, hj⟩ => ⟨j, (h.2 j).2 hj⟩⟩
theorem HitsOf.snoc {M : List St} {st : Nat} {l : List ByteArray} {z : List Bool} {s : ByteArray} {b : Bool} (h : HitsOf M st l z) (hb : b = true ↔ ∃ j, Rch M st (runes badR s.data.toList) true 0 j) : HitsOf M st (l ++ [s]) (z ++ [b]) := by
 refine ⟨by rw [List.length_append, List.length_append, h.1]; rfl, fun k t ht => ?_⟩
 by_cases hk : k < l.length
 ·rw [List.getElem?_append_left hk] at ht
  rw [List.getElem?_append_left (by rw [h.1]; exact hk)]
  exact h.2 k t ht
 ·have hk2 : k = l.length := by
   have := (List.getElem?_eq_some_iff.1 ht).1
   rw [List.length_append, List.length_singleton] at this
   omega
  subst hk2
  rw [List.getElem?_append_right (Nat.le_refl _), Nat.sub_self] at ht
  rw [List.getElem?_append_right (by rw [h.1]; exact Nat.le_refl _), h.1, Nat.sub_self]
  cases ht
  rw [← hb]
  simp
theorem HitsOf.uniq {M : List St} {st : Nat} {l : List ByteArray} {x y : List Bool} (h : HitsOf M st l x) (k : HitsOf M st l y) : x = y := by
 refine bools_ext (h.1.trans k.1.symm) (fun j => ?_)
 by_cases hj : j < l.length
 ·obtain ⟨s, hs⟩ : ∃ s, l[j]? = some s := ⟨_, List.getElem?_eq_getElem hj⟩
  rw [h.2 j s hs, k.2 j s hs]
 ·rw [List.getElem?_eq_none (by rw [h.1]; omega), List.getElem?_eq_none (by rw [k.1]; omega)]
def CtRel (w : World) (M : List St) (st : Nat) (l : List ByteArray) (s7 s17 : Value) (wr : World) : Prop := ∃ (k : Nat) (z : List Bool), k ≤ l.length ∧ s17 = .int .i64 k ∧ s7 = .int .i64 (sumS M.length (l.take k) : Nat) ∧ Below w.heap.size w wr ∧ Fls wr w.heap.size (.slice (some ⟨w.heap.size, 0, none⟩) l.length l.length) (z ++ List.replicate (l.length - k) false) ∧ HitsOf M st (l.take k) z
def CntP (M : List St) (st : Nat) (l : List ByteArray) (w : World) (e : Ending) (w' : World) : Prop := ∃ (z : List Bool) (A : Option Addr) (q : Nat), e = .returned (.tuple #[.slice A l.length q, .int .i64 (sumS M.length l : Nat)]) ∧ HitsOf M st l z ∧ Fls w' w.heap.size (.slice A l.length q) z ∧ Below w.heap.size w w'
set_option maxHeartbeats 8000000 in
set_option maxRecDepth 100000 in
theorem count_any {M : List St} {st mg : Nat} {l : List ByteArray} {v : Value} {w : World} (hmo : MOk M st) (h : Mch w mg M st) (hv : Sl w v (l.map strV)) (hl : l.length ≤ 1000) (hs : ∀ s ∈ l, s.size ≤ 2000) : Calls Tryz.prog 33 #[.pointer (some ⟨mg, 0, none⟩), v] w fun e w' => CntP M st l w e w' := by
 obtain ⟨hm, A, cap, rfl, hc, hA⟩ := id hv
 rw [List.length_map] at hm hc hA ⊢
 have hmk := run_make_flags l.length (by omega)
 have HA := Lib.hid hA
 have Hmo := Lib.hid hmo
 have Hm := Lib.hid h
 have Hfl := Lib.hid (fls_made w l.length (by omega) (Nat.le_refl w.heap.size))
 have Hs := Lib.hid hs
 clear hmo h hv hA hs hm
 go_enter Tryz.func33, Tryz.ntmps33
 go_wp2_with fail
 go_loopw [7, 17] (fun s7 s17 wr => CtRel w M st l s7 s17 wr) (fun _ v _ => l.length - (intOf v).toNat)
 case atStart =>
  exact ⟨0, [], Nat.zero_le _, rfl, rfl, alloc_below _ _, by rw [List.nil_append, Nat.sub_zero]; exact Hfl.out, by rw [List.take_zero]; exact HitsOf.nil M st⟩
 case round =>
  obtain ⟨k, z, hk, rfl, rfl, hb, ho, hh⟩ := hrel
  have Hb := Lib.hid hb
  have Ho := Lib.hid ho
  have Hh := Lib.hid hh
  have hbs := hb.size
  clear hb ho hh
  by_cases hlt : k < l.length
  ·obtain ⟨g, o, rfl, hcl⟩ := HA.out (by omega)
   obtain ⟨s, hs⟩ : ∃ s, l[k]? = some s := ⟨_, List.getElem?_eq_getElem hlt⟩
   have c1 := cell_later Hb.out (hcl k (strV s) (by rw [List.getElem?_map, hs]; rfl))
   unfold strV at c1
   have hsz := Hs.out s (List.mem_of_getElem? hs)
   have Htk := Lib.hid (show l.take (k + 1) = l.take k ++ [s] from take_next hs)
   have hki : (k : Int) < l.length := by omega
   have hL := Hmo.out.len
   have Hle := Lib.hid (sumS_le hL (l.take k) (fun t ht => Hs.out t (List.mem_of_mem_take ht)))
   have hlk : (l.take k).length ≤ 1000 := by rw [List.length_take]; omega
   clear hs hcl
   obtain ⟨sk, hsk⟩ : ∃ n : Nat, sumS M.length (l.take k) = n := ⟨_, rfl⟩
   have hsb : sk ≤ 10000000000 := by rw [← hsk]; have := Hle.out; omega
   have Hsk := Lib.hid hsk
   rw [hsk]
   clear hsk
   go_wp2_with fail
   (with_reducible refine (smatch_any Hmo.out (Hm.out.below Hb.out) (by omega)).mono ?_)
   rintro e w2 ⟨y, hy, rfl, hb2⟩
   have Hb2 := Lib.hid (Hb.out.trans (hb2.mono hbs))
   have Ho2 := Lib.hid (Ho.out.below hb2)
   have hb2s := Hb2.out.size
   have h1l := one_le hL hsz
   obtain ⟨b, hb⟩ : ∃ b, decide (0 < (idx 0 y).length) = b := ⟨_, rfl⟩
   obtain ⟨a, ha⟩ : ∃ a : Nat, M.length * ((runes badR s.data.toList).length + 1) = a := ⟨_, rfl⟩
   have Hsn := Lib.hid (Hh.out.snoc (hit_iff hy hb))
   have Hsum := Lib.hid (show sumS M.length (l.take (k + 1)) = sk + a by rw [Htk.out, sumS_snoc, Hsk.out, ha])
   have hab : a ≤ 6003000 := by omega
   have Hadd := Lib.hid (madd_any (sk : Int) (a : Int) (Int.natCast_nonneg _) (by unfold mxS; omega) (Int.natCast_nonneg _) (by unfold mxS; omega) w2)
   rw [show adS (sk : Int) (a : Int) = ((sk + a : Nat) : Int) by unfold adS mxS; omega] at Hadd
   rw [hb, ha]
   have hzl : z.length = k := by have := Hh.out.1; rw [this, List.length_take]; omega
   have hst := (Ho2.out.set k b).1
   have hfz := Ho2.out.frozen k
   have hcc := Ho2.out.cell (k := k) (b := false) (by rw [List.getElem?_append_right (by omega), hzl, Nat.sub_self, show l.length - k = (l.length - (k + 1)) + 1 by omega, List.replicate_succ]; rfl)
   rw [List.set_append_right _ _ (by omega), hzl, Nat.sub_self, show l.length - k = (l.length - (k + 1)) + 1 by omega, List.replicate_succ, List.set_cons_zero] at hst
   have Hst := Lib.hid (show Fls (w2.setCell ⟨w.heap.size, k, none⟩ (.bool b)) w.heap.size (.slice (some ⟨w.heap.size, 0, none⟩) l.length l.length) ((z ++ [b]) ++ List.replicate (l.length - (k + 1)) false) by rw [List.append_assoc]; exact hst)
   clear hy hb2 hb ha hst h1l hzl Hle hlk hL
   go_wp2_with fail
   (with_reducible refine Hadd.out.mono ?_)
   rintro e w3 ⟨rfl, rfl⟩
   go_wp2_with fail
   refine ⟨⟨k + 1, z ++ [b], by omega, by go_num, by rw [Hsum.out]; go_num, below_set Hb2.out (Nat.le_refl _) hb2s, Hst.out, by rw [Htk.out]; exact Hsn.out⟩, by simp [intOf]; omega⟩
  ·obtain rfl : k = l.length := by omega
   rw [Nat.sub_self, List.replicate_zero, List.append_nil] at Ho
   rw [List.take_length] at Hh ⊢
   go_wp2_with fail
   go_ret2
   exact ⟨z, _, _, rfl, Hh.out, Ho.out, Hb.out⟩
theorem hit_mt {r : Rx} {S : List Int} {y : List Bool} {b : Bool} (ho : r.ok) (h : ∀ j, y[j]? = some true ↔ ∃ i, i ≤ S.length ∧ Mt S r i j) (hb : decide (0 < (idx 0 y).length) = b) : b = true ↔ ∃ j, Rch (mcS r) (mcT r) S true 0 j := by
 rw [← hb, decide_eq_true_iff, idx_pos]
 exact ⟨fun ⟨j, hj⟩ => ⟨j, (rch_mt ho j).2 ((h j).1 hj)⟩, fun ⟨j, hj⟩ => ⟨j, (h j).2 ((rch_mt ho j).1 hj)⟩⟩
abbrev bMark : ByteArray := { data := #[109, 97, 114, 107] }
def ScRel (w : World) (r : Rx) (l : List ByteArray) (s9 s10 s11 : Value) (wr : World) : Prop := ∃ (k : Nat) (z : List Bool) (A : Option Addr) (q : Nat), k ≤ l.length ∧ s11 = .int .i64 k ∧ s10 = .slice A z.length q ∧ s9 = .int .i64 (sumS (mcS r).length (l.take k) : Nat) ∧ Below w.heap.size w wr ∧ Fls wr w.heap.size (.slice A z.length q) z ∧ HitsOf (mcS r) (mcT r) (l.take k) z ∧ ∀ s ∈ l.take k, s.size ≤ 2000
theorem Strs.snoc {w : World} {base n : Nat} {v : Value} {l : List ByteArray} {s : ByteArray} (h : w.ownsRow base 9 1 v n (l.map strV ++ [strV s])) (hn : n = l.length + 1) : Strs w base v (l ++ [s]) := by
 subst hn
 unfold Strs
 rw [List.length_append, List.map_append]
 exact h
theorem Strs.sl {w : World} {base : Nat} {v : Value} {l : List ByteArray} (h : Strs w base v l) : Sl w v (l.map strV) := Sl.of_own h
set_option maxHeartbeats 16000000 in
set_option maxRecDepth 100000 in
theorem simcounts_any {w : World} (hT : Tabs w) (p : ByteArray) {v : Value} {l : List ByteArray} (hv : Sl w v (l.map strV)) : Calls Tryz.prog 9 #[.string p, v] w fun e w' => TrP w e w' := by
 have Hf := Lib.hid (first_any hT)
 have Hg := Lib.hid (fun w0 : World => good2_any (w := w0) p)
 have HT := Lib.hid hT
 have HV := Lib.hid hv
 obtain ⟨-, A, cap, rfl, hc, hA⟩ := hv
 rw [List.length_map] at hc hA HV ⊢
 have HA := Lib.hid hA
 clear hT hA
 go_enter Tryz.func9, Tryz.ntmps9
 go_wp2_with fail
 (with_reducible refine Hf.out.mono ?_)
 rintro e w1 ⟨rfl, hb1⟩
 have Hb1 := Lib.hid hb1
 clear hb1
 go_wp2_with fail
 (with_reducible refine (Hg.out w1).mono ?_)
 rintro e w2 ⟨b, rfl, hb2, ht, -⟩
 have Hb2 := Lib.hid (Hb1.out.trans (hb2.mono Hb1.out.size))
 clear hb2
 cases b with
 | false =>
  clear ht
  go_wp2_with fail
  go_ret
  exact ⟨rfl, Hb2.out⟩
 | true =>
  obtain ⟨r, hr⟩ := ht rfl
  by_cases hl : 60 < l.length
  ·have hl2 : 60 < (l.length : Int) := by omega
   clear ht
   go_wp2_with fail
   go_ret
   exact ⟨rfl, Hb2.out⟩
  ·have hl2 : ¬ 60 < (l.length : Int) := by omega
   have hl3 : l.length ≤ 60 := by omega
   obtain ⟨ho, hx, hz, hw⟩ := hr.facts
   have hst := hr.2.2
   have Hmo := Lib.hid (mc_ok ho hst)
   have Hlen := Lib.hid (mc_len ho hst)
   have Ho := Lib.hid ho
   have Hof := Lib.hid (of_any hr (HT.out.below Hb2.out))
   clear ht hr ho hx hw
   go_wp2_with fail
   (with_reducible refine Hof.out.mono ?_)
   rintro e w3 ⟨mg, Ax, nx, qx, rfl, hm3, hx3, hmg, hb3⟩
   have Hb3 := Lib.hid (Hb2.out.trans (hb3.mono Hb2.out.size))
   have Hm3 := Lib.hid hm3
   have Hx3 := Lib.hid hx3
   clear hm3 hx3 hmg hb3 Hof
   go_wp2_with fail
   (with_reducible refine (texts_any (HV.out.below Hb3.out) (by omega)).mono ?_)
   rintro e w4 ⟨v4, rfl, hb4, ho4⟩
   obtain ⟨A4, q4, rfl, -, -, -⟩ := ownsRow_slice ho4
   have Hoa := Lib.hid (ownsRow_below ho4 (alloc_below w4 (.cells #[.string bMark] 9)) (Nat.le_refl _))
   have Hcn := Lib.hid (cells_new w4 [strV bMark] 9)
   have Hba := Lib.hid (hb4.alloc hb4.size (.cells #[.string bMark] 9))
   have hs34 := hb4.size
   clear hb4 ho4
   go_wp2_with (at_builtin; refine wpList_append_k elStr rfl (.tmp 40) (.tmp 41) rfl w3.heap.size (.slice A4 l.length q4) l.length w4.heap.size 1 1 (l.map strV) [strV bMark] (by simp [Act.eval]) Hoa.out (by simp [Act.eval]) rfl Hcn.out (by simp [strV, Value.oneCell']) (by unfold maxLen; omega) (by omega) (by simp; omega) ?_; intro v' w5 h1 h2 h3; have Hp := Lib.hid h1; have Hg5 := Lib.hid h2; clear h1 h2 h3)
   obtain ⟨A5, q5, rfl, h5, -, hA5⟩ := ownsRow_slice Hp.out
   obtain ⟨g5, rfl⟩ := hA5 (by omega)
   have hb5 := own_below Hba.out Hoa.out Hba.out.size Hg5.out
   have Hb5 := Lib.hid (Hb3.out.trans (hb5.mono Hb3.out.size))
   have Hm5 := Lib.hid (Hm3.out.below hb5)
   have Hx5 := Lib.hid (Hx3.out.below hb5)
   have Hmi := Lib.hid (Strs.snoc Hp.out rfl)
   have hlq : (l.length : Int) ≤ q5 := by omega
   clear hb5 Hp Hg5 Hba Hoa Hcn h5
   go_wp2_with fail
   go_loopw [9, 10, 11, 12, 13] (fun s9 s10 s11 _ _ wr => ScRel w5 r l s9 s10 s11 wr) (fun _ _ v _ _ _ => l.length - (intOf v).toNat)
   case atStart => exact ⟨0, [], none, 0, Nat.zero_le _, rfl, rfl, rfl, Below.refl _ _, ⟨rfl, .inl ⟨rfl, rfl⟩⟩, by rw [List.take_zero]; exact HitsOf.nil _ _, fun s hs => by rw [List.take_zero] at hs; cases hs⟩
   case round =>
    obtain ⟨k, z, Az, qz, hk, rfl, rfl, rfl, hb, hoz, hh, hsm⟩ := hrel
    have Hb := Lib.hid hb
    have Hoz := Lib.hid hoz
    have Hh := Lib.hid hh
    have Hsm := Lib.hid hsm
    have hbs := hb.size
    have Hbw := Lib.hid (Hb5.out.trans (hb.mono Hb5.out.size))
    clear hb hoz hh hsm
    have hL := Hmo.out.len
    have hsl := sumS_le hL (l.take k) Hsm.out
    have hlk : (l.take k).length ≤ 60 := by rw [List.length_take]; omega
    have hzl : z.length ≤ 60 := by rw [Hh.out.1]; exact hlk
    obtain ⟨sk, hsk⟩ : ∃ n : Nat, sumS (mcS r).length (l.take k) = n := ⟨_, rfl⟩
    have hsb : sk ≤ 1000000000 := by rw [← hsk]; omega
    have Hsk := Lib.hid hsk
    rw [hsk]
    clear hsk hsl hlk hL
    by_cases hlt : k < l.length
    ·obtain ⟨g, o, rfl, hcl⟩ := HA.out (by omega)
     obtain ⟨s, hs⟩ : ∃ s, l[k]? = some s := ⟨_, List.getElem?_eq_getElem hlt⟩
     have c1 := cell_later Hbw.out (hcl k (strV s) (by rw [List.getElem?_map, hs]; rfl))
     unfold strV at c1
     have Htk := Lib.hid (show l.take (k + 1) = l.take k ++ [s] from take_next hs)
     have hki : (k : Int) < l.length := by omega
     clear hs hcl
     by_cases hsz : 2000 < s.size
     ·have hsz2 : 2000 < (s.size : Int) := by omega
      go_wp2_with fail
      go_ret
      exact ⟨rfl, Hbw.out⟩
     ·have hsz2 : ¬ 2000 < (s.size : Int) := by omega
      have hsz3 : s.size ≤ 2000 := by omega
      have h1l := one_le Hmo.out.len hsz3
      go_wp2_with fail
      (with_reducible refine (matches_any Ho.out (Hx5.out.below Hb.out) (by omega) (by omega) (by omega)).mono ?_)
      rintro e w6 ⟨y, hyl, hy, rfl, hb6⟩
      obtain ⟨b, hb⟩ : ∃ b, decide (0 < (idx 0 y).length) = b := ⟨_, rfl⟩
      obtain ⟨a, ha⟩ : ∃ a : Nat, (mcS r).length * ((runes badR s.data.toList).length + 1) = a := ⟨_, rfl⟩
      have Hsn := Lib.hid (Hh.out.snoc (hit_mt Ho.out hy hb))
      have Hsum := Lib.hid (show sumS (mcS r).length (l.take (k + 1)) = sk + a by rw [Htk.out, sumS_snoc, Hsk.out, ha])
      have hst2 : statesF r * (((runes badR s.data.toList).length : Int) + 1) = (a : Int) := by rw [← Hlen.out, ← ha]; push_cast; rfl
      rw [hb, hst2]
      have Hb6 := Lib.hid (Hb.out.trans (hb6.mono hbs))
      have hs6 := hb6.size
      have Hoa := Lib.hid (ownsRow_below (ownsRow_below Hoz.out hb6 (Nat.le_refl _)) (alloc_below w6 (.cells #[.bool b] 4)) (Nat.le_refl _))
      have Hcn := Lib.hid (cells_new w6 [boolV b] 4)
      have Hba := Lib.hid (Hb6.out.alloc Hb6.out.size (.cells #[.bool b] 4))
      have hab : a ≤ 6003000 := by omega
      clear hyl hy hb hb6 ha hst2 h1l
      go_wp2_with (at_builtin; refine wpList_append_k elBool rfl (.tmp 67) (.tmp 69) rfl w5.heap.size (.slice Az z.length qz) z.length w6.heap.size 1 1 (z.map boolV) [boolV b] (by simp [Act.eval]) Hoa.out (by simp [Act.eval]) rfl Hcn.out (by simp [boolV, Value.oneCell']) (by unfold maxLen; omega) (by omega) (by simp; omega) ?_; intro v' w7 h1 h2 h3; have Hp := Lib.hid h1; have Hg7 := Lib.hid h2; clear h1 h2 h3)
      obtain ⟨A7, q7, rfl, -, -, -⟩ := ownsRow_slice Hp.out
      refine ⟨⟨k + 1, z ++ [b], A7, q7, by omega, by go_num, by simp, by rw [Hsum.out]; go_num, own_below Hba.out Hoa.out Hba.out.size Hg7.out, ?_, by rw [Htk.out]; exact Hsn.out, ?_⟩, by simp [intOf]; omega⟩
      ·unfold Fls
       rw [List.length_append, List.map_append]
       exact Hp.out
      ·rw [Htk.out]
       intro t ht
       rcases List.mem_append.1 ht with ht | ht
       ·exact Hsm.out t ht
       ·rw [List.mem_singleton.1 ht]; exact hsz3
    ·obtain rfl : k = l.length := by omega
     rw [List.take_length] at Hsk Hh Hsm
     have Hsm5 := Lib.hid (show Sl wr (.slice (some ⟨g5, 0, none⟩) l.length q5) (l.map strV) from by
      have h8 := Hmi.out.below Hb.out
      unfold Strs at h8
      rw [List.length_append] at h8
      have h9 := own_cut (m := l.length) h8 (by simp)
      rw [List.map_append, List.take_left' (by rw [List.length_map])] at h9
      exact Sl.of_own h9)
     have hln : ((l.length : Int)).toNat = l.length := by omega
     go_wp2_with fail
     (with_reducible refine (count_any Hmo.out (Hm5.out.below Hb.out) Hsm5.out (by omega) Hsm.out).mono ?_)
     rintro e w6 ⟨y, A6, q6, rfl, hy, ho6, hb6⟩
     rw [Hsk.out]
     obtain rfl := hy.uniq Hh.out
     have hyl : y.length = l.length := hy.1
     have Hb6 := Lib.hid (Hbw.out.trans (hb6.mono Hbw.out.size))
     have Hmi6 := Lib.hid ((Hmi.out.below Hb.out).below hb6)
     have Hsb := Lib.hid (samebools_any (ho6.low (Nat.zero_le _)) ((Hoz.out.below hb6).low (Nat.zero_le _)) (by omega) rfl)
     rw [hyl] at Hsb
     clear hb6 ho6 hy
     go_wp2_with fail
     (with_reducible refine Hsb.out.mono ?_)
     rintro e w7 ⟨rfl, hb7⟩
     rw [show decide (y = y) = true by simp]
     have Hb7 := Lib.hid (Hb6.out.trans (hb7.mono Hb6.out.size))
     have Hmi7 := Lib.hid (Hmi6.out.below hb7)
     clear hb7 Hsb
     go_wp2_with fail
     (with_reducible refine (texts_any (HV.out.below Hb7.out) (by omega)).mono ?_)
     rintro e w8 ⟨v8, rfl, hb8, ho8⟩
     obtain ⟨A8, q8, rfl, -, -, -⟩ := ownsRow_slice ho8
     have Hoa := Lib.hid (ownsRow_below ho8 (alloc_below w8 (.cells #[.string bMark] 9)) (Nat.le_refl _))
     have Hcn := Lib.hid (cells_new w8 [strV bMark] 9)
     have Hba := Lib.hid (hb8.alloc hb8.size (.cells #[.string bMark] 9))
     have hs78 := hb8.size
     clear hb8 ho8
     go_wp2_with (at_builtin; refine wpList_append_k elStr rfl (.tmp 85) (.tmp 86) rfl w7.heap.size (.slice A8 l.length q8) l.length w8.heap.size 1 1 (l.map strV) [strV bMark] (by simp [Act.eval]) Hoa.out (by simp [Act.eval]) rfl Hcn.out (by simp [strV, Value.oneCell']) (by unfold maxLen; omega) (by omega) (by simp; omega) ?_; intro v' w9 h1 h2 h3; have Hp := Lib.hid h1; have Hg9 := Lib.hid h2; clear h1 h2 h3)
     obtain ⟨A9, q9, rfl, -, -, -⟩ := ownsRow_slice Hp.out
     have hb9 := own_below Hba.out Hoa.out Hba.out.size Hg9.out
     have Hb9 := Lib.hid (Hb7.out.trans (hb9.mono Hb7.out.size))
     have Hst := Lib.hid (sametexts_any (Hmi7.out.below hb9).sl (Strs.snoc Hp.out rfl).sl)
     clear hb9 Hp Hg9 Hba Hoa Hcn
     go_wp2_with fail
     (with_reducible refine Hst.out.mono ?_)
     rintro e w10 ⟨he10, hb10⟩
     obtain rfl : e = .returned (.bool true) := by rw [he10]; simp
     have Hb10 := Lib.hid (Hb9.out.trans (hb10.mono Hb9.out.size))
     clear hb10 Hst
     go_wp2_with fail
     go_ret
     exact ⟨by simp, Hb10.out⟩
end Go.Proofs.YthhnmpkgleelfaaGreatDoor
namespace Go.Proofs.YthhnmpkgleelfaaGreatDoor
open Go.ChangeShapes Go.WideShapes Go.ChangeAt Go.WideMaps Go.WideElems Go.RowKit
theorem cellsStr : Tryz.prog.cellsOf 9 = 1 := by kernel_rfl
section
variable {H : Type} {enc : TypeId × Value → H}
set_option maxRecDepth 100000 in
theorem strs_of_trod {W : World} {v : Value} {d : DataW H} {ps : List MemPlace} {base : Nat} (hv : Value.okWide Tryz.prog W .any base 56 v) (hj : DataW.Trod enc Tryz.prog W 0 (fun _ => true) true 56 v d ps) :
  ∃ xs : List ByteArray, Sl W v (xs.map strV) := by
 obtain ⟨a0, len, cap, rfl⟩ := okWide_slice Tryz.underlying56 hv
 obtain ⟨fuel, hf⟩ := hj
 rcases Go.Deep.open_strs Tryz.underlying56 Tryz.underlying9 cellsStr hf with ⟨hcs, hx⟩ | ⟨a, len', cap', m, Sx, hcs, _, hl, hm, hmm, hx, hcell⟩
 ·simp [Value.cells] at hcs
  obtain ⟨rfl, rfl, rfl⟩ := hcs
  exact ⟨[], Nat.zero_le _, none, 0, rfl, Nat.le_refl _, fun h => by simp at h⟩
 ·simp [Value.cells] at hcs
  obtain ⟨rfl, rfl, rfl⟩ := hcs
  simp only [if_true] at hmm
  refine ⟨(List.range len).map Sx, sl_of_cells (n := len) (by simp) hl (by unfold maxLen at hm; omega) (fun i u hi => ?_) (Nat.le_refl _)⟩
  have hlt := (List.getElem?_eq_some_iff.1 hi).1
  simp at hlt
  rw [(hcell i (by omega)).1]
  rw [List.getElem?_map, List.getElem?_map, List.getElem?_range hlt] at hi
  simpa [strV] using hi
end
end Go.Proofs.YthhnmpkgleelfaaGreatDoor
namespace Go.Proofs.YthhnmpkgleelfaaGreatDoor
open Go.ChangeShapes Go.WideShapes Go.ChangeAt Go.WideMaps Go.WideElems Go.RowKit
set_option maxRecDepth 100000 in
theorem counts_lifted (os : Os) (started : os.Started) (H : Type) (enc : TypeId × Value → H) :
  ReturnsInHanded {} Tryz.checked os 9 .any (fun w args => (Rows.simCountsSpec.pre enc Tryz.prog Tryz.f9 [] false w args ∧ laidMetH Tryz.prog laidS w) ∧ sizedMet enc Tryz.prog Tryz.f9 (OpenSpec.ofChange Rows.simCountsSpec) false w args)
   (Rows.simCountsSpec.post enc Tryz.prog Tryz.f9 false true false false) := by
 refine returnsInHanded_of_change_and (C := Tryz.checked) (X := fun w _ => laidMetH Tryz.prog laidS w) (fun _ _ _ hh h => h.of_heap hh) Tryz.own started (by kernel_rfl) Tryz.func9
  (ChangeSpec.witness_shaped (enc := enc) (C := Tryz.checked) (os := os) (X := fun w _ => laidMetH Tryz.prog laidS w) false (World.laidAll Tryz.prog os laidS) #[.string ⟨#[]⟩, .slice none 0 0] 8 rfl (World.shaped_of_ZipB (by kernel_rfl) (by kernel_rfl)) (by kernel_rfl) (by kernel_rfl) (by kernel_rfl) (door_met os _)) ?_
 intro W base args ds gs before hval0 hW _ _ hL _
 have hval : ∀ (j : Nat) t v, Tryz.f9.params[j]? = some t → args[j]? = some v → Value.okWide Tryz.prog W .any base t v := hval0
 have hW' := hW
 have hlt : ∀ p ∈ before, p.block < W.heap.size := fun p hp => hW.lt p hp
 obtain ⟨p, q, hA0, hV, rfl, hfz, hnd⟩ := hW
 have hA : DataW.TrodAll enc Tryz.prog W 0 (fun _ => true) true Tryz.f9.params.toList args.toList ds p := hA0
 rw [Tryz.params9] at hA hval
 obtain ⟨v0, v1, d0, d1, p0, p1, rfl, rfl, rfl, h0, h1⟩ := trodAll_two hA
 obtain ⟨rfl, rfl⟩ := trodVars_none hV
 obtain ⟨c0, rfl, rfl, rfl, w0⟩ := ChangeMaps.open_string Tryz.underlying9 (hval 0 9 v0 rfl rfl) h0
 obtain ⟨x1, s1⟩ := strs_of_trod (hval 1 56 v1 rfl rfl) h1
 clear hA0 hval0
 simp only [List.append_nil, List.nil_append] at hW' hlt
 refine (simcounts_any (tabs_of_laid hL) c0 s1).mono fun e W' ⟨he, hb⟩ => ?_
 subst he
 exact ⟨_, rfl, post_of_below (pa := p1) (pv := []) hW' (fun _ _ _ => trodAll_mk1 (shut_bool Tryz.underlying4 true))
  (fun sp hsp => by
   have := trodAll_mk2 (ChangeMaps.shut_string Tryz.underlying9 w0) (stay (by kernel_rfl) (of_decide_eq_true (by kernel_rfl)) h1 hb (fun x hx => hlt x (by simp [hx])) sp (fun x hx => by simp [hx]) hsp)
   simp only [List.append_nil, List.nil_append] at this
   exact this) (fun _ _ => rfl) (by simp) hb (ok_one (by kernel_rfl) rfl (okWide_bool_mk Tryz.underlying4 true))⟩
theorem counts_row : Rows.SimCountsSaid :=
 OpenClaim.holds_of_wide 9 Tryz.f9 rfl rfl rfl rfl rfl rfl rfl ⟨rfl, rfl, rfl, rfl, rfl⟩ rfl rfl rfl rfl rfl (by kernel_rfl) Tryz.func9 (by kernel_rfl)
  (of_decide_eq_true (by kernel_rfl)) (by unfold Func.isWrapper; rw [if_neg (of_decide_eq_false (by kernel_rfl))]; exact ⟨rfl, rfl⟩)
  (fun os started H enc _ => counts_lifted os started H enc)
end Go.Proofs.YthhnmpkgleelfaaGreatDoor
namespace Go.Proofs.YthhnmpkgleelfaaGreatDoor
open Go
theorem counts_plain (f : FuncId) (fn : Func) (hf : Tryz.pinned.checked.prog.funcNamed "wicket/wicketlaw12.SimCounts" = some f) (hfn : Tryz.pinned.checked.prog.funcs[f]? = some fn) :
  true = Tryz.pinned.checked.prog.looks [] ∧ ∀ (j : Nat) t, fn.params[j]? = some t → Tryz.pinned.checked.prog.wantsStandIn t = false := by
 obtain rfl : f = 9 := Option.some.inj ((show Tryz.prog.funcNamed "wicket/wicketlaw12.SimCounts" = some 9 by kernel_rfl).symm.trans hf) |>.symm
 obtain rfl : fn = Tryz.f9 := (Option.some.inj (Tryz.func9.symm.trans hfn)).symm
 refine ⟨by kernel_rfl, fun j t ht => ?_⟩
 rw [Tryz.params9] at ht
 have hm : t ∈ [9, 56] := by simpa using Array.mem_of_getElem? ht
 have hall : ([9, 56].all fun u => !Tryz.prog.wantsStandIn u) = true := by kernel_rfl
 exact (show Tryz.prog.wantsStandIn t = false by simpa using List.all_eq_true.1 hall t hm)
theorem counts_card : Rows.SimCountsCardSaid :=
 Claim7.holds_tied_plain_at .later [] _ _ _ _ counts_row (fun _ h => by cases h) (by kernel_rfl) (fun _ h => by cases h) simCounts_row_tie rfl ⟨rfl, rfl⟩ (by kernel_rfl) rfl counts_plain (by kernel_rfl)
#print axioms counts_card
end Go.Proofs.YthhnmpkgleelfaaGreatDoor
