import Derived.Test.YthhnmpkgleelfaaGreatDoorK11
set_option linter.unusedVariables false
set_option linter.unusedSimpArgs false
namespace Go.Proofs.YthhnmpkgleelfaaGreatDoor
open Go.RowKit
theorem elRune : ElemK 37 21 (.int .i32 0) 1 4 := ⟨Tryz.underlying37, by kernel_rfl, rfl, by decide⟩
def runeV (c : Int) : Value := .int .i32 c
def Rns (w : World) (base : Nat) (v : Value) (l : List Int) : Prop := w.ownsRow base 21 1 v l.length (l.map runeV)
theorem Rns.nil (w : World) (base : Nat) : Rns w base (.slice none 0 0) [] := ⟨rfl, .inl ⟨rfl, rfl⟩⟩
theorem Rns.below {w w' : World} {base : Nat} {v : Value} {l : List Int} (h : Rns w base v l) (hb : Below w.heap.size w w') : Rns w' base v l := ownsRow_below h hb (Nat.le_refl _)
def RnsP (w : World) (l : List Int) (e : Ending) (w' : World) : Prop := ∃ (A : Option Addr) (q : Nat), e = .returned (.slice A l.length q) ∧ Below w.heap.size w w' ∧ Rns w' w.heap.size (.slice A l.length q) l
theorem rns_lit {w : World} {base g : Nat} {l : List Int} {cs : Array Value} (hg : w.heap[g]? = some (.cells cs 21 (0, 0))) (hb : base ≤ g) (hc : cs.toList = l.map runeV) (hl : l.length ≤ 1000) : Rns w base (.slice (some ⟨g, 0, none⟩) l.length l.length) l := by
 have hs : cs.size = l.length * 1 := by rw [← Array.length_toList, hc, List.length_map, Nat.mul_one]
 have := ownsRow_lit (n := l.length) (k := 1) hg hb (by unfold maxLen; omega) hs
 unfold Rns
 rw [← hc]; exact this
theorem rdigits_any (w : World) : Calls Tryz.prog 144 #[] w fun e w' => RnsP w (flatS spDig) e w' := by
 go_enter Tryz.func144, Tryz.ntmps144
 go_wp2
 go_ret
 exact ⟨_, _, rfl, alloc_below _ _, rns_lit (heap_alloc_new w _) (Nat.le_refl _) rfl (by decide)⟩
theorem rwordy_any (w : World) : Calls Tryz.prog 145 #[] w fun e w' => RnsP w (flatS spWord) e w' := by
 go_enter Tryz.func145, Tryz.ntmps145
 go_wp2
 go_ret
 exact ⟨_, _, rfl, alloc_below _ _, rns_lit (heap_alloc_new w _) (Nat.le_refl _) rfl (by decide)⟩
theorem rblanks_any (w : World) : Calls Tryz.prog 146 #[] w fun e w' => RnsP w (flatS spBlank) e w' := by
 go_enter Tryz.func146, Tryz.ntmps146
 go_wp2
 go_ret
 exact ⟨_, _, rfl, alloc_below _ _, rns_lit (heap_alloc_new w _) (Nat.le_refl _) rfl (by decide)⟩
def hexI (c : Int) : Int := if 48 ≤ c ∧ c ≤ 57 then c - 48 else if 97 ≤ c ∧ c ≤ 102 then c - 87 else if 65 ≤ c ∧ c ≤ 70 then c - 55 else -1
def HexP (c : Int) (w : World) (e : Ending) (w' : World) : Prop := e = .returned (.int .i64 (hexI c)) ∧ w = w'
set_option maxHeartbeats 1000000 in
theorem rhex_any (c : Int) (h1 : -2 ≤ c) (h2 : c ≤ 1114111) (w : World) : Calls Tryz.prog 165 #[.int .i32 c] w fun e w' => HexP c w e w' := by
 have hc : (48 ≤ c ∧ c ≤ 57) ∨ (97 ≤ c ∧ c ≤ 102) ∨ (65 ≤ c ∧ c ≤ 70) ∨ (c < 48 ∨ (57 < c ∧ c < 65) ∨ (70 < c ∧ c < 97) ∨ 102 < c) := by omega
 rcases hc with ⟨a, b⟩ | ⟨a, b⟩ | ⟨a, b⟩ | hc
 ·go_enter Tryz.func165, Tryz.ntmps165
  go_wp2_with fail
  go_ret
  exact ⟨by unfold hexI; rw [if_pos ⟨a, b⟩]; rfl, rfl⟩
 ·go_enter Tryz.func165, Tryz.ntmps165
  go_wp2_with fail
  go_ret
  exact ⟨by unfold hexI; rw [if_neg (by omega), if_pos ⟨a, b⟩]; exact ret_int (by omega), rfl⟩
 ·go_enter Tryz.func165, Tryz.ntmps165
  go_wp2_with fail
  go_ret
  exact ⟨by unfold hexI; rw [if_neg (by omega), if_neg (by omega), if_pos ⟨a, b⟩]; exact ret_int (by omega), rfl⟩
 ·have hv : hexI c = -1 := by unfold hexI; rw [if_neg (by omega), if_neg (by omega), if_neg (by omega)]
  rw [show HexP c w = fun e w' => e = .returned (.int .i64 (-1)) ∧ w = w' by unfold HexP; rw [hv]]
  rcases hc with a | ⟨a, b⟩ | ⟨a, b⟩ | a
  all_goals
   go_enter Tryz.func165, Tryz.ntmps165
   go_wp2_with fail
   go_ret
   exact ⟨rfl, rfl⟩
theorem runeVs_one (l : List Int) : ∀ u ∈ l.map runeV, u.oneCell' = true := by
 intro u hu; obtain ⟨c, _, rfl⟩ := List.mem_map.1 hu; rfl
theorem Rns.app {w : World} {base n : Nat} {v : Value} {l m : List Int} {cs : List Value} (h : w.ownsRow base 21 1 v n cs) (hn : n = l.length + m.length) (hc : cs = l.map runeV ++ m.map runeV) : Rns w base v (l ++ m) := by
 subst hn hc; unfold Rns; rw [List.length_append, List.map_append]; exact h
theorem flatS_append (l m : Spans) : flatS (l ++ m) = flatS l ++ flatS m := by
 induction l with
 | nil => rfl
 | cons x l ih => obtain ⟨a, b⟩ := x; simp [flatS, ih]
theorem flatS_len (l : Spans) : (flatS l).length = 2 * l.length := by
 induction l with
 | nil => rfl
 | cons x l ih => obtain ⟨a, b⟩ := x; simp [flatS, ih]; omega
theorem flatS_get (l : Spans) (i : Nat) (a b : Int) (h : l[i]? = some (a, b)) : (flatS l)[2 * i]? = some a ∧ (flatS l)[2 * i + 1]? = some b := by
 induction l generalizing i with
 | nil => simp at h
 | cons x l ih =>
  obtain ⟨c, d⟩ := x
  cases i with
  | zero => simp at h; obtain ⟨rfl, rfl⟩ := h; exact ⟨rfl, rfl⟩
  | succ i =>
   have := ih i (by simpa using h)
   rw [show 2 * (i + 1) = (2 * i + 1) + 1 by omega, show 2 * i + 1 + 1 + 1 = (2 * i + 1) + 1 + 1 by omega]
   simpa [flatS] using this
def OtRel (w : World) (l : Spans) (s3 s4 s5 : Value) (wr : World) : Prop := ∃ (i : Nat) (f : Int) (pre : Spans), i ≤ l.length ∧ s4 = .int .i32 f ∧ (0 ≤ f ∧ f ≤ 1114112) ∧ s5 = .int .i64 ((2 * i : Nat) : Int) ∧ Below w.heap.size w wr ∧ Rns wr w.heap.size s3 (flatS pre) ∧ spOther l = pre ++ othersF f (l.drop i) ∧ pre.length ≤ i
set_option maxHeartbeats 4000000 in
set_option maxRecDepth 100000 in
theorem rothers_any {w : World} {v : Value} {l : Spans} (h : Rns w 0 v (flatS l)) (hb : ∀ p ∈ l, 0 ≤ p.1 ∧ p.1 ≤ 1114111 ∧ 0 ≤ p.2 ∧ p.2 ≤ 1114111) (hl : l.length ≤ 100000) : Calls Tryz.prog 147 #[v] w fun e w' => RnsP w (flatS (spOther l)) e w' := by
 obtain ⟨A, cap, rfl, -, -, hA⟩ := ownsRow_slice h
 rw [flatS_len] at hA ⊢
 have H := Lib.hid h
 have HA := Lib.hid hA
 have Hbd := Lib.hid hb
 clear h hA hb
 go_enter Tryz.func147, Tryz.ntmps147
 go_wp2_with fail
 go_loopw [3, 4, 5] (fun s3 s4 s5 wr => OtRel w l s3 s4 s5 wr) (fun _ _ v _ => 2 * l.length - (intOf v).toNat)
 case atStart => exact ⟨0, 0, [], Nat.zero_le _, rfl, by omega, rfl, Below.refl _ _, Rns.nil _ _, rfl, Nat.le_refl _⟩
 case round =>
  obtain ⟨i, f, pre, hi, rfl, ⟨hf1, hf2⟩, rfl, hb, ho, he, hpl⟩ := hrel
  have Hb := Lib.hid hb
  have hbs := hb.size
  have He := Lib.hid he
  have Ho := Lib.hid ho
  have Hfl := Lib.hid (flatS_len pre)
  by_cases hlt : i < l.length
  ·obtain ⟨g, rfl⟩ := HA.out (by omega)
   obtain ⟨⟨a, b⟩, hx⟩ : ∃ x, l[i]? = some x := ⟨_, List.getElem?_eq_getElem hlt⟩
   obtain ⟨ga, gb⟩ := flatS_get l i a b hx
   have hrow := H.out.below hb
   unfold Rns at hrow
   rw [flatS_len] at hrow
   have ca := ownsRow_cell hrow rfl (2 * i) (by omega)
   have cb := ownsRow_cell hrow rfl (2 * i + 1) (by omega)
   rw [List.getElem?_map, ga] at ca
   rw [List.getElem?_map, gb] at cb
   simp only [Option.map_some, runeV] at ca cb
   obtain ⟨p1, p2, p3, p4⟩ := Hbd.out (a, b) (List.mem_of_getElem? hx)
   dsimp only at p1 p2 p3 p4
   have hdr : l.drop i = (a, b) :: l.drop (i + 1) := by
    obtain ⟨hh, e⟩ := List.getElem?_eq_some_iff.1 hx
    rw [List.drop_eq_getElem_cons hh, e]
   have Hdr := Lib.hid hdr
   have h2i : ((2 * i : Nat) : Int) < ((2 * l.length : Nat) : Int) := by omega
   have hne : some g ≠ u3.ownBlock := by
    intro e
    have h1 := (ownsRow_block ho e.symm).1
    obtain ⟨_, _, h2⟩ := ownsRow_block H.out (g := g) rfl
    have := lt_of_heap h2
    omega
   have Hne := Lib.hid hne
   have Hcb := Lib.hid (cell_later (alloc_below wr (.cells #[.int .i32 f, .int .i32 (a - 1)] 21)) cb)
   clear hb ho he hrow ga gb hx hdr hne
   by_cases hfa : f < a
   ·have Hst := Lib.hid (show spOther l = (pre ++ [(f, a - 1)]) ++ othersF (b + 1) (l.drop (i + 1)) by rw [He.out, Hdr.out, othersF, if_pos hfa, List.append_assoc])
    have Hcn := Lib.hid (cells_new wr [.int .i32 f, .int .i32 (a - 1)] 21)
    have Hoa := Lib.hid (show (wr.alloc (.cells #[.int .i32 f, .int .i32 (a - 1)] 21)).ownsRow w.heap.size 21 1 u3 (2 * pre.length) ((flatS pre).map runeV) by have := Ho.out.below (alloc_below wr (.cells #[.int .i32 f, .int .i32 (a - 1)] 21)); unfold Rns at this; rw [Hfl.out] at this; exact this)
    go_wp2_with (at_builtin; refine wpList_append_k elRune rfl (.tmp 18) (.tmp 25) rfl w.heap.size u3 (2 * pre.length) wr.heap.size 2 2 ((flatS pre).map runeV) [.int .i32 f, .int .i32 (a - 1)] (by simp [Act.eval]) Hoa.out (by simp [Act.eval]) rfl Hcn.out (by simp [Value.oneCell']) (by unfold maxLen; omega) (by omega) (by simp; omega) ?_; intro v' w5 h1 h2 h3; have cb5 := h2.cell Hcb.out Hne.out; have Hp := Lib.hid h1; have Hg := Lib.hid h2; clear h1 h2 h3)
    have hb2 : Below w.heap.size w (wr.alloc (.cells #[.int .i32 f, .int .i32 (a - 1)] 21)) := Hb.out.alloc hbs _
    exact ⟨⟨i + 1, b + 1, pre ++ [(f, a - 1)], by omega, rfl, by omega, by go_num, own_below hb2 Hoa.out hb2.size Hg.out, by rw [flatS_append]; exact Rns.app Hp.out (by rw [Hfl.out]; rfl) rfl, Hst.out, by simp; omega⟩, by simp [intOf]; omega⟩
   ·have Hst := Lib.hid (show spOther l = pre ++ othersF (b + 1) (l.drop (i + 1)) by rw [He.out, Hdr.out, othersF, if_neg hfa, List.nil_append])
    go_wp2_with fail
    exact ⟨⟨i + 1, b + 1, pre, by omega, rfl, by omega, by go_num, Hb.out, Ho.out, Hst.out, by omega⟩, by simp [intOf]; omega⟩
  ·obtain rfl : i = l.length := by omega
   clear hb ho he
   by_cases hfa : f ≤ 1114111
   ·have Hst := Lib.hid (show spOther l = pre ++ [(f, 1114111)] by rw [He.out, List.drop_length, othersF, if_pos hfa])
    have Hcn := Lib.hid (cells_new wr [.int .i32 f, .int .i32 1114111] 21)
    have Hoa := Lib.hid (show (wr.alloc (.cells #[.int .i32 f, .int .i32 1114111] 21)).ownsRow w.heap.size 21 1 u3 (2 * pre.length) ((flatS pre).map runeV) by have := Ho.out.below (alloc_below wr (.cells #[.int .i32 f, .int .i32 1114111] 21)); unfold Rns at this; rw [Hfl.out] at this; exact this)
    go_wp2_with (at_builtin; refine wpList_append_k elRune rfl (.tmp 35) (.tmp 37) rfl w.heap.size u3 (2 * pre.length) wr.heap.size 2 2 ((flatS pre).map runeV) [.int .i32 f, .int .i32 1114111] (by simp [Act.eval]) Hoa.out (by simp [Act.eval]) rfl Hcn.out (by simp [Value.oneCell']) (by unfold maxLen; omega) (by omega) (by simp; omega) ?_; intro v' w5 h1 h2 h3; have Hp := Lib.hid h1; have Hg := Lib.hid h2; clear h1 h2 h3)
    have hb2 : Below w.heap.size w (wr.alloc (.cells #[.int .i32 f, .int .i32 1114111] 21)) := Hb.out.alloc hbs _
    have hfin : Rns w5 w.heap.size v' (flatS (spOther l)) := by rw [Hst.out, flatS_append]; exact Rns.app Hp.out (by rw [Hfl.out]; rfl) rfl
    obtain ⟨A5, q5, rfl, -, -, -⟩ := ownsRow_slice hfin
    go_ret
    exact ⟨A5, q5, rfl, own_below hb2 Hoa.out hb2.size Hg.out, hfin⟩
   ·have Hst := Lib.hid (show spOther l = pre by rw [He.out, List.drop_length, othersF, if_neg hfa, List.append_nil])
    have hfin : Rns wr w.heap.size u3 (flatS (spOther l)) := by rw [Hst.out]; exact Ho.out
    obtain ⟨A5, q5, rfl, -, -, -⟩ := ownsRow_slice hfin
    have Hfin := Lib.hid hfin
    clear hfin
    go_wp2_with fail
    go_ret
    exact ⟨A5, q5, rfl, Hb.out, Hfin.out⟩
end Go.Proofs.YthhnmpkgleelfaaGreatDoor
