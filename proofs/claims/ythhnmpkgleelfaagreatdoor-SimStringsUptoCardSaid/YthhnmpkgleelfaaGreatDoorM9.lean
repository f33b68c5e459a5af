import Derived.Test.YthhnmpkgleelfaaGreatDoorM8
import Derived.Test.YthhnmpkgleelfaaGreatDoorM3
set_option linter.unusedVariables false
set_option linter.unusedSimpArgs false
namespace Go.Proofs.YthhnmpkgleelfaaGreatDoor
open Go.RowKit
theorem _root_.Go.World.ownsRow.below' {w w' : World} {base : Nat} {e : TypeId} {k n : Nat} {v : Value} {xs : List Value} (h : w.ownsRow base e k v n xs) (hb : Below w.heap.size w w') : w'.ownsRow base e k v n xs := ownsRow_below h hb (Nat.le_refl _)
def exC (x : Ex) : List Value := [.int .i64 x.kind, .int .i32 x.c, .string x.ranges, .int .i64 x.a, .int .i64 x.b, .int .i64 x.mn, .int .i64 x.mx]
theorem elEx : ElemK 26 60 (.agg #[.int .i64 0, .int .i32 0, .string ByteArray.empty, .int .i64 0, .int .i64 0, .int .i64 0, .int .i64 0]) 7 64 := ⟨Tryz.underlying26, by kernel_rfl, rfl, by decide⟩
theorem elExs : ElemK 152 26 (.slice none 0 0) 1 24 := ⟨Tryz.underlying152, by kernel_rfl, rfl, by decide⟩
def XRow (w : World) (base : Nat) (v : Value) (xs : List Ex) : Prop := w.ownsRow base 60 7 v xs.length (xs.flatMap exC)
theorem flatMap_get {α β : Type} {f : α → List β} {m : Nat} (hf : ∀ a, (f a).length = m) : ∀ (l : List α) (i j : Nat), j < m → (l.flatMap f)[i * m + j]? = l[i]?.bind (fun a => (f a)[j]?)
 | [], i, j, _ => by simp
 | a :: l, 0, j, hj => by simp [List.getElem?_append_left (show j < (f a).length by rw [hf]; exact hj)]
 | a :: l, i + 1, j, hj => by
  rw [List.flatMap_cons, List.getElem?_append_right (by rw [hf, Nat.succ_mul]; omega), hf, show (i + 1) * m + j - m = i * m + j by rw [Nat.succ_mul]; omega, flatMap_get hf l i j hj]
  simp
theorem exC_len (x : Ex) : (exC x).length = 7 := rfl
section
variable {w w' : World} {base : Nat} {v : Value} {xs : List Ex}
theorem XRow.below (h : XRow w base v xs) (hb : Below w.heap.size w w') : XRow w' base v xs := ownsRow_below h hb (Nat.le_refl _)
theorem XRow.low {b : Nat} (h : XRow w base v xs) (hb : b ≤ base) : XRow w b v xs := ownsRow_low h hb
theorem XRow.form (h : XRow w base v xs) : ∃ A cap, v = .slice A xs.length cap ∧ xs.length ≤ cap ∧ xs.length ≤ maxLen ∧ (0 < xs.length → ∃ g, A = some ⟨g, 0, none⟩) := ownsRow_slice h
theorem XRow.node {g n cap k : Nat} {x : Ex} (h : XRow w base (.slice (some ⟨g, 0, none⟩) n cap) xs) (hx : xs[k]? = some x) : ∀ j u, (exC x)[j]? = some u → w.cell? ⟨g, k * 7 + j, none⟩ = some u := fun j u hu => by
 have hk := (List.getElem?_eq_some_iff.1 hx).1
 have hj : j < 7 := by have := (List.getElem?_eq_some_iff.1 hu).1; simpa [exC] using this
 have hn : n = xs.length := by
  rcases ownsRow_form h with ⟨e, _⟩ | ⟨_, _, e, _⟩
  ·cases e
  ·injection e
 subst hn
 unfold XRow at h
 rw [World.ownsRow.cellAt h (k * 7 + j) (by omega), flatMap_get exC_len xs k j hj, hx]
 exact hu
theorem own_rd {rb : Nat} {e : TypeId} {k n : Nat} {us : List Value} (h : w.ownsRow base e k v n us) (hg : Fr rb w w') (ht : Typed w rb 98) (he : e ≠ 98) : w'.ownsRow base e k v n us :=
 World.ownsRow.kept h hg (by
  cases hb : v.ownBlock with
  | none => exact .inl rfl
  | some g =>
   refine .inr (fun e' => ?_)
   injection e' with e'
   subst e'
   obtain ⟨_, cur, hc⟩ := ownsRow_block h hb
   obtain ⟨cs, z, ht⟩ := ht
   rw [hc] at ht
   injection ht with ht
   injection ht with _ ht
   exact he ht)
theorem XRow.rd {rb : Nat} (h : XRow w base v xs) (hg : Fr rb w w') (ht : Typed w rb 98) : XRow w' base v xs := own_rd h hg ht (by decide)
end
theorem Rd.typed {xs : List UInt8} {rb k : Nat} {w : World} {c : Int} (h : Rd xs rb w k c) : Typed w rb 98 := by obtain ⟨_, _, _, _, _, _, _, _, _, _, h⟩ := h; exact ⟨_, _, h⟩
def RowP (w : World) (xs : List Ex) (e : Ending) (w' : World) : Prop := ∃ (A : Option Addr) (n q : Nat), e = .returned (.slice A n q) ∧ Below w.heap.size w w' ∧ XRow w' w.heap.size (.slice A n q) xs
def MvRel (w : World) (xs : List Ex) (d : Int) (s5 s6 : Value) (wr : World) : Prop := ∃ k : Nat, k ≤ xs.length ∧ s6 = .int .i64 k ∧ Below w.heap.size w wr ∧ XRow wr w.heap.size s5 ((xs.take k).map (Ex.shift d))
theorem XRow.nil (w : World) (base : Nat) : XRow w base (.slice none 0 0) [] := ⟨rfl, .inl ⟨rfl, rfl⟩⟩
theorem XRow.snoc {w : World} {base m : Nat} {v : Value} {xs : List Ex} {x : Ex} {cs : List Value} (h : w.ownsRow base 60 7 v m cs) (hm : m = xs.length + 1) (hc : cs = xs.flatMap exC ++ exC x) : XRow w base v (xs ++ [x]) := by
 subst hm hc
 unfold XRow
 rw [List.length_append, List.flatMap_append]
 simpa using h
set_option maxHeartbeats 4000000 in
set_option maxRecDepth 100000 in
theorem moved_any {w : World} {v : Value} {xs : List Ex} {d : Int} (h : XRow w 0 v xs) (hbd : ∀ x ∈ xs, 0 ≤ x.a ∧ x.a ≤ 1000000 ∧ 0 ≤ x.b ∧ x.b ≤ 1000000) (hd : 0 ≤ d ∧ d ≤ 1000000) (hl : xs.length ≤ 1000000) :
  Calls Tryz.prog 110 #[v, .int .i64 d] w fun e w' => RowP w (xs.map (Ex.shift d)) e w' := by
 obtain ⟨A, cap, rfl, -, -, hA⟩ := h.form
 have H := Lib.hid h
 have HA := Lib.hid hA
 have Hbd := Lib.hid hbd
 obtain ⟨hd1, hd2⟩ := hd
 clear h hA hbd
 go_enter Tryz.func110, Tryz.ntmps110
 go_wp2_with fail
 go_loopw [5, 6, 7] (fun s5 s6 _ wr => MvRel w xs d s5 s6 wr) (fun _ v _ _ => xs.length - (intOf v).toNat)
 case atStart => exact ⟨0, Nat.zero_le _, rfl, Below.refl _ _, XRow.nil _ _⟩
 case round =>
  obtain ⟨k, hk, rfl, hb, ho⟩ := hrel
  have Hb := Lib.hid hb
  have hbs := hb.size
  by_cases hlt : k < xs.length
  ·obtain ⟨g, rfl⟩ := HA.out (by omega)
   obtain ⟨x, hx⟩ : ∃ x, xs[k]? = some x := ⟨_, List.getElem?_eq_getElem hlt⟩
   have h3 := (H.out.below hb).node hx
   have c0 := h3 0 _ rfl
   rw [Nat.add_zero] at c0
   have c1 := h3 1 _ rfl
   have c2 := h3 2 _ rfl
   have c3 := h3 3 _ rfl
   have c4 := h3 4 _ rfl
   have c5 := h3 5 _ rfl
   have c6 := h3 6 _ rfl
   have Hx := Lib.hid (show (xs.take (k + 1)).map (Ex.shift d) = (xs.take k).map (Ex.shift d) ++ [Ex.shift d x] by rw [List.take_add_one, hx, List.map_append]; rfl)
   have hkl : ((xs.take k).map (Ex.shift d)).length = k := by rw [List.length_map, List.length_take]; omega
   unfold XRow at ho
   rw [hkl] at ho
   have Ho := Lib.hid ho
   have Hkl := Lib.hid hkl
   obtain ⟨q1, q2, q3, q4⟩ := Hbd.out x (List.mem_of_getElem? hx)
   obtain ⟨x1, x2, x3, x4, x5, x6, x7⟩ := x
   dsimp only at c0 c1 c2 c3 c4 c5 c6 q1 q2 q3 q4
   have hki : (k : Int) < xs.length := by omega
   clear hb ho h3 hx hkl
   by_cases h7 : x1 = 7
   ·subst h7
    have Hsh := Lib.hid (show Ex.shift d ⟨7, x2, x3, x4, x5, x6, x7⟩ = ⟨7, x2, x3, (x4 + d), (x5 + d), x6, x7⟩ by simp [Ex.shift])
    go_wp2_with (at_builtin; refine wpList_append_k elEx rfl (.tmp 49) (.tmp 51) rfl w.heap.size u5 k (wr.heap.size + 1) 1 1 (((xs.take k).map (Ex.shift d)).flatMap exC) [.int .i64 7, .int .i32 x2, .string x3, .int .i64 (x4 + d), .int .i64 (x5 + d), .int .i64 x6, .int .i64 x7] (by simp [Act.eval]) (Ho.out.below' (((Below.refl _ _).alloc (Nat.le_refl _) _).alloc (by simp) _)) (by simp [Act.eval]) rfl (by have hcn := cells_new (wr.alloc (.cells #[.int .i64 7, .int .i32 x2, .string x3, .int .i64 (x4 + d), .int .i64 (x5 + d), .int .i64 x6, .int .i64 x7] 60)) [.int .i64 7, .int .i32 x2, .string x3, .int .i64 (x4 + d), .int .i64 (x5 + d), .int .i64 x6, .int .i64 x7] 60; rw [World.size_alloc] at hcn; exact hcn) (by simp [Value.oneCell']) (by unfold maxLen; omega) (by omega) (by simp; omega) ?_; intro v' w5 h1 h2 h3; have Hp := Lib.hid h1; have Hg := Lib.hid h2; clear h1 h2 h3)
    have hb2 : Below w.heap.size w ((wr.alloc (.cells #[.int .i64 7, .int .i32 x2, .string x3, .int .i64 (x4 + d), .int .i64 (x5 + d), .int .i64 x6, .int .i64 x7] 60)).alloc (.cells #[.int .i64 7, .int .i32 x2, .string x3, .int .i64 (x4 + d), .int .i64 (x5 + d), .int .i64 x6, .int .i64 x7] 60)) := (Hb.out.alloc hbs _).alloc (by simp; omega) _
    exact ⟨⟨k + 1, by omega, by go_num, own_below hb2 (Ho.out.below' (((Below.refl _ _).alloc (Nat.le_refl _) _).alloc (by simp) _)) hb2.size Hg.out, by rw [Hx.out]; exact XRow.snoc Hp.out (by rw [Hkl.out]) (by rw [Hsh.out]; rfl)⟩, by simp [intOf]; omega⟩
   by_cases h8 : x1 = 8
   ·subst h8
    have Hsh := Lib.hid (show Ex.shift d ⟨8, x2, x3, x4, x5, x6, x7⟩ = ⟨8, x2, x3, (x4 + d), (x5 + d), x6, x7⟩ by simp [Ex.shift])
    go_wp2_with (at_builtin; refine wpList_append_k elEx rfl (.tmp 49) (.tmp 51) rfl w.heap.size u5 k (wr.heap.size + 1) 1 1 (((xs.take k).map (Ex.shift d)).flatMap exC) [.int .i64 8, .int .i32 x2, .string x3, .int .i64 (x4 + d), .int .i64 (x5 + d), .int .i64 x6, .int .i64 x7] (by simp [Act.eval]) (Ho.out.below' (((Below.refl _ _).alloc (Nat.le_refl _) _).alloc (by simp) _)) (by simp [Act.eval]) rfl (by have hcn := cells_new (wr.alloc (.cells #[.int .i64 8, .int .i32 x2, .string x3, .int .i64 (x4 + d), .int .i64 (x5 + d), .int .i64 x6, .int .i64 x7] 60)) [.int .i64 8, .int .i32 x2, .string x3, .int .i64 (x4 + d), .int .i64 (x5 + d), .int .i64 x6, .int .i64 x7] 60; rw [World.size_alloc] at hcn; exact hcn) (by simp [Value.oneCell']) (by unfold maxLen; omega) (by omega) (by simp; omega) ?_; intro v' w5 h1 h2 h3; have Hp := Lib.hid h1; have Hg := Lib.hid h2; clear h1 h2 h3)
    have hb2 : Below w.heap.size w ((wr.alloc (.cells #[.int .i64 8, .int .i32 x2, .string x3, .int .i64 (x4 + d), .int .i64 (x5 + d), .int .i64 x6, .int .i64 x7] 60)).alloc (.cells #[.int .i64 8, .int .i32 x2, .string x3, .int .i64 (x4 + d), .int .i64 (x5 + d), .int .i64 x6, .int .i64 x7] 60)) := (Hb.out.alloc hbs _).alloc (by simp; omega) _
    exact ⟨⟨k + 1, by omega, by go_num, own_below hb2 (Ho.out.below' (((Below.refl _ _).alloc (Nat.le_refl _) _).alloc (by simp) _)) hb2.size Hg.out, by rw [Hx.out]; exact XRow.snoc Hp.out (by rw [Hkl.out]) (by rw [Hsh.out]; rfl)⟩, by simp [intOf]; omega⟩
   by_cases h9 : x1 = 9
   ·subst h9
    have Hsh := Lib.hid (show Ex.shift d ⟨9, x2, x3, x4, x5, x6, x7⟩ = ⟨9, x2, x3, (x4 + d), x5, x6, x7⟩ by simp [Ex.shift])
    go_wp2_with (at_builtin; refine wpList_append_k elEx rfl (.tmp 49) (.tmp 51) rfl w.heap.size u5 k (wr.heap.size + 1) 1 1 (((xs.take k).map (Ex.shift d)).flatMap exC) [.int .i64 9, .int .i32 x2, .string x3, .int .i64 (x4 + d), .int .i64 x5, .int .i64 x6, .int .i64 x7] (by simp [Act.eval]) (Ho.out.below' (((Below.refl _ _).alloc (Nat.le_refl _) _).alloc (by simp) _)) (by simp [Act.eval]) rfl (by have hcn := cells_new (wr.alloc (.cells #[.int .i64 9, .int .i32 x2, .string x3, .int .i64 (x4 + d), .int .i64 x5, .int .i64 x6, .int .i64 x7] 60)) [.int .i64 9, .int .i32 x2, .string x3, .int .i64 (x4 + d), .int .i64 x5, .int .i64 x6, .int .i64 x7] 60; rw [World.size_alloc] at hcn; exact hcn) (by simp [Value.oneCell']) (by unfold maxLen; omega) (by omega) (by simp; omega) ?_; intro v' w5 h1 h2 h3; have Hp := Lib.hid h1; have Hg := Lib.hid h2; clear h1 h2 h3)
    have hb2 : Below w.heap.size w ((wr.alloc (.cells #[.int .i64 9, .int .i32 x2, .string x3, .int .i64 (x4 + d), .int .i64 x5, .int .i64 x6, .int .i64 x7] 60)).alloc (.cells #[.int .i64 9, .int .i32 x2, .string x3, .int .i64 (x4 + d), .int .i64 x5, .int .i64 x6, .int .i64 x7] 60)) := (Hb.out.alloc hbs _).alloc (by simp; omega) _
    exact ⟨⟨k + 1, by omega, by go_num, own_below hb2 (Ho.out.below' (((Below.refl _ _).alloc (Nat.le_refl _) _).alloc (by simp) _)) hb2.size Hg.out, by rw [Hx.out]; exact XRow.snoc Hp.out (by rw [Hkl.out]) (by rw [Hsh.out]; rfl)⟩, by simp [intOf]; omega⟩
   ·have e7 : (x1 == 7) = false := by simpa using h7
    have e8 : (x1 == 8) = false := by simpa using h8
    have e9 : (x1 == 9) = false := by simpa using h9
    have Hsh := Lib.hid (show Ex.shift d ⟨x1, x2, x3, x4, x5, x6, x7⟩ = ⟨x1, x2, x3, x4, x5, x6, x7⟩ by unfold Ex.shift; rw [if_neg (by simp only; omega), if_neg (by simp only; omega)])
    go_wp2_with (at_builtin; refine wpList_append_k elEx rfl (.tmp 49) (.tmp 51) rfl w.heap.size u5 k (wr.heap.size + 1) 1 1 (((xs.take k).map (Ex.shift d)).flatMap exC) [.int .i64 x1, .int .i32 x2, .string x3, .int .i64 x4, .int .i64 x5, .int .i64 x6, .int .i64 x7] (by simp [Act.eval]) (Ho.out.below' (((Below.refl _ _).alloc (Nat.le_refl _) _).alloc (by simp) _)) (by simp [Act.eval]) rfl (by have hcn := cells_new (wr.alloc (.cells #[.int .i64 x1, .int .i32 x2, .string x3, .int .i64 x4, .int .i64 x5, .int .i64 x6, .int .i64 x7] 60)) [.int .i64 x1, .int .i32 x2, .string x3, .int .i64 x4, .int .i64 x5, .int .i64 x6, .int .i64 x7] 60; rw [World.size_alloc] at hcn; exact hcn) (by simp [Value.oneCell']) (by unfold maxLen; omega) (by omega) (by simp; omega) ?_; intro v' w5 h1 h2 h3; have Hp := Lib.hid h1; have Hg := Lib.hid h2; clear h1 h2 h3)
    have hb2 : Below w.heap.size w ((wr.alloc (.cells #[.int .i64 x1, .int .i32 x2, .string x3, .int .i64 x4, .int .i64 x5, .int .i64 x6, .int .i64 x7] 60)).alloc (.cells #[.int .i64 x1, .int .i32 x2, .string x3, .int .i64 x4, .int .i64 x5, .int .i64 x6, .int .i64 x7] 60)) := (Hb.out.alloc hbs _).alloc (by simp; omega) _
    exact ⟨⟨k + 1, by omega, by go_num, own_below hb2 (Ho.out.below' (((Below.refl _ _).alloc (Nat.le_refl _) _).alloc (by simp) _)) hb2.size Hg.out, by rw [Hx.out]; exact XRow.snoc Hp.out (by rw [Hkl.out]) (by rw [Hsh.out]; rfl)⟩, by simp [intOf]; omega⟩
  ·obtain rfl : k = xs.length := by omega
   have Ho := Lib.hid ho
   clear hb ho
   go_wp2_with fail
   rw [List.take_length] at Ho
   obtain ⟨A5, q5, rfl, -⟩ := Ho.out.form
   go_ret
   exact ⟨_, _, _, rfl, Hb.out, Ho.out⟩
theorem flat_bd (r : Rx) : ∀ (p : Nat), ∀ x ∈ r.flat p, 0 ≤ x.a ∧ x.a ≤ p + r.size ∧ 0 ≤ x.b ∧ x.b ≤ p + r.size := by
 induction r with
 | cat a b ia ib =>
  intro p x hx
  have := a.size_pos; have := b.size_pos
  simp only [Rx.flat, Rx.size, List.mem_cons, List.mem_append] at hx ⊢
  rcases hx with rfl | hx | hx
  ·simp only; omega
  ·have := ia _ x hx; omega
  ·have := ib _ x hx; omega
 | alt a b ia ib =>
  intro p x hx
  have := a.size_pos; have := b.size_pos
  simp only [Rx.flat, Rx.size, List.mem_cons, List.mem_append] at hx ⊢
  rcases hx with rfl | hx | hx
  ·simp only; omega
  ·have := ia _ x hx; omega
  ·have := ib _ x hx; omega
 | rep y mn mx iy =>
  intro p x hx
  have := y.size_pos
  simp only [Rx.flat, Rx.size, List.mem_cons] at hx ⊢
  rcases hx with rfl | hx
  ·simp only; omega
  ·have := iy _ x hx; omega
 | _ =>
  intro p x hx
  simp only [Rx.flat, Rx.size, List.mem_singleton] at hx ⊢
  subst hx
  simp only; omega
def oneX (k c : Int) : Ex := ⟨k, c, noB, 0, 0, 0, 0⟩
theorem row_lit {w : World} {base g : Nat} {x : Ex} (hg : w.heap[g]? = some (.cells (exC x).toArray 60 (0, 0))) (hb : base ≤ g) : XRow w base (.slice (some ⟨g, 0, none⟩) 1 1) [x] := by
 have := ownsRow_lit (n := 1) (k := 7) hg hb (by unfold maxLen; omega) (by rfl)
 unfold XRow
 simpa using this
theorem one_any (k : Int) (w : World) : Calls Tryz.prog 100 #[.int .i64 k] w fun e w' => RowP w [oneX k 0] e w' := by
 go_enter Tryz.func100, Tryz.ntmps100
 go_wp2
 go_ret
 exact ⟨_, _, _, rfl, alloc_below _ _, row_lit (heap_alloc_new w _) (Nat.le_refl _)⟩
theorem letter_any (c : Int) (w : World) : Calls Tryz.prog 122 #[.int .i32 c] w fun e w' => RowP w [oneX 2 c] e w' := by
 go_enter Tryz.func122, Tryz.ntmps122
 go_wp2
 go_ret
 exact ⟨_, _, _, rfl, alloc_below _ _, row_lit (heap_alloc_new w _) (Nat.le_refl _)⟩
theorem XRow.app {w : World} {base n : Nat} {v : Value} {xs ys : List Ex} {cs : List Value} (h : w.ownsRow base 60 7 v n cs) (hn : n = xs.length + ys.length) (hc : cs = xs.flatMap exC ++ ys.flatMap exC) : XRow w base v (xs ++ ys) := by
 subst hn hc
 unfold XRow
 rw [List.length_append, List.flatMap_append]
 exact h
theorem XRow.sl {w : World} {base : Nat} {v : Value} {xs : List Ex} (h : XRow w base v xs) : SlK 7 w v xs.length (xs.flatMap exC) := SlK.of_own h
theorem exC_one (xs : List Ex) : ∀ u ∈ xs.flatMap exC, u.oneCell' = true := by
 intro u hu
 obtain ⟨x, _, hx⟩ := List.mem_flatMap.1 hu
 simp [exC] at hx
 rcases hx with rfl | rfl | rfl | rfl | rfl | rfl | rfl <;> rfl
def manyX (xs : List Ex) (mn mx : Int) : List Ex := ⟨9, 0, noB, 1, 0, mn, mx⟩ :: xs.map (Ex.shift 1)
set_option maxRecDepth 100000 in
set_option maxHeartbeats 2000000 in
theorem many_any {w : World} {v : Value} {xs : List Ex} (h : XRow w 0 v xs) (h0 : xs ≠ []) (hbd : ∀ x ∈ xs, 0 ≤ x.a ∧ x.a ≤ 1000000 ∧ 0 ≤ x.b ∧ x.b ≤ 1000000) (hl : xs.length ≤ 1000000) (mn mx : Int) :
  Calls Tryz.prog 107 #[v, .int .i64 mn, .int .i64 mx] w fun e w' => RowP w (manyX xs mn mx) e w' := by
 have H := Lib.hid h
 have Hbd := Lib.hid hbd
 have hpos : 0 < xs.length := List.length_pos_iff.2 h0
 clear h hbd h0
 go_enter Tryz.func107, Tryz.ntmps107
 go_wp2_with fail
 have hal := alloc_below w (.cells #[.int .i64 9, .int .i32 0, .string noB, .int .i64 1, .int .i64 0, .int .i64 mn, .int .i64 mx] 60)
 have hown : XRow (w.alloc (.cells #[.int .i64 9, .int .i32 0, .string noB, .int .i64 1, .int .i64 0, .int .i64 mn, .int .i64 mx] 60)) w.heap.size (.slice (some ⟨w.heap.size, 0, none⟩) 1 1) [⟨9, 0, noB, 1, 0, mn, mx⟩] := row_lit (heap_alloc_new w _) (Nat.le_refl _)
 have Hal := Lib.hid hal
 have Hown := Lib.hid hown
 have hsz := hal.size
 clear hal hown
 (with_reducible refine (moved_any (H.out.below Hal.out) Hbd.out (d := 1) (by omega) hl).mono ?_)
 rintro e w1 ⟨A, n, q, rfl, hb1, hx1⟩
 have Hb1 := Lib.hid (Hal.out.trans (hb1.mono hsz))
 have Ho1 := Lib.hid (Hown.out.below hb1)
 have hlm : (xs.map (Ex.shift 1)).length = xs.length := List.length_map _
 have hn : n = xs.length := by obtain ⟨_, _, e, _⟩ := hx1.form; have e := (Value.slice.inj e).2.1; rw [e, hlm]
 subst hn
 obtain ⟨A', q', e, -, -, hA⟩ := hx1.form
 obtain ⟨g, rfl⟩ := hA (by rw [hlm]; exact hpos)
 obtain ⟨rfl, -, rfl⟩ := Value.slice.inj e
 clear e
 have hsl := hx1.sl
 rw [hlm] at hsl
 have Hsl := Lib.hid hsl
 have Hlm := Lib.hid hlm
 clear hb1 hx1 hlm hA hsl
 go_wp2_with (at_builtin; refine wpList_append_sl elEx rfl (.tmp 10) (.tmp 12) rfl w.heap.size (.slice (some ⟨w.heap.size, 0, none⟩) 1 1) 1 ⟨g, 0, none⟩ q xs.length _ ((xs.map (Ex.shift 1)).flatMap exC) (by simp [Act.eval]) Ho1.out (by simp [Act.eval]) Hsl.out (exC_one _) (by unfold maxLen; omega) (by omega) (Hb1.out.size) ?_; intro v' w2 h1 h2 h3; have Hp := Lib.hid h1; have Hg := Lib.hid h2; clear h1 h2 h3)
 obtain ⟨A2, q2, rfl, -, -, -⟩ := ownsRow_slice Hp.out
 go_ret
 exact ⟨A2, _, q2, rfl, own_below Hb1.out Ho1.out Hb1.out.size Hg.out, XRow.app (xs := [⟨9, 0, noB, 1, 0, mn, mx⟩]) Hp.out (by rw [Hlm.out]; rfl) rfl⟩
def twoX (kd : Int) (xs ys : List Ex) : List Ex := ⟨kd, 0, noB, 1, 1 + xs.length, 0, 0⟩ :: (xs.map (Ex.shift 1) ++ ys.map (Ex.shift (1 + xs.length)))
theorem two_flat {a b : Rx} : twoX 7 (a.flat 0) (b.flat 0) = (Rx.cat a b).flat 0 ∧ twoX 8 (a.flat 0) (b.flat 0) = (Rx.alt a b).flat 0 := by
 have h1 := a.flat_shift 0 1
 have h2 := b.flat_shift 0 (1 + a.size)
 rw [Nat.zero_add] at h1 h2
 simp only [twoX, Rx.flat, Nat.zero_add, h1, h2, Rx.flat_len]
 simp
theorem many_flat {a : Rx} {mn mx : Int} : manyX (a.flat 0) mn mx = (Rx.rep a mn mx).flat 0 := by
 have h1 := a.flat_shift 0 1
 rw [Nat.zero_add] at h1
 simp only [manyX, Rx.flat, Nat.zero_add, h1]
 simp
theorem lookz_any {xs : List UInt8} {rb k : Nat} {w : World} {c : Int} (h : Rd xs rb w k c) (z : Int) (m : Nat) (hz : z = m) (hm : m ≤ 1000000000) : Calls Tryz.prog 87 #[.pointer (some ⟨rb, 0, none⟩), .int .i64 z] w fun e w' => LookP (xs.drop m) w e w' := by
 subst hz; exact look_any h m hm
theorem wrongz_any {xs : List UInt8} {rb k : Nat} {w : World} {c : Int} (h : Rd xs rb w k c) (z : Int) (m : Nat) (hz : z = m) (hm : m ≤ 1000000000) : Calls Tryz.prog 61 #[.pointer (some ⟨rb, 0, none⟩), .int .i64 z] w fun e w' => WrongP xs rb w k e w' := by
 subst hz; exact wrong_any h m hm
theorem Rd.setz {xs : List UInt8} {rb k : Nat} {w : World} {c : Int} (h : Rd xs rb w k c) {z : Int} {m : Nat} (hz : z = m) (hm : m ≤ xs.length + 1) : Rd xs rb (w.setCell ⟨rb, 1, none⟩ (.int .i64 z)) m c := by
 subst hz; exact h.setAt hm
def rdAt (rb : Nat) (w : World) : Nat := match w.cell? ⟨rb, 1, none⟩ with | some (.int _ n) => n.toNat | _ => 0
theorem rdAt_of {xs : List UInt8} {rb k : Nat} {w : World} {c : Int} (h : Rd xs rb w k c) : rdAt rb w = k := by
 obtain ⟨_, _, _, _, h1, _, _⟩ := h.cells
 unfold rdAt; rw [h1]; simp
theorem nx_drop_lt {xs : List UInt8} {k : Nat} (h : 0 ≤ nx (xs.drop k)) : k + nl (xs.drop k) ≤ xs.length ∧ 1 ≤ nl (xs.drop k) := by
 have h1 := nl_le (xs.drop k)
 have h2 := nl_pos h
 rw [List.length_drop] at h1
 omega
theorem nx_drop {xs : List UInt8} {k : Nat} {c : Int} (h : nx (xs.drop k) = c) (h0 : 0 ≤ c) (hc : c < 128) : k < xs.length ∧ nl (xs.drop k) = 1 ∧ xs.drop k = UInt8.ofNat c.toNat :: xs.drop (k + 1) := by
 obtain ⟨t, ht, h1⟩ := nx_byte (xs := xs.drop k) (c := c.toNat) (by omega) (by omega)
 have hl := congrArg List.length ht
 rw [List.length_drop] at hl
 simp only [List.length_cons] at hl
 refine ⟨by omega, h1, ?_⟩
 rw [ht, ← List.drop_drop, ht]
 rfl
theorem hasDig_cons (b : UInt8) (t : List UInt8) : hasDig (b :: t) = isDig b := rfl
theorem numF_stop {n : Int} {xs : List UInt8} (h : hasDig xs = false) : numF n xs = (n, xs) := by
 cases xs with
 | nil => rfl
 | cons b t => rw [hasDig_cons] at h; unfold numF; rw [if_neg (by rw [h]; simp)]
theorem hasDig_nx (xs : List UInt8) : hasDig xs = decide (48 ≤ nx xs ∧ nx xs ≤ 57) := by
 cases xs with
 | nil => simp [hasDig, nx]
 | cons b t =>
  by_cases hb : b.toNat < 128
  ·rw [nx_lit b t hb, hasDig_cons]; unfold isDig; rw [Bool.eq_iff_iff]; simp; omega
  ·have h1 : isDig b = false := by unfold isDig; simp; omega
   rw [hasDig_cons, h1]
   symm
   rw [decide_eq_false_iff_not]
   rintro ⟨h2, h3⟩
   obtain ⟨t', ht, _⟩ := nx_byte (xs := b :: t) (c := (nx (b :: t)).toNat) (by omega) (by omega)
   injection ht with ht _
   have := congrArg UInt8.toNat ht
   rw [ofNat8 _ (by omega)] at this
   omega
theorem numF_go {xs : List UInt8} {k : Nat} {c n : Int} (h : nx (xs.drop k) = c) (h1 : 48 ≤ c) (h2 : c ≤ 57) : numF n (xs.drop k) = numF (min (n * 10 + (c - 48)) 1001) (xs.drop (k + 1)) ∧ hasDig (xs.drop k) = true := by
 obtain ⟨hk, _, e⟩ := nx_drop h (by omega) (by omega)
 have hd : isDig (UInt8.ofNat c.toNat) = true := by unfold isDig; rw [ofNat8 _ (by omega)]; simp; omega
 refine ⟨?_, by rw [e]; exact hd⟩
 rw [e]
 show (if isDig (UInt8.ofNat c.toNat) then _ else _) = _
 rw [if_pos hd, ofNat8 _ (by omega), show ((c.toNat : Nat) : Int) = c by omega]
def RnRel (xs : List UInt8) (rb k : Nat) (w : World) (s4 s5 : Value) (wr : World) : Prop := ∃ (k' : Nat) (n : Int), s4 = .int .i64 n ∧ s5 = .bool (decide (k < k')) ∧ (0 ≤ n ∧ n ≤ 1001) ∧ k ≤ k' ∧ Rd xs rb wr k' 0 ∧ Fr rb w wr ∧ numF 0 (xs.drop k) = numF n (xs.drop k') ∧ (k < k' → hasDig (xs.drop k) = true)
def RnP (xs : List UInt8) (rb k : Nat) (w : World) (e : Ending) (w' : World) : Prop := ∃ (k' : Nat) (n : Int), e = .returned (.tuple #[.int .i64 n, .bool (hasDig (xs.drop k))]) ∧ (0 ≤ n ∧ n ≤ 1001) ∧ k ≤ k' ∧ Rd xs rb w' k' 0 ∧ Fr rb w w' ∧ numF 0 (xs.drop k) = (n, xs.drop k')
set_option maxHeartbeats 2000000 in
theorem rnumber_any {xs : List UInt8} {rb k : Nat} {w : World} (h : Rd xs rb w k 0) (hl : xs.length ≤ 1000000) : Calls Tryz.prog 123 #[.pointer (some ⟨rb, 0, none⟩)] w fun e w' => RnP xs rb k w e w' := by
 have H := Lib.hid h
 have hkl := h.le
 clear h
 go_enter Tryz.func123, Tryz.ntmps123
 go_wp2_with fail
 go_loopw [4, 5] (fun s4 s5 wr => RnRel xs rb k w s4 s5 wr) (fun _ _ wr => xs.length - rdAt rb wr)
 case atStart => exact ⟨k, 0, rfl, by simp, by omega, Nat.le_refl _, H.out, Fr.refl _ _, rfl, fun h => by omega⟩
 case round =>
  obtain ⟨k', n, rfl, rfl, ⟨hn1, hn2⟩, hkk, h1, hf, he, hd⟩ := hrel
  have hkl' := h1.le
  have H1 := Lib.hid h1
  have Hf := Lib.hid hf
  have He := Lib.hid he
  have Hd := Lib.hid hd
  obtain ⟨pb, cap, -, c0, c1, c2, f1⟩ := h1.cells
  clear h1 hf he hd
  go_wp2_with fail
  (with_reducible refine (lookz_any H1.out _ k' rfl (by omega)).mono ?_)
  rintro e w1 ⟨rfl, hb⟩
  have h2 := H1.out.below hb
  have Hf2 := Lib.hid (Hf.out.then (Fr.of_below hb))
  obtain ⟨pb2, cap2, -, d0, d1, d2, f2⟩ := h2.cells
  have H2 := Lib.hid h2
  obtain ⟨c, hc⟩ : ∃ c, nx (xs.drop k') = c := ⟨_, rfl⟩
  obtain ⟨m, hm⟩ : ∃ m : Int, ((nl (xs.drop k') : Nat) : Int) = m := ⟨_, rfl⟩
  rw [hc, hm]
  have hcb := nx_le (xs.drop k')
  rw [hc] at hcb
  obtain ⟨hcb1, hcb2⟩ := hcb
  have Hc := Lib.hid hc
  clear hb h2 c0 c1 c2 f1 hc hm
  have hstop : (c < 48 ∨ 57 < c) → RnP xs rb k w (.returned (.tuple #[.int .i64 n, .bool (decide (k < k'))])) w1 := by
   intro hcc
   have hnd : hasDig (xs.drop k') = false := by rw [hasDig_nx, Hc.out]; simp; omega
   refine ⟨k', n, ?_, ⟨hn1, hn2⟩, hkk, H2.out, Hf2.out, by rw [He.out, numF_stop hnd]⟩
   by_cases hlt : k < k'
   ·rw [Hd.out hlt]; simp [hlt]
   ·obtain rfl : k = k' := by omega
    rw [hnd]; simp
  have Hstop := Lib.hid hstop
  clear hstop
  by_cases h48 : c < 48
  ·go_wp2_with fail
   go_ret2
   exact Hstop.out (.inl h48)
  ·by_cases h57 : 57 < c
   ·go_wp2_with fail
    go_ret2
    exact Hstop.out (.inr h57)
   ·have hgo := numF_go (n := n) Hc.out (by omega) (by omega)
    have hlt := nx_drop (xs := xs) (k := k') Hc.out (by omega) (by omega)
    have hk1 : k' + 1 ≤ xs.length := by omega
    have Hgo := Lib.hid hgo
    have H3 := Lib.hid (H2.out.setz (z := (k' : Int) + 1) (m := k' + 1) (by omega) (by omega))
    clear hgo hlt
    go_wp2_with fail
    have hmin : (if 1001 < n * 10 + (c - 48) then 1001 else n * 10 + (c - 48)) = min (n * 10 + (c - 48)) 1001 := by split <;> omega
    refine ⟨⟨k' + 1, min (n * 10 + (c - 48)) 1001, by rw [hmin], by simp; omega, by omega, by omega, H3.out, Hf2.out.then (Fr.set _ _ _ _), He.out.trans Hgo.out.1, fun _ => ?_⟩, by rw [rdAt_of H3.out, rdAt_of H1.out]; omega⟩
    by_cases hkk' : k < k'
    ·exact Hd.out hkk'
    ·obtain rfl : k = k' := by omega
     exact Hgo.out.2
theorem elRune : ElemK 37 21 (.int .i32 0) 1 4 := ⟨Tryz.underlying37, by kernel_rfl, rfl, by decide⟩
def runeV (c : Int) : Value := .int .i32 c
def Rns (w : World) (base : Nat) (v : Value) (l : List Int) : Prop := w.ownsRow base 21 1 v l.length (l.map runeV)
theorem Rns.nil (w : World) (base : Nat) : Rns w base (.slice none 0 0) [] := ⟨rfl, .inl ⟨rfl, rfl⟩⟩
theorem Rns.below {w w' : World} {base : Nat} {v : Value} {l : List Int} (h : Rns w base v l) (hb : Below w.heap.size w w') : Rns w' base v l := ownsRow_below h hb (Nat.le_refl _)
def RnsP (w : World) (l : List Int) (e : Ending) (w' : World) : Prop := ∃ (A : Option Addr) (q : Nat), e = .returned (.slice A l.length q) ∧ Below w.heap.size w w' ∧ Rns w' w.heap.size (.slice A l.length q) l
theorem rns_lit {w : World} {base g : Nat} {l : List Int} {cs : Array Value} (hg : w.heap[g]? = some (.cells cs 21 (0, 0))) (hb : base ≤ g) (hc : cs.toList = l.map runeV) (hl : l.length ≤ 1000) : Rns w base (.slice (some ⟨g, 0, none⟩) l.length l.length) l := by
 have hs : cs.size = l.length * 1 := by rw [← Array.length_toList, hc, List.length_map, Nat.mul_one]
 have := ownsRow_lit (n := l.length) (k := 1) hg hb (by unfold maxLen; omega) hs
 unfold Rns
 rw [← hc]; exact this
theorem rdigits_any (w : World) : Calls Tryz.prog 144 #[] w fun e w' => RnsP w (flatS spDig) e w' := by
 go_enter Tryz.func144, Tryz.ntmps144
 go_wp2
 go_ret
 exact ⟨_, _, rfl, alloc_below _ _, rns_lit (heap_alloc_new w _) (Nat.le_refl _) rfl (by decide)⟩
theorem rwordy_any (w : World) : Calls Tryz.prog 145 #[] w fun e w' => RnsP w (flatS spWord) e w' := by
 go_enter Tryz.func145, Tryz.ntmps145
 go_wp2
 go_ret
 exact ⟨_, _, rfl, alloc_below _ _, rns_lit (heap_alloc_new w _) (Nat.le_refl _) rfl (by decide)⟩
theorem rblanks_any (w : World) : Calls Tryz.prog 146 #[] w fun e w' => RnsP w (flatS spBlank) e w' := by
 go_enter Tryz.func146, Tryz.ntmps146
 go_wp2
 go_ret
 exact ⟨_, _, rfl, alloc_below _ _, rns_lit (heap_alloc_new w _) (Nat.le_refl _) rfl (by decide)⟩
def hexI (c : Int) : Int := if 48 ≤ c ∧ c ≤ 57 then c - 48 else if 97 ≤ c ∧ c ≤ 102 then c - 87 else if 65 ≤ c ∧ c ≤ 70 then c - 55 else -1
def HexP (c : Int) (w : World) (e : Ending) (w' : World) : Prop := e = .returned (.int .i64 (hexI c)) ∧ w = w'
set_option maxHeartbeats 1000000 in
theorem rhex_any (c : Int) (h1 : -2 ≤ c) (h2 : c ≤ 1114111) (w : World) : Calls Tryz.prog 165 #[.int .i32 c] w fun e w' => HexP c w e w' := by
 have hc : (48 ≤ c ∧ c ≤ 57) ∨ (97 ≤ c ∧ c ≤ 102) ∨ (65 ≤ c ∧ c ≤ 70) ∨ (c < 48 ∨ (57 < c ∧ c < 65) ∨ (70 < c ∧ c < 97) ∨ 102 < c) := by omega
 rcases hc with ⟨a, b⟩ | ⟨a, b⟩ | ⟨a, b⟩ | hc
 ·go_enter Tryz.func165, Tryz.ntmps165
  go_wp2_with fail
  go_ret
  exact ⟨by unfold hexI; rw [if_pos ⟨a, b⟩]; rfl, rfl⟩
 ·go_enter Tryz.func165, Tryz.ntmps165
  go_wp2_with fail
  go_ret
  exact ⟨by unfold hexI; rw [if_neg (by omega), if_pos ⟨a, b⟩]; exact ret_int (by omega), rfl⟩
 ·go_enter Tryz.func165, Tryz.ntmps165
  go_wp2_with fail
  go_ret
  exact ⟨by unfold hexI; rw [if_neg (by omega), if_neg (by omega), if_pos ⟨a, b⟩]; exact ret_int (by omega), rfl⟩
 ·have hv : hexI c = -1 := by unfold hexI; rw [if_neg (by omega), if_neg (by omega), if_neg (by omega)]
  rw [show HexP c w = fun e w' => e = .returned (.int .i64 (-1)) ∧ w = w' by unfold HexP; rw [hv]]
  rcases hc with a | ⟨a, b⟩ | ⟨a, b⟩ | a
  all_goals
   go_enter Tryz.func165, Tryz.ntmps165
   go_wp2_with fail
   go_ret
   exact ⟨rfl, rfl⟩
theorem runeVs_one (l : List Int) : ∀ u ∈ l.map runeV, u.oneCell' = true := by
 intro u hu; obtain ⟨c, _, rfl⟩ := List.mem_map.1 hu; rfl
theorem Rns.app {w : World} {base n : Nat} {v : Value} {l m : List Int} {cs : List Value} (h : w.ownsRow base 21 1 v n cs) (hn : n = l.length + m.length) (hc : cs = l.map runeV ++ m.map runeV) : Rns w base v (l ++ m) := by
 subst hn hc; unfold Rns; rw [List.length_append, List.map_append]; exact h
theorem flatS_append (l m : Spans) : flatS (l ++ m) = flatS l ++ flatS m := by
 induction l with
 | nil => rfl
 | cons x l ih => obtain ⟨a, b⟩ := x; simp [flatS, ih]
theorem flatS_len (l : Spans) : (flatS l).length = 2 * l.length := by
 induction l with
 | nil => rfl
 | cons x l ih => obtain ⟨a, b⟩ := x; simp [flatS, ih]; omega
theorem flatS_get (l : Spans) (i : Nat) (a b : Int) (h : l[i]? = some (a, b)) : (flatS l)[2 * i]? = some a ∧ (flatS l)[2 * i + 1]? = some b := by
 induction l generalizing i with
 | nil => simp at h
 | cons x l ih =>
  obtain ⟨c, d⟩ := x
  cases i with
  | zero => simp at h; obtain ⟨rfl, rfl⟩ := h; exact ⟨rfl, rfl⟩
  | succ i =>
   have := ih i (by simpa using h)
   rw [show 2 * (i + 1) = (2 * i + 1) + 1 by omega, show 2 * i + 1 + 1 + 1 = (2 * i + 1) + 1 + 1 by omega]
   simpa [flatS] using this
def OtRel (w : World) (l : Spans) (s3 s4 s5 : Value) (wr : World) : Prop := ∃ (i : Nat) (f : Int) (pre : Spans), i ≤ l.length ∧ s4 = .int .i32 f ∧ (0 ≤ f ∧ f ≤ 1114112) ∧ s5 = .int .i64 ((2 * i : Nat) : Int) ∧ Below w.heap.size w wr ∧ Rns wr w.heap.size s3 (flatS pre) ∧ spOther l = pre ++ othersF f (l.drop i) ∧ pre.length ≤ i
set_option maxHeartbeats 4000000 in
set_option maxRecDepth 100000 in
theorem rothers_any {w : World} {v : Value} {l : Spans} (h : Rns w 0 v (flatS l)) (hb : ∀ p ∈ l, 0 ≤ p.1 ∧ p.1 ≤ 1114111 ∧ 0 ≤ p.2 ∧ p.2 ≤ 1114111) (hl : l.length ≤ 100000) : Calls Tryz.prog 147 #[v] w fun e w' => RnsP w (flatS (spOther l)) e w' := by
 obtain ⟨A, cap, rfl, -, -, hA⟩ := ownsRow_slice h
 rw [flatS_len] at hA ⊢
 have H := Lib.hid h
 have HA := Lib.hid hA
 have Hbd := Lib.hid hb
 clear h hA hb
 go_enter Tryz.func147, Tryz.ntmps147
 go_wp2_with fail
 go_loopw [3, 4, 5] (fun s3 s4 s5 wr => OtRel w l s3 s4 s5 wr) (fun _ _ v _ => 2 * l.length - (intOf v).toNat)
 case atStart => exact ⟨0, 0, [], Nat.zero_le _, rfl, by omega, rfl, Below.refl _ _, Rns.nil _ _, rfl, Nat.le_refl _⟩
 case round =>
  obtain ⟨i, f, pre, hi, rfl, ⟨hf1, hf2⟩, rfl, hb, ho, he, hpl⟩ := hrel
  have Hb := Lib.hid hb
  have hbs := hb.size
  have He := Lib.hid he
  have Ho := Lib.hid ho
  have Hfl := Lib.hid (flatS_len pre)
  by_cases hlt : i < l.length
  ·obtain ⟨g, rfl⟩ := HA.out (by omega)
   obtain ⟨⟨a, b⟩, hx⟩ : ∃ x, l[i]? = some x := ⟨_, List.getElem?_eq_getElem hlt⟩
   obtain ⟨ga, gb⟩ := flatS_get l i a b hx
   have hrow := H.out.below hb
   unfold Rns at hrow
   rw [flatS_len] at hrow
   have ca := ownsRow_cell hrow rfl (2 * i) (by omega)
   have cb := ownsRow_cell hrow rfl (2 * i + 1) (by omega)
   rw [List.getElem?_map, ga] at ca
   rw [List.getElem?_map, gb] at cb
   simp only [Option.map_some, runeV] at ca cb
   obtain ⟨p1, p2, p3, p4⟩ := Hbd.out (a, b) (List.mem_of_getElem? hx)
   dsimp only at p1 p2 p3 p4
   have hdr : l.drop i = (a, b) :: l.drop (i + 1) := by
    obtain ⟨hh, e⟩ := List.getElem?_eq_some_iff.1 hx
    rw [List.drop_eq_getElem_cons hh, e]
   have Hdr := Lib.hid hdr
   have h2i : ((2 * i : Nat) : Int) < ((2 * l.length : Nat) : Int) := by omega
   have hne : some g ≠ u3.ownBlock := by
    intro e
    have h1 := (ownsRow_block ho e.symm).1
    obtain ⟨_, _, h2⟩ := ownsRow_block H.out (g := g) rfl
    have := lt_of_heap h2
    omega
   have Hne := Lib.hid hne
   have Hcb := Lib.hid (cell_later (alloc_below wr (.cells #[.int .i32 f, .int .i32 (a - 1)] 21)) cb)
   clear hb ho he hrow ga gb hx hdr hne
   by_cases hfa : f < a
   ·have Hst := Lib.hid (show spOther l = (pre ++ [(f, a - 1)]) ++ othersF (b + 1) (l.drop (i + 1)) by rw [He.out, Hdr.out, othersF, if_pos hfa, List.append_assoc])
    have Hcn := Lib.hid (cells_new wr [.int .i32 f, .int .i32 (a - 1)] 21)
    have Hoa := Lib.hid (show (wr.alloc (.cells #[.int .i32 f, .int .i32 (a - 1)] 21)).ownsRow w.heap.size 21 1 u3 (2 * pre.length) ((flatS pre).map runeV) by have := Ho.out.below (alloc_below wr (.cells #[.int .i32 f, .int .i32 (a - 1)] 21)); unfold Rns at this; rw [Hfl.out] at this; exact this)
    go_wp2_with (at_builtin; refine wpList_append_k elRune rfl (.tmp 18) (.tmp 25) rfl w.heap.size u3 (2 * pre.length) wr.heap.size 2 2 ((flatS pre).map runeV) [.int .i32 f, .int .i32 (a - 1)] (by simp [Act.eval]) Hoa.out (by simp [Act.eval]) rfl Hcn.out (by simp [Value.oneCell']) (by unfold maxLen; omega) (by omega) (by simp; omega) ?_; intro v' w5 h1 h2 h3; have cb5 := h2.cell Hcb.out Hne.out; have Hp := Lib.hid h1; have Hg := Lib.hid h2; clear h1 h2 h3)
    have hb2 : Below w.heap.size w (wr.alloc (.cells #[.int .i32 f, .int .i32 (a - 1)] 21)) := Hb.out.alloc hbs _
    exact ⟨⟨i + 1, b + 1, pre ++ [(f, a - 1)], by omega, rfl, by omega, by go_num, own_below hb2 Hoa.out hb2.size Hg.out, by rw [flatS_append]; exact Rns.app Hp.out (by rw [Hfl.out]; rfl) rfl, Hst.out, by simp; omega⟩, by simp [intOf]; omega⟩
   ·have Hst := Lib.hid (show spOther l = pre ++ othersF (b + 1) (l.drop (i + 1)) by rw [He.out, Hdr.out, othersF, if_neg hfa, List.nil_append])
    go_wp2_with fail
    exact ⟨⟨i + 1, b + 1, pre, by omega, rfl, by omega, by go_num, Hb.out, Ho.out, Hst.out, by omega⟩, by simp [intOf]; omega⟩
  ·obtain rfl : i = l.length := by omega
   clear hb ho he
   by_cases hfa : f ≤ 1114111
   ·have Hst := Lib.hid (show spOther l = pre ++ [(f, 1114111)] by rw [He.out, List.drop_length, othersF, if_pos hfa])
    have Hcn := Lib.hid (cells_new wr [.int .i32 f, .int .i32 1114111] 21)
    have Hoa := Lib.hid (show (wr.alloc (.cells #[.int .i32 f, .int .i32 1114111] 21)).ownsRow w.heap.size 21 1 u3 (2 * pre.length) ((flatS pre).map runeV) by have := Ho.out.below (alloc_below wr (.cells #[.int .i32 f, .int .i32 1114111] 21)); unfold Rns at this; rw [Hfl.out] at this; exact this)
    go_wp2_with (at_builtin; refine wpList_append_k elRune rfl (.tmp 35) (.tmp 37) rfl w.heap.size u3 (2 * pre.length) wr.heap.size 2 2 ((flatS pre).map runeV) [.int .i32 f, .int .i32 1114111] (by simp [Act.eval]) Hoa.out (by simp [Act.eval]) rfl Hcn.out (by simp [Value.oneCell']) (by unfold maxLen; omega) (by omega) (by simp; omega) ?_; intro v' w5 h1 h2 h3; have Hp := Lib.hid h1; have Hg := Lib.hid h2; clear h1 h2 h3)
    have hb2 : Below w.heap.size w (wr.alloc (.cells #[.int .i32 f, .int .i32 1114111] 21)) := Hb.out.alloc hbs _
    have hfin : Rns w5 w.heap.size v' (flatS (spOther l)) := by rw [Hst.out, flatS_append]; exact Rns.app Hp.out (by rw [Hfl.out]; rfl) rfl
    obtain ⟨A5, q5, rfl, -, -, -⟩ := ownsRow_slice hfin
    go_ret
    exact ⟨A5, q5, rfl, own_below hb2 Hoa.out hb2.size Hg.out, hfin⟩
   ·have Hst := Lib.hid (show spOther l = pre by rw [He.out, List.drop_length, othersF, if_neg hfa, List.append_nil])
    have hfin : Rns wr w.heap.size u3 (flatS (spOther l)) := by rw [Hst.out]; exact Ho.out
    obtain ⟨A5, q5, rfl, -, -, -⟩ := ownsRow_slice hfin
    have Hfin := Lib.hid hfin
    clear hfin
    go_wp2_with fail
    go_ret
    exact ⟨A5, q5, rfl, Hb.out, Hfin.out⟩
end Go.Proofs.YthhnmpkgleelfaaGreatDoor
