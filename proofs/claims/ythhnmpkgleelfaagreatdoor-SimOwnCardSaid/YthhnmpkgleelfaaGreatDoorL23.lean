import Derived.Test.YthhnmpkgleelfaaGreatDoorL22
import Derived.Test.YthhnmpkgleelfaaGreatDoorL4
set_option linter.unusedVariables false
set_option linter.unusedSimpArgs false
namespace Go.Proofs.YthhnmpkgleelfaaGreatDoor
open Go.RowKit
def boolV (b : Bool) : Value := .bool b
theorem elBool : ElemK 47 4 (.bool false) 1 1 := ⟨Tryz.underlying47, by kernel_rfl, rfl, by decide⟩
def Fls (w : World) (base : Nat) (v : Value) (bs : List Bool) : Prop := w.ownsRow base 4 1 v bs.length (bs.map boolV)
theorem Fls.below {w w' : World} {base : Nat} {v : Value} {bs : List Bool} (h : Fls w base v bs) (hb : Below w.heap.size w w') : Fls w' base v bs := ownsRow_below h hb (Nat.le_refl _)
theorem Fls.low {w : World} {base b : Nat} {v : Value} {bs : List Bool} (h : Fls w base v bs) (hb : b ≤ base) : Fls w b v bs := ownsRow_low h hb
theorem Fls.form {w : World} {base : Nat} {v : Value} {bs : List Bool} (h : Fls w base v bs) : ∃ A q, v = .slice A bs.length q ∧ (0 < bs.length → ∃ g, A = some ⟨g, 0, none⟩) := by
 obtain ⟨A, q, e, _, _, hA⟩ := ownsRow_slice h
 exact ⟨A, q, e, hA⟩
theorem Fls.cell {w : World} {base g n q k : Nat} {bs : List Bool} {b : Bool} (h : Fls w base (.slice (some ⟨g, 0, none⟩) n q) bs) (hb : bs[k]? = some b) : w.cell? ⟨g, k, none⟩ = some (.bool b) := by
 obtain ⟨_, _, e, _⟩ := ownsRow_slice h
 obtain ⟨_, rfl, _⟩ := Value.slice.inj e
 have := ownsRow_cell h rfl k (by have := (List.getElem?_eq_some_iff.1 hb).1; omega)
 rw [this, List.getElem?_map, hb]
 rfl
theorem Fls.frozen {w : World} {base g n q : Nat} {bs : List Bool} (h : Fls w base (.slice (some ⟨g, 0, none⟩) n q) bs) (k : Nat) : w.frozen? ⟨g, k, none⟩ = false := by
 obtain ⟨_, _, hg⟩ := ownsRow_block h (g := g) rfl
 exact row_frozen hg k
theorem Fls.set {w : World} {base g n q : Nat} {bs : List Bool} (h : Fls w base (.slice (some ⟨g, 0, none⟩) n q) bs) (k : Nat) (b : Bool) : Fls (w.setCell ⟨g, k, none⟩ (.bool b)) base (.slice (some ⟨g, 0, none⟩) n q) (bs.set k b) ∧ w.grownBy (w.setCell ⟨g, k, none⟩ (.bool b)) (some g) := by
 obtain ⟨_, _, e, _⟩ := ownsRow_slice h
 obtain ⟨_, rfl, _⟩ := Value.slice.inj e
 have := World.ownsRow.stored h k (.bool b)
 refine ⟨?_, this.2⟩
 unfold Fls
 rw [List.length_set, List.map_set]
 exact this.1
theorem run_make_flags (n : Nat) (hn : n ≤ 1000000) (W : World) : (Instr.makeSlice 47 (.int .i64 (n : Int)) (.int .i64 (n : Int))).run Tryz.prog W = .ok (.slice (some ⟨W.heap.size, 0, none⟩) n n) (W.alloc (.cells (Array.replicate n (.bool false)) 4)) := by
 obtain ⟨i0, hi, hz0, hz1, hz2⟩ := info_parts elBool.hi
 have := run_make (P := Tryz.prog) W 47 4 i0 (.bool false) elBool.ht hi hz0 .i64 .i64 n n (by omega) (by omega) (by rw [hz2]; omega) (by omega)
 rw [hz1] at this
 have e : madeCells (Value.bool false).cells ((n : Int).toNat * 1) = (Array.replicate n (.bool false)) := by
  apply Array.ext
  ·simp [madeCells]
  ·intro i h1 h2
   simp [madeCells, Value.cells, Nat.mod_one]
 rw [e] at this
 simpa using this
theorem fls_made (W : World) (n : Nat) (hn : n ≤ 1000000) {base : Nat} (hb : base ≤ W.heap.size) : Fls (W.alloc (.cells (Array.replicate n (.bool false)) 4)) base (.slice (some ⟨W.heap.size, 0, none⟩) n n) (List.replicate n false) := by
 have h := ownsRow_lit (n := n) (k := 1) (base := base) (heap_alloc_new W (.cells (Array.replicate n (.bool false)) 4)) hb (by unfold maxLen; omega) (by simp)
 unfold Fls
 rw [List.length_replicate]
 rw [show (Array.replicate n (Value.bool false)).toList = (List.replicate n false).map boolV by simp [boolV]] at h
 exact h
theorem set_fill {α : Type} {l : List α} {k : Nat} {a d : α} (h : l[k]? = some a) : (l.take k ++ List.replicate (l.length - k) d).set k a = l.take (k + 1) ++ List.replicate (l.length - (k + 1)) d := by
 have hk := (List.getElem?_eq_some_iff.1 h).1
 have h1 : (l.take k).length = k := by rw [List.length_take]; omega
 rw [List.set_append_right _ _ (by omega), h1, Nat.sub_self, show l.length - k = (l.length - (k + 1)) + 1 by omega, List.replicate_succ, List.set_cons_zero, take_next h, List.append_assoc]
 rfl
theorem fill_at {α : Type} {l : List α} {k : Nat} (d : α) (h : k < l.length) : (l.take k ++ List.replicate (l.length - k) d)[k]? = some d := by
 have h1 : (l.take k).length = k := by rw [List.length_take]; omega
 rw [List.getElem?_append_right (by omega), h1, Nat.sub_self, show l.length - k = (l.length - (k + 1)) + 1 by omega, List.replicate_succ]
 rfl
def FlsP (w : World) (bs : List Bool) (e : Ending) (w' : World) : Prop := ∃ (A : Option Addr) (q : Nat), e = .returned (.slice A bs.length q) ∧ Below w.heap.size w w' ∧ Fls w' w.heap.size (.slice A bs.length q) bs
def orL (x y : List Bool) : List Bool := List.zipWith (· || ·) x y
def EiRel (w : World) (z : List Bool) (s6 : Value) (wr : World) : Prop := ∃ k : Nat, k ≤ z.length ∧ s6 = .int .i64 k ∧ Below w.heap.size w wr ∧ Fls wr w.heap.size (.slice (some ⟨w.heap.size, 0, none⟩) z.length z.length) (z.take k ++ List.replicate (z.length - k) false)
theorem below_set {B g k : Nat} {w wr : World} {u : Value} (h : Below B w wr) (hg : B ≤ g) (hs : B ≤ wr.heap.size) : Below B w (wr.setCell ⟨g, k, none⟩ u) :=
 h.grown ⟨rfl, rfl, rfl, by simp, fun i _ hi => Below.heap_setCell wr ⟨g, k, none⟩ u i (fun e => hi (by rw [e]))⟩ hs (fun i e => by cases e; exact hg)
set_option maxHeartbeats 4000000 in
theorem either_any {w : World} {v u : Value} {x y : List Bool} (hx : Fls w 0 v x) (hy : Fls w 0 u y) (hxy : x.length = y.length) (hl : x.length ≤ 1000000) : Calls Tryz.prog 74 #[v, u] w fun e w' => FlsP w (orL x y) e w' := by
 obtain ⟨A, q, rfl, hA⟩ := hx.form
 obtain ⟨B, q2, rfl, hB⟩ := hy.form
 obtain ⟨z, hz⟩ : ∃ z, orL x y = z := ⟨_, rfl⟩
 have hzl : z.length = x.length := by rw [← hz]; unfold orL; rw [List.length_zipWith]; omega
 have Hz := Lib.hid hz
 have H := Lib.hid hx
 have K := Lib.hid hy
 have HA := Lib.hid hA
 have HB := Lib.hid hB
 have hmk := run_make_flags x.length hl
 have Hfl := Lib.hid (fls_made w x.length hl (Nat.le_refl w.heap.size))
 have Hzl := Lib.hid hzl
 have Hxy := Lib.hid hxy
 rw [hz]
 clear hx hy hA hB hz hzl
 rw [← hxy]
 clear hxy
 go_enter Tryz.func74, Tryz.ntmps74
 go_wp2_with fail
 go_loopw [6] (fun s6 wr => EiRel w z s6 wr) (fun v _ => z.length - (intOf v).toNat)
 case atStart =>
  refine ⟨0, Nat.zero_le _, rfl, alloc_below _ _, ?_⟩
  rw [List.take_zero, List.nil_append, Nat.sub_zero, Hzl.out]
  exact Hfl.out
 case round =>
  obtain ⟨k, hk, rfl, hb, ho⟩ := hrel
  have hk2 : k ≤ x.length := by rw [← Hzl.out]; exact hk
  have Hb := Lib.hid hb
  have Ho := Lib.hid ho
  have hbs := hb.size
  by_cases hlt : k < x.length
  ·obtain ⟨g, rfl⟩ := HA.out (by omega)
   obtain ⟨g2, rfl⟩ := HB.out (by have := Hxy.out; omega)
   obtain ⟨a, ha⟩ : ∃ a, x[k]? = some a := ⟨_, List.getElem?_eq_getElem hlt⟩
   obtain ⟨b, hbb⟩ : ∃ b, y[k]? = some b := ⟨_, List.getElem?_eq_getElem (by have := Hxy.out; omega)⟩
   have c1 := (H.out.below hb).cell ha
   have hyb := K.out.below hb
   rw [← Hxy.out] at hyb
   have c2 := hyb.cell hbb
   have hzk : z[k]? = some (a || b) := by rw [← Hz.out]; unfold orL; rw [List.getElem?_zipWith, ha, hbb]
   have hf := ho.frozen k
   have Hst := Lib.hid (ho.set k (a || b))
   rw [set_fill hzk] at Hst
   have hki : (k : Int) < x.length := by omega
   have hlx : z.length = x.length := Hzl.out
   have Hlx := Lib.hid hlx
   have c3 := ho.cell (fill_at false (l := z) (k := k) (by omega))
   clear ha hbb hyb hzk hb ho hlx
   cases a
   ·go_wp2_with fail
    refine ⟨⟨k + 1, by rw [Hlx.out]; omega, by go_num, below_set Hb.out (Nat.le_refl _) hbs, Hst.out.1⟩, by simp [intOf]; have := Hlx.out; omega⟩
   ·go_wp2_with fail
    refine ⟨⟨k + 1, by rw [Hlx.out]; omega, by go_num, below_set Hb.out (Nat.le_refl _) hbs, Hst.out.1⟩, by simp [intOf]; have := Hlx.out; omega⟩
  ·have hkx : k = x.length := by omega
   subst hkx
   rw [← Hzl.out, List.take_length, Nat.sub_self, List.replicate_zero, List.append_nil] at Ho
   clear hb ho
   go_wp2_with fail
   go_ret
   rw [← Hzl.out]
   exact ⟨_, _, rfl, Hb.out, Ho.out⟩
def BoRel (w : World) (x : List Bool) (s3 s4 : Value) (wr : World) : Prop := ∃ (k : Nat) (A : Option Addr) (q : Nat), k ≤ x.length ∧ s3 = .slice A k q ∧ s4 = .int .i64 k ∧ Below w.heap.size w wr ∧ wr.ownsRow w.heap.size 4 1 (.slice A k q) k ((x.take k).map boolV)
set_option maxHeartbeats 4000000 in
theorem bools_any {w : World} {v : Value} {x : List Bool} (hx : Fls w 0 v x) (hl : x.length ≤ 1000000) : Calls Tryz.prog 72 #[v] w fun e w' => FlsP w x e w' := by
 obtain ⟨A, q, rfl, hA⟩ := hx.form
 obtain ⟨cur, hcur, hmk⟩ := run_make_k elBool x.length (by unfold maxLen; omega) (by omega)
 have H := Lib.hid hx
 have HA := Lib.hid hA
 have Hcur := Lib.hid hcur
 clear hx hA hcur
 go_enter Tryz.func72, Tryz.ntmps72
 go_wp2_with fail
 go_loopw [3, 4] (fun s3 s4 wr => BoRel w x s3 s4 wr) (fun _ v _ => x.length - (intOf v).toNat)
 case atStart => exact ⟨0, _, _, Nat.zero_le _, rfl, rfl, alloc_below _ _, ownsRow_made (heap_alloc_new _ _) (Nat.le_refl _) (by unfold maxLen; omega) Hcur.out⟩
 case round =>
  obtain ⟨k, A3, q3, hk, rfl, rfl, hb, ho⟩ := hrel
  have Hb := Lib.hid hb
  have Ho := Lib.hid ho
  have hbs := hb.size
  by_cases hlt : k < x.length
  ·obtain ⟨g, rfl⟩ := HA.out (by omega)
   obtain ⟨a, ha⟩ : ∃ a, x[k]? = some a := ⟨_, List.getElem?_eq_getElem hlt⟩
   have c1 := (H.out.below hb).cell ha
   have Hs := Lib.hid (show x.take (k + 1) = x.take k ++ [a] from take_next ha)
   have hki : (k : Int) < x.length := by omega
   have Hoa := Lib.hid (ownsRow_below ho (alloc_below wr (.cells #[.bool a] 4)) (Nat.le_refl _))
   have Hcn := Lib.hid (cells_new wr [boolV a] 4)
   clear hb ho ha
   go_wp2_with (at_builtin; refine wpList_append_k elBool rfl (.tmp 14) (.tmp 19) rfl w.heap.size (.slice A3 k q3) k wr.heap.size 1 1 ((x.take k).map boolV) [boolV a] (by simp [Act.eval]) Hoa.out (by simp [Act.eval]) rfl Hcn.out (by simp [boolV, Value.oneCell']) (by unfold maxLen; omega) (by omega) (by simp; omega) ?_; intro v' w5 h1 h2 h3; have Hp := Lib.hid h1; have Hg := Lib.hid h2; clear h1 h2 h3)
   obtain ⟨A5, q5, rfl, -, -, -⟩ := ownsRow_slice Hp.out
   have hb2 : Below w.heap.size w (wr.alloc (.cells #[.bool a] 4)) := Hb.out.alloc hbs _
   refine ⟨⟨k + 1, A5, q5, by omega, rfl, by go_num, own_below hb2 Hoa.out hb2.size Hg.out, ?_⟩, by simp [intOf]; omega⟩
   rw [Hs.out, List.map_append]
   exact Hp.out
  ·obtain rfl : k = x.length := by omega
   rw [List.take_length] at Ho
   clear hb ho
   go_wp2_with fail
   go_ret
   exact ⟨A3, q3, rfl, Hb.out, Ho.out⟩
def SbRel (w : World) (x y : List Bool) (s5 : Value) (wr : World) : Prop := ∃ k : Nat, k ≤ x.length ∧ s5 = .int .i64 k ∧ Below w.heap.size w wr ∧ x.take k = y.take k
def SbP (w : World) (x y : List Bool) (e : Ending) (w' : World) : Prop := e = .returned (.bool (decide (x = y))) ∧ Below w.heap.size w w'
set_option maxHeartbeats 4000000 in
theorem samebools_any {w : World} {v u : Value} {x y : List Bool} (hx : Fls w 0 v x) (hy : Fls w 0 u y) (hl : x.length ≤ 1000000) (hxy : x.length = y.length) : Calls Tryz.prog 34 #[v, u] w fun e w' => SbP w x y e w' := by
 obtain ⟨A, q, rfl, hA⟩ := hx.form
 obtain ⟨B, q2, rfl, hB⟩ := hy.form
 have H := Lib.hid hx
 have K := Lib.hid hy
 have HA := Lib.hid hA
 have HB := Lib.hid hB
 have Hxy := Lib.hid hxy
 clear hx hy hA hB
 rw [← hxy]
 clear hxy
 go_enter Tryz.func34, Tryz.ntmps34
 go_wp2_with fail
 go_loopw [5] (fun s5 wr => SbRel w x y s5 wr) (fun v _ => x.length - (intOf v).toNat)
 case atStart => exact ⟨0, Nat.zero_le _, rfl, Below.refl _ _, by simp⟩
 case round =>
  obtain ⟨k, hk, rfl, hb, ht⟩ := hrel
  have Hb := Lib.hid hb
  have Ht := Lib.hid ht
  have hbs := hb.size
  by_cases hlt : k < x.length
  ·obtain ⟨g, rfl⟩ := HA.out (by omega)
   obtain ⟨g2, rfl⟩ := HB.out (by have := Hxy.out; omega)
   obtain ⟨a, ha⟩ : ∃ a, x[k]? = some a := ⟨_, List.getElem?_eq_getElem hlt⟩
   obtain ⟨b, hbb⟩ : ∃ b, y[k]? = some b := ⟨_, List.getElem?_eq_getElem (by have := Hxy.out; omega)⟩
   have c1 := (H.out.below hb).cell ha
   have hyb := K.out.below hb
   rw [← Hxy.out] at hyb
   have c2 := hyb.cell hbb
   have Hs := Lib.hid (show x.take (k + 1) = x.take k ++ [a] from take_next ha)
   have Hs2 := Lib.hid (show y.take (k + 1) = y.take k ++ [b] from take_next hbb)
   have Hne := Lib.hid (show a ≠ b → x ≠ y from fun h e => by subst e; rw [ha] at hbb; exact h (Option.some.inj hbb))
   have hki : (k : Int) < x.length := by omega
   clear ha hbb hyb hb ht
   by_cases he : a = b
   ·subst he
    have hbe : (a == a) = true := by simp
    go_wp2_with fail
    go_quiet (fail)
    go_wp2_with fail
    exact ⟨⟨k + 1, by omega, by go_num, blw_drewN Hb.out _, by rw [Hs.out, Hs2.out, Ht.out]⟩, by simp [intOf]; omega⟩
   ·have hbe : (a == b) = false := by simpa using he
    have hd : decide (x = y) = false := decide_eq_false (Hne.out he)
    have Hd := Lib.hid hd
    clear hd he
    go_wp2_with fail
    go_quiet (fail)
    go_wp2_with fail
    go_ret
    exact ⟨by rw [Hd.out]; rfl, blw_drewN Hb.out _⟩
  ·obtain rfl : k = x.length := by omega
   have hd : decide (x = y) = true := decide_eq_true (by have := ht; rw [List.take_length, Hxy.out, List.take_length] at this; exact this)
   have Hd := Lib.hid hd
   clear hd hb ht
   go_wp2_with fail
   go_ret
   exact ⟨by rw [Hd.out]; rfl, Hb.out⟩
def FrmP (s : List Int) (r : Rx) (w : World) (x : List Bool) (e : Ending) (w' : World) : Prop := ∃ (y : List Bool) (A : Option Addr) (q : Nat), e = .returned (.slice A y.length q) ∧ Below w.heap.size w w' ∧ Fls w' 0 (.slice A y.length q) y ∧ Img (Mt s r) x y
def FrAt (s : List Int) (r : Rx) : Prop := ∀ (p : Nat) (w : World) (v vs inn : Value) (ys : List Ex) (x : List Bool), XRow w 0 v ys → SubAt ys p r → ys.length ≤ 100000 → Rns w 0 vs s → s.length ≤ 100000 → Fls w 0 inn x → x.length = s.length + 1 → Calls Tryz.prog 48 #[v, .int .i64 p, vs, inn] w fun e w' => FrmP s r w x e w'
theorem FrAt.go {s : List Int} {r : Rx} (h : FrAt s r) {z : Int} (p : Nat) (hz : z = p) {w : World} {v vs inn : Value} {ys : List Ex} {x : List Bool} (h1 : XRow w 0 v ys) (h2 : SubAt ys p r) (h3 : ys.length ≤ 100000) (h4 : Rns w 0 vs s) (h5 : s.length ≤ 100000) (h6 : Fls w 0 inn x) (h7 : x.length = s.length + 1) : Calls Tryz.prog 48 #[v, .int .i64 z, vs, inn] w fun e w' => FrmP s r w x e w' := by subst hz; exact h p w v vs inn ys x h1 h2 h3 h4 h5 h6 h7
def Rp1 (w : World) (R : Nat → Nat → Prop) (x : List Bool) (mn : Nat) (s9 s10 : Value) (wr : World) : Prop := ∃ (i : Nat) (st : List Bool) (A : Option Addr) (q : Nat), s9 = .slice A st.length q ∧ s10 = .int .i64 i ∧ Below w.heap.size w wr ∧ Fls wr 0 (.slice A st.length q) st ∧ ((i ≤ mn ∧ Img (Pw R i) x st) ∨ (i = mn + 1 ∧ Img (Pw R mn) x st))
def Rp2 (w : World) (R : Nat → Nat → Prop) (x : List Bool) (mn : Nat) (mx : Int) (s9 s13 s14 : Value) (wr : World) : Prop := ∃ (i : Nat) (st out : List Bool) (A B : Option Addr) (q q2 : Nat), s9 = .slice A st.length q ∧ s13 = .slice B out.length q2 ∧ s14 = .int .i64 i ∧ Below w.heap.size w wr ∧ Fls wr 0 (.slice A st.length q) st ∧ Fls wr 0 (.slice B out.length q2) out ∧ mn ≤ i ∧ (mx < 0 ∨ (i : Int) ≤ mx) ∧ Img (Pw R i) x st ∧ Img (Bt R mn i) x out ∧ i ≤ mn + out.count true
set_option maxHeartbeats 16000000 in
set_option maxRecDepth 100000 in
theorem repeat_any {s : List Int} {r : Rx} {p : Nat} {w : World} {v vs inn : Value} {ys : List Ex} {x : List Bool} {za mx : Int} {mn : Nat} (hfr : FrAt s r) (hza : za = ((p + 1 : Nat) : Int)) (h1 : XRow w 0 v ys) (h2 : SubAt ys (p + 1) r) (h3 : ys.length ≤ 100000) (h4 : Rns w 0 vs s) (h5 : s.length ≤ 100000) (h6 : Fls w 0 inn x) (h7 : x.length = s.length + 1)
  (hmn : mn ≤ 1000) (hmx : mx = -1 ∨ ((mn : Int) ≤ mx ∧ mx ≤ 1000)) : Calls Tryz.prog 75 #[v, .agg #[.int .i64 9, .int .i32 0, .string noB, .int .i64 za, .int .i64 0, .int .i64 mn, .int .i64 mx], vs, inn] w fun e w' => FrmP s (.rep r mn mx) w x e w' := by
 obtain ⟨A0, q0, rfl, -⟩ := h6.form
 have Hfr := Lib.hid hfr
 have Hza := Lib.hid hza
 have Hx := Lib.hid h1
 have Hs := Lib.hid h2
 have Hv := Lib.hid h4
 have Hin := Lib.hid h6
 have H7 := Lib.hid h7
 clear hfr hza h1 h2 h4 h6 h7
 have hal := alloc_below w (.cells #[.int .i64 9, .int .i32 0, .string noB, .int .i64 za, .int .i64 0, .int .i64 mn, .int .i64 mx] 60)
 have Hbx := Lib.hid (heap_alloc_new w (.cells #[.int .i64 9, .int .i32 0, .string noB, .int .i64 za, .int .i64 0, .int .i64 mn, .int .i64 mx] 60))
 have Hal := Lib.hid hal
 clear hal
 go_enter Tryz.func75, Tryz.ntmps75
 go_wp2_with fail
 generalize w.alloc (.cells #[.int .i64 9, .int .i32 0, .string noB, .int .i64 za, .int .i64 0, .int .i64 mn, .int .i64 mx] 60) = w1 at *
 have hs1 := Hal.out.size
 go_loopw [9, 10, 11, 12] (fun s9 s10 _ _ wr => Rp1 w1 (Mt s r) x mn s9 s10 wr) (fun _ v _ _ _ => mn + 1 - (intOf v).toNat)
 case atStart => exact ⟨0, x, A0, q0, rfl, rfl, Below.refl _ _, Hin.out.below Hal.out, .inl ⟨Nat.zero_le _, Img.id x⟩⟩
 case round =>
  obtain ⟨i, st, A, q, rfl, rfl, hb, hst, hi⟩ := hrel
  have Hb := Lib.hid hb
  have Hst := Lib.hid hst
  have Hi := Lib.hid hi
  have hbx := (hb.block _ (lt_of_heap Hbx.out)).trans Hbx.out
  have c3 := row_cell hbx (j := 3) (u := .int .i64 za) rfl
  have c5 := row_cell hbx (j := 5) (u := .int .i64 mn) rfl
  have c6 := row_cell hbx (j := 6) (u := .int .i64 mx) rfl
  have Hbx9 := Lib.hid hbx
  have hbs := hb.size
  clear hb hst hbx
  by_cases hlt : i < mn
  ·have hltI : (i : Int) < (mn : Int) := by omega
   have hpw : Img (Pw (Mt s r) i) x st := by rcases hi with h | h; (· exact h.2); (· omega)
   have hstl : st.length = s.length + 1 := by rw [hpw.1, H7.out]
   have Hpw := Lib.hid hpw
   have Hx9 := Lib.hid ((Hx.out.below Hal.out).below Hb.out)
   have Hv9 := Lib.hid ((Hv.out.below Hal.out).below Hb.out)
   have Hstl := Lib.hid hstl
   clear hi hpw hstl
   go_wp2_with fail
   (with_reducible refine (Hfr.out.go (p + 1) Hza.out Hx9.out Hs.out h3 Hv9.out h5 Hst.out Hstl.out).mono ?_)
   rintro e w2 ⟨y, A2, q2, rfl, hb2, hy, himg⟩
   have hyl := himg.1
   have Hb2 := Lib.hid (Hb.out.trans (hb2.mono hbs))
   have Hy := Lib.hid hy
   have Himg := Lib.hid himg
   have Hst2 := Lib.hid (Hst.out.below hb2)
   have Hbx2 := Lib.hid ((hb2.block _ (lt_of_heap Hbx9.out)).trans Hbx9.out)
   have Hyl := Lib.hid hyl
   clear hb2 hy himg c3 c5 c6 hyl
   go_wp2_with fail
   (with_reducible refine (samebools_any Hy.out Hst2.out (by have := Hyl.out; have := Hstl.out; omega) Hyl.out).mono ?_)
   rintro e w3 ⟨rfl, hb3⟩
   have Hb3 := Lib.hid (Hb2.out.trans (hb3.mono Hb2.out.size))
   have Hy3 := Lib.hid (Hy.out.below hb3)
   have hbx3 := (hb3.block _ (lt_of_heap Hbx2.out)).trans Hbx2.out
   have c5 := row_cell hbx3 (j := 5) (u := .int .i64 mn) rfl
   have hpy := Hpw.out.comp Himg.out
   have Hpy := Lib.hid (show Img (Pw (Mt s r) (i + 1)) x y from hpy)
   clear hb3 hbx3 hpy
   by_cases he : y = st
   ·have hd : decide (y = st) = true := decide_eq_true he
    have Hfull := Lib.hid (show Img (Pw (Mt s r) mn) x y by
     have h9 := Pw.stay Hpw.out (by have := Himg.out; rwa [he] at this) (mn - i)
     rw [show i + (mn - i) = mn by omega] at h9
     rw [he]; exact h9)
    rw [hd]
    clear he hd
    go_wp2_with fail
    exact ⟨⟨mn + 1, y, A2, q2, rfl, by go_num, Hb3.out, Hy3.out, .inr ⟨rfl, Hfull.out⟩⟩, by simp [intOf]; omega⟩
   ·have hd : decide (y = st) = false := decide_eq_false he
    rw [hd]
    clear he hd
    go_wp2_with fail
    exact ⟨⟨i + 1, y, A2, q2, rfl, by go_num, Hb3.out, Hy3.out, .inl ⟨by omega, Hpy.out⟩⟩, by simp [intOf]; omega⟩
  ·have hpw : Img (Pw (Mt s r) mn) x st := by
    rcases hi with h | h
    ·have e : i = mn := by omega
     rw [← e]; exact h.2
    ·exact h.2
   have hltI : ¬ (i : Int) < (mn : Int) := by omega
   have Hpw := Lib.hid hpw
   clear hi hpw
   go_wp2_with fail
   obtain ⟨wo, hwo⟩ : ∃ wo : World, wr = wo := ⟨_, rfl⟩
   subst hwo
   go_loopw [9, 13, 14, 15, 16] (fun s9 s13 s14 _ _ wx => Rp2 w1 (Mt s r) x mn mx s9 s13 s14 wx) (fun _ _ v _ _ _ => x.length + mn + 2 - (intOf v).toNat)
   case atStart => exact ⟨mn, st, st, A, A, q, q, rfl, rfl, rfl, Hb.out, Hst.out, Hst.out, Nat.le_refl _, by omega, Hpw.out, Bt.start Hpw.out, by omega⟩
   case round =>
    clear c3 c5 c6
    obtain ⟨i2, st2, out, A2, B2, q2, q3, rfl, rfl, rfl, hb2, hs2, ho2, hi1, hi2, hp2, hbt, hcnt⟩ := hrel
    have hbx2 := (hb2.block _ (lt_of_heap Hbx.out)).trans Hbx.out
    have c3 := row_cell hbx2 (j := 3) (u := .int .i64 za) rfl
    have c6 := row_cell hbx2 (j := 6) (u := .int .i64 mx) rfl
    have Hbx2 := Lib.hid hbx2
    have Hb2 := Lib.hid hb2
    have Hs2 := Lib.hid hs2
    have Ho2 := Lib.hid ho2
    have Hp2 := Lib.hid hp2
    have Hbt := Lib.hid hbt
    have Hcnt := Lib.hid hcnt
    have Hol := Lib.hid hbt.1
    have Hsl := Lib.hid (hp2.1.trans H7.out)
    have hcl := count_le out
    have hbs2 := hb2.size
    have hix : i2 ≤ x.length + mn := by have := hbt.1; omega
    have Hx9 := Lib.hid ((Hx.out.below Hal.out).below hb2)
    have Hv9 := Lib.hid ((Hv.out.below Hal.out).below hb2)
    clear hb2 hs2 ho2 hp2 hbt hcnt hcl hbx2
    have hxl : x.length ≤ 100001 := by have := H7.out; omega
    have body : ∀ (K : mx < 0 ∨ (mx ≠ -1 ∧ (i2 : Int) < mx)), mx < 0 ∨ (i2 : Int) + 1 ≤ mx := fun K => by omega
    have Hbody := Lib.hid body
    clear body
    by_cases hgo : mx < 0 ∨ (i2 : Int) < mx
    ·have hgo2 : mx < 0 ∨ (i2 : Int) + 1 ≤ mx := by omega
     by_cases hneg : mx < 0
     ·skip
      go_wp2_with fail
      (with_reducible refine (Hfr.out.go (p + 1) Hza.out Hx9.out Hs.out h3 Hv9.out h5 Hs2.out Hsl.out).mono ?_)
      rintro e w3 ⟨y, A3, q4, rfl, hb3, hy, himg⟩
      have Hb3 := Lib.hid (Hb2.out.trans (hb3.mono hbs2))
      have Hy := Lib.hid hy
      have Hpy := Lib.hid (show Img (Pw (Mt s r) (i2 + 1)) x y from Hp2.out.comp himg)
      have Ho3 := Lib.hid (Ho2.out.below hb3)
      have Hyl := Lib.hid (show out.length = y.length by have := himg.1; have := Hsl.out; have := Hol.out; have := H7.out; omega)
      clear hb3 hy himg c3 c6
      go_wp2_with fail
      (with_reducible refine (either_any Ho3.out Hy.out Hyl.out (by have := Hol.out; omega)).mono ?_)
      rintro e w4 ⟨A4, q5, rfl, hb4, hm4⟩
      rw [show orL out y = orZ out y from rfl] at hm4 ⊢
      have Hb4 := Lib.hid (Hb3.out.trans (hb4.mono Hb3.out.size))
      have Hm4 := Lib.hid (hm4.low (Nat.zero_le _))
      have Ho4 := Lib.hid (Ho3.out.below hb4)
      have Hy4 := Lib.hid (Hy.out.below hb4)
      have Hbt4 := Lib.hid (Bt.next hi1 Hbt.out Hpy.out)
      have Hml := Lib.hid Hbt4.out.1
      have Hmc := Lib.hid (or_count out y Hyl.out)
      clear hb4 hm4
      obtain ⟨more, hmore⟩ : ∃ m, orZ out y = m := ⟨_, rfl⟩
      rw [hmore] at Hm4 Hbt4 Hml Hmc ⊢
      clear hmore
      go_wp2_with fail
      (with_reducible refine (samebools_any Hm4.out Ho4.out (by have := Hml.out; omega) (by have := Hml.out; have := Hol.out; omega)).mono ?_)
      rintro e w5 ⟨rfl, hb5⟩
      have Hb5 := Lib.hid (Hb4.out.trans (hb5.mono Hb4.out.size))
      have Hm5 := Lib.hid (Hm4.out.below hb5)
      have Hy5 := Lib.hid (Hy4.out.below hb5)
      have hbx5 := (Hb5.out.block _ (lt_of_heap Hbx.out)).trans Hbx.out
      have c6 := row_cell hbx5 (j := 6) (u := .int .i64 mx) rfl
      clear hb5 hbx5
      by_cases he : more = out
      ·have hd : decide (more = out) = true := decide_eq_true he
       have hfin := Lib.hid (show Img (Mt s (.rep r mn mx)) x more by rw [he]; exact rep_full rfl (by omega) hi1 Hbt.out (by have := Hbt4.out; rwa [he] at this))
       rw [hd]
       clear he hd
       go_wp2_with fail
       go_ret
       exact ⟨more, A4, q5, rfl, Hal.out.trans (Hb5.out.mono hs1), Hm5.out, hfin.out⟩
      ·have hd : decide (more = out) = false := decide_eq_false he
       have hcc := Hmc.out he
       rw [hd]
       clear he hd
       have Hcc := Lib.hid hcc
       clear hcc
       go_wp2_with fail
       refine ⟨⟨i2 + 1, y, more, A3, A4, q4, q5, rfl, rfl, by go_num, Hb5.out, Hy5.out, Hm5.out, by omega, by omega, Hpy.out, Hbt4.out, by have := Hcc.out; have := Hcnt.out; omega⟩, by simp [intOf]; omega⟩
     ·have hlt2 : (i2 : Int) < mx := by omega
      go_wp2_with fail
      (with_reducible refine (Hfr.out.go (p + 1) Hza.out Hx9.out Hs.out h3 Hv9.out h5 Hs2.out Hsl.out).mono ?_)
      rintro e w3 ⟨y, A3, q4, rfl, hb3, hy, himg⟩
      have Hb3 := Lib.hid (Hb2.out.trans (hb3.mono hbs2))
      have Hy := Lib.hid hy
      have Hpy := Lib.hid (show Img (Pw (Mt s r) (i2 + 1)) x y from Hp2.out.comp himg)
      have Ho3 := Lib.hid (Ho2.out.below hb3)
      have Hyl := Lib.hid (show out.length = y.length by have := himg.1; have := Hsl.out; have := Hol.out; have := H7.out; omega)
      clear hb3 hy himg c3 c6
      go_wp2_with fail
      (with_reducible refine (either_any Ho3.out Hy.out Hyl.out (by have := Hol.out; omega)).mono ?_)
      rintro e w4 ⟨A4, q5, rfl, hb4, hm4⟩
      rw [show orL out y = orZ out y from rfl] at hm4 ⊢
      have Hb4 := Lib.hid (Hb3.out.trans (hb4.mono Hb3.out.size))
      have Hm4 := Lib.hid (hm4.low (Nat.zero_le _))
      have Ho4 := Lib.hid (Ho3.out.below hb4)
      have Hy4 := Lib.hid (Hy.out.below hb4)
      have Hbt4 := Lib.hid (Bt.next hi1 Hbt.out Hpy.out)
      have Hml := Lib.hid Hbt4.out.1
      have Hmc := Lib.hid (or_count out y Hyl.out)
      clear hb4 hm4
      obtain ⟨more, hmore⟩ : ∃ m, orZ out y = m := ⟨_, rfl⟩
      rw [hmore] at Hm4 Hbt4 Hml Hmc ⊢
      clear hmore
      go_wp2_with fail
      (with_reducible refine (samebools_any Hm4.out Ho4.out (by have := Hml.out; omega) (by have := Hml.out; have := Hol.out; omega)).mono ?_)
      rintro e w5 ⟨rfl, hb5⟩
      have Hb5 := Lib.hid (Hb4.out.trans (hb5.mono Hb4.out.size))
      have Hm5 := Lib.hid (Hm4.out.below hb5)
      have Hy5 := Lib.hid (Hy4.out.below hb5)
      have hbx5 := (Hb5.out.block _ (lt_of_heap Hbx.out)).trans Hbx.out
      have c6 := row_cell hbx5 (j := 6) (u := .int .i64 mx) rfl
      clear hb5 hbx5
      by_cases he : more = out
      ·have hd : decide (more = out) = true := decide_eq_true he
       have hfin := Lib.hid (show Img (Mt s (.rep r mn mx)) x more by rw [he]; exact rep_full rfl (by omega) hi1 Hbt.out (by have := Hbt4.out; rwa [he] at this))
       rw [hd]
       clear he hd
       go_wp2_with fail
       go_ret
       exact ⟨more, A4, q5, rfl, Hal.out.trans (Hb5.out.mono hs1), Hm5.out, hfin.out⟩
      ·have hd : decide (more = out) = false := decide_eq_false he
       have hcc := Hmc.out he
       rw [hd]
       clear he hd
       have Hcc := Lib.hid hcc
       clear hcc
       go_wp2_with fail
       refine ⟨⟨i2 + 1, y, more, A3, A4, q4, q5, rfl, rfl, by go_num, Hb5.out, Hy5.out, Hm5.out, by omega, by omega, Hpy.out, Hbt4.out, by have := Hcc.out; have := Hcnt.out; omega⟩, by simp [intOf]; omega⟩
    ·have hneg : ¬ mx < 0 := by omega
     have hge : ¬ (i2 : Int) < mx := by omega
     have hfin := Lib.hid (rep_end (mn := (mn : Int)) (mx := mx) rfl (by omega) Hbt.out)
     go_wp2_with fail
     go_ret
     exact ⟨out, B2, q3, rfl, Hal.out.trans (Hb2.out.mono hs1), Ho2.out, hfin.out⟩
end Go.Proofs.YthhnmpkgleelfaaGreatDoor
