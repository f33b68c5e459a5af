import Derived.Test.YthhnmpkgleelfaaGreatDoorM24
import Derived.Deep.RegionHeld
import Derived.Test.YthhnmpkgleelfaaGreatDoorM15
import Derived.Test.YthhnmpkgleelfaaGreatDoorM6
import Derived.Deep.QuietTactic
import Derived.BigQuiet
import Derived.Shelf.Unicode.ValidAny
set_option linter.unusedVariables false
set_option linter.unusedSimpArgs false
namespace Go.Proofs.YthhnmpkgleelfaaGreatDoor
open Go.RowKit Go.Shelf
theorem meth_of {t : TypeId} {f : FuncId} {name : String} {d : TypeDesc} (hu : Tryz.prog.underlying t = some d) (hd : ∀ e, d ≠ .pointer e)
  (hi : (Tryz.prog.info? t).map (fun i => (i.methods.find? (·.name == name)).map (fun m => (m.path, m.func))) = some (some (#[], some (f, false)))) (n : Nat) (v : Value) (w : World) :
  Sem.run Tryz.prog (method (n + 1) t v name) w = .ok (f, v) w := by
 cases hp : Tryz.prog.info? t with
 | none => rw [hp] at hi; cases hi
 | some i =>
  rw [hp] at hi
  simp only [Option.map_some, Option.some.injEq] at hi
  cases hm : i.methods.find? (·.name == name) with
  | none => rw [hm] at hi; cases hi
  | some m =>
   rw [hm] at hi
   simp only [Option.map_some, Option.some.injEq, Prod.mk.injEq] at hi
   unfold method
   simp only [typeInfo, hp, Sem.run_bind, Sem.run_pure, Result.andThen_ok, hm, hi.1, hi.2]
   cases d <;> simp_all [follow, receiverAt, run_underlying hu, Place.get]
def AfRel (w : World) (M : List St) (l : List Int) (c : Int) (s22 : Value) (wr : World) : Prop := ∃ (k : Nat) (sn : List Bool), k ≤ l.length ∧ s22 = .int .i64 k ∧ Below w.heap.size w wr ∧ Fls wr w.heap.size (.slice (some ⟨w.heap.size, 0, none⟩) M.length M.length) sn ∧ AfterY M (l.take k) c sn
def AfterP (w : World) (M : List St) (l : List Int) (c : Int) (e : Ending) (w' : World) : Prop := ∃ y : List Bool, AfterY M l c y ∧ IntsP w (idx 0 y) e w'
theorem AfterY.skip {M : List St} {l : List Int} {c : Int} {sn : List Bool} {k p : Nat} (h : AfterY M (l.take k) c sn) (hk : l[k]? = some (p : Int)) (hn : ∀ r q, M[p]? = some (.eat r q) → atomT r c = false) : AfterY M (l.take (k + 1)) c sn := by
 refine ⟨h.1, fun q => ?_⟩
 rw [h.2, take_next hk]
 constructor
 ·rintro ⟨p', r, h1, h2, h3⟩
  exact ⟨p', r, List.mem_append.2 (.inl h1), h2, h3⟩
 ·rintro ⟨p', r, h1, h2, h3⟩
  rcases List.mem_append.1 h1 with h1 | h1
  ·exact ⟨p', r, h1, h2, h3⟩
  ·obtain rfl : p' = p := by simp at h1; omega
   rw [hn r q h2] at h3; cases h3
theorem AfterY.hit {M : List St} {l : List Int} {c : Int} {sn : List Bool} {k p q : Nat} {r : Rx} (h : AfterY M (l.take k) c sn) (hk : l[k]? = some (p : Int)) (hM : M[p]? = some (.eat r q)) (ht : atomT r c = true) (hq : q < M.length) : AfterY M (l.take (k + 1)) c (sn.set q true) := by
 refine ⟨by rw [List.length_set]; exact h.1, fun q' => ?_⟩
 rw [set_true, h.2, take_next hk, h.1]
 constructor
 ·rintro (⟨p', r, h1, h2, h3⟩ | ⟨rfl, _⟩)
  ·exact ⟨p', r, List.mem_append.2 (.inl h1), h2, h3⟩
  ·exact ⟨p, r, by simp, hM, ht⟩
 ·rintro ⟨p', r', h1, h2, h3⟩
  rcases List.mem_append.1 h1 with h1 | h1
  ·exact .inl ⟨p', r', h1, h2, h3⟩
  ·obtain rfl : p' = p := by simp at h1; omega
   rw [hM] at h2
   cases h2
   exact .inr ⟨rfl, hq⟩
def AtR : Rx → Prop
 | .chr c => isR c = true
 | .any => True
 | .set cs => Gaps cs ∧ ∀ c ∈ cs, isR c = true
 | _ => False
def AtM (M : List St) : Prop := ∀ r t, St.eat r t ∈ M → AtR r
set_option maxHeartbeats 32000000 in
set_option maxRecDepth 100000 in
theorem after_any {w : World} {g st : Nat} {M : List St} {A0 : Option Addr} {n0 q0 : Nat} {l : List Int} (c : Int) (h : Mch w g M st) (hl : Sl w (.slice A0 n0 q0) (l.map intV)) (hw : Wf M) (hat : AtM M) (hM : M.length ≤ 100000) (hll : l.length ≤ 100000) (hin : ∀ i ∈ l, ∃ q : Nat, i = q ∧ q < M.length) :
  Calls Tryz.prog 43 #[.pointer (some ⟨g, 0, none⟩), .slice A0 n0 q0, .int .i32 c] w fun e w' => AfterP w M l (kn c) e w' := by
 obtain rfl := sl_len hl
 have hmk := run_make_flags M.length (by omega)
 have Hal := Lib.hid (alloc_below w (.cells (Array.replicate M.length (.bool false)) 4))
 have Hfl := Lib.hid (fls_made w M.length (by omega) (Nat.le_refl w.heap.size))
 have hgl := h.lt
 have Hm := Lib.hid h
 have Hl := Lib.hid hl
 have Hw := Lib.hid hw
 have Hat := Lib.hid hat
 have Hin := Lib.hid hin
 obtain ⟨A, q, c0, c1, -⟩ := h.cells
 clear h hl hw hin hat
 go_enter Tryz.func43, Tryz.ntmps43
 go_wp2_with fail
 clear hmk c0 c1
 go_loopw [22] (fun s22 wr => AfRel w M l (kn c) s22 wr) (fun v _ => l.length - (intOf v).toNat)
 case atStart =>
  refine ⟨0, List.replicate M.length false, Nat.zero_le _, rfl, Hal.out, Hfl.out, by simp, fun q => ?_⟩
  rw [List.getElem?_replicate]
  constructor
  ·intro h; split at h <;> cases h
  ·rintro ⟨p, r, h, _⟩; simp at h
 case round =>
  obtain ⟨k, sn, hk, rfl, hb, hf, hy⟩ := hrel
  have Hb := Lib.hid hb
  have Hf := Lib.hid hf
  have Hy := Lib.hid hy
  have hbs := hb.size
  clear hb hf hy
  by_cases hlt : k < l.length
  ·obtain ⟨i, hi⟩ : ∃ i, l[k]? = some i := ⟨_, List.getElem?_eq_getElem hlt⟩
   obtain ⟨p, rfl, hp⟩ := Hin.out i (List.mem_of_getElem? hi)
   obtain ⟨gl, ol, rfl, -, hcl⟩ := sl_cells Hl.out (by omega)
   have ck := cell_later Hb.out (hcl k hlt)
   have hgd : l.getD k 0 = (p : Int) := by rw [List.getD_eq_getElem?_getD, hi]; rfl
   rw [hgd] at ck
   obtain ⟨z, hz⟩ : ∃ z, M[p]? = some z := ⟨_, List.getElem?_eq_getElem hp⟩
   have Hz := Lib.hid hz
   have Hi := Lib.hid hi
   have hki : (k : Int) < l.length := by omega
   have hsl : sn.length = M.length := Hy.out.1
   clear hcl hgd hz hi
   go_wp2_with fail
   (with_reducible refine (state_any (Hm.out.below Hb.out) Hz.out (by omega)).mono ?_)
   rintro e w' ⟨rfl, rfl⟩
   cases z with
   | done =>
    simp only [stV]
    have T1 := ta_miss (x := 124) (u := 118) Tryz.underlying130 (fun m h => by cases h) (by decide) Tryz.zeroValue130
    have Hsk := Lib.hid (Hy.out.skip Hi.out (fun r q e => by rw [Hz.out] at e; cases e))
    go_wp2_with fail
    exact ⟨⟨k + 1, sn, by omega, by go_num, Hb.out.alloc hbs _, Hf.out.below (alloc_below _ _), Hsk.out⟩, by simp [intOf]; omega⟩
   | here b t =>
    simp only [stV]
    have T1 := ta_miss (x := 124) (u := 145) Tryz.underlying130 (fun m h => by cases h) (by decide) Tryz.zeroValue130
    have Hsk := Lib.hid (Hy.out.skip Hi.out (fun r q e => by rw [Hz.out] at e; cases e))
    go_wp2_with fail
    exact ⟨⟨k + 1, sn, by omega, by go_num, Hb.out.alloc hbs _, Hf.out.below (alloc_below _ _), Hsk.out⟩, by simp [intOf]; omega⟩
   | fork a b =>
    simp only [stV]
    have T1 := ta_miss (x := 124) (u := 143) Tryz.underlying130 (fun m h => by cases h) (by decide) Tryz.zeroValue130
    have Hsk := Lib.hid (Hy.out.skip Hi.out (fun r q e => by rw [Hz.out] at e; cases e))
    go_wp2_with fail
    exact ⟨⟨k + 1, sn, by omega, by go_num, Hb.out.alloc hbs _, Hf.out.below (alloc_below _ _), Hsk.out⟩, by simp [intOf]; omega⟩
   | eat r t =>
    have T1 := ta_hit (x := 124) Tryz.underlying130 (fun m h => by cases h)
    have ht : t < M.length := Hw.out _ (List.mem_of_getElem? Hz.out)
    have hr := Hat.out r t (List.mem_of_getElem? Hz.out)
    have Hal1 := Lib.hid (alloc_below w' (.cells #[nodeV r, .int .i64 t] 130))
    have Hb1 := Lib.hid (Hb.out.alloc hbs (.cells #[nodeV r, .int .i64 t] 130))
    have Hf1 := Lib.hid (Hf.out.below Hal1.out)
    simp only [stV]
    cases r with
    | chr d =>
     have hrd : isR d = true := hr
     have hmt := meth_of (f := 249) (name := "Takes") Tryz.underlying216 (fun m h => by cases h) (by kernel_rfl) 401
     simp only [nodeV] at Hal1 Hb1 Hf1 ⊢
     go_wp2_with fail
     (with_reducible refine (pchr_any hrd _).mono ?_)
     rintro e w4 ⟨rfl, hb4⟩
     have Hb4a := Lib.hid hb4
     have Hb4 := Lib.hid (Hb1.out.trans (hb4.mono Hb1.out.size))
     have Hf4 := Lib.hid (Hf1.out.below hb4)
     clear hb4 hmt T1
     obtain ⟨b, hbt⟩ : ∃ b, atomT (.chr d) (kn c) = b := ⟨_, rfl⟩
     rw [hbt]
     have Hbt := Lib.hid hbt
     clear hbt
     have ce := Hb4.out
     cases b with
     | false =>
      have Hsk := Lib.hid (Hy.out.skip Hi.out (fun r q e => by rw [Hz.out] at e; cases e; exact Hbt.out))
      clear ce
      go_wp2_with fail
      exact ⟨⟨k + 1, sn, by omega, by go_num, Hb4.out, Hf4.out, Hsk.out⟩, by simp [intOf]; omega⟩
     | true =>
      clear ce
      obtain ⟨bo, hbo⟩ : ∃ b, sn[t]? = some b := ⟨_, List.getElem?_eq_getElem (by omega)⟩
      have csn := Hf4.out.cell hbo
      have hfz := Hf4.out.frozen t
      have Hst := Lib.hid (Hf4.out.set t true).1
      have Hht := Lib.hid (Hy.out.hit Hi.out Hz.out Hbt.out ht)
      have hcell : w4.cell? ⟨w'.heap.size, 1, none⟩ = some (.int .i64 t) := cell_later Hb4a.out (row_cell (heap_alloc_new _ _) (j := 1) rfl)
      clear hbo
      go_wp2_with fail
      exact ⟨⟨k + 1, _, by omega, by go_num, below_set Hb4.out (Nat.le_refl _) Hb4.out.size, Hst.out, Hht.out⟩, by simp [intOf]; omega⟩
    | any =>
     have hmt := meth_of (f := 245) (name := "Takes") Tryz.underlying208 (fun m h => by cases h) (by kernel_rfl) 401
     simp only [nodeV] at Hal1 Hb1 Hf1 ⊢
     go_wp2_with fail
     (with_reducible refine (pany_any _).mono ?_)
     rintro e w4 ⟨rfl, hb4⟩
     have Hb4a := Lib.hid hb4
     have Hb4 := Lib.hid (Hb1.out.trans (hb4.mono Hb1.out.size))
     have Hf4 := Lib.hid (Hf1.out.below hb4)
     clear hb4 hmt T1
     obtain ⟨b, hbt⟩ : ∃ b, atomT (.any) (kn c) = b := ⟨_, rfl⟩
     rw [hbt]
     have Hbt := Lib.hid hbt
     clear hbt
     have ce := Hb4.out
     cases b with
     | false =>
      have Hsk := Lib.hid (Hy.out.skip Hi.out (fun r q e => by rw [Hz.out] at e; cases e; exact Hbt.out))
      clear ce
      go_wp2_with fail
      exact ⟨⟨k + 1, sn, by omega, by go_num, Hb4.out, Hf4.out, Hsk.out⟩, by simp [intOf]; omega⟩
     | true =>
      clear ce
      obtain ⟨bo, hbo⟩ : ∃ b, sn[t]? = some b := ⟨_, List.getElem?_eq_getElem (by omega)⟩
      have csn := Hf4.out.cell hbo
      have hfz := Hf4.out.frozen t
      have Hst := Lib.hid (Hf4.out.set t true).1
      have Hht := Lib.hid (Hy.out.hit Hi.out Hz.out Hbt.out ht)
      have hcell : w4.cell? ⟨w'.heap.size, 1, none⟩ = some (.int .i64 t) := cell_later Hb4a.out (row_cell (heap_alloc_new _ _) (j := 1) rfl)
      clear hbo
      go_wp2_with fail
      exact ⟨⟨k + 1, _, by omega, by go_num, below_set Hb4.out (Nat.le_refl _) Hb4.out.size, Hst.out, Hht.out⟩, by simp [intOf]; omega⟩
    | set cs =>
     obtain ⟨hrg, hrc⟩ : Gaps cs ∧ ∀ c ∈ cs, isR c = true := hr
     have hmt := meth_of (f := 247) (name := "Takes") Tryz.underlying213 (fun m h => by cases h) (by kernel_rfl) 401
     simp only [nodeV] at Hal1 Hb1 Hf1 ⊢
     go_wp2_with fail
     (with_reducible refine (pset_takes hrg hrc _).mono ?_)
     rintro e w4 ⟨rfl, hb4⟩
     have Hb4a := Lib.hid hb4
     have Hb4 := Lib.hid (Hb1.out.trans (hb4.mono Hb1.out.size))
     have Hf4 := Lib.hid (Hf1.out.below hb4)
     clear hb4 hmt T1
     obtain ⟨b, hbt⟩ : ∃ b, atomT (.set cs) (kn c) = b := ⟨_, rfl⟩
     rw [hbt]
     have Hbt := Lib.hid hbt
     clear hbt
     have ce := Hb4.out
     cases b with
     | false =>
      have Hsk := Lib.hid (Hy.out.skip Hi.out (fun r q e => by rw [Hz.out] at e; cases e; exact Hbt.out))
      clear ce
      go_wp2_with fail
      exact ⟨⟨k + 1, sn, by omega, by go_num, Hb4.out, Hf4.out, Hsk.out⟩, by simp [intOf]; omega⟩
     | true =>
      clear ce
      obtain ⟨bo, hbo⟩ : ∃ b, sn[t]? = some b := ⟨_, List.getElem?_eq_getElem (by omega)⟩
      have csn := Hf4.out.cell hbo
      have hfz := Hf4.out.frozen t
      have Hst := Lib.hid (Hf4.out.set t true).1
      have Hht := Lib.hid (Hy.out.hit Hi.out Hz.out Hbt.out ht)
      have hcell : w4.cell? ⟨w'.heap.size, 1, none⟩ = some (.int .i64 t) := cell_later Hb4a.out (row_cell (heap_alloc_new _ _) (j := 1) rfl)
      clear hbo
      go_wp2_with fail
      exact ⟨⟨k + 1, _, by omega, by go_num, below_set Hb4.out (Nat.le_refl _) Hb4.out.size, Hst.out, Hht.out⟩, by simp [intOf]; omega⟩
    | emp => exact hr.elim
    | beg => exact hr.elim
    | fin => exact hr.elim
    | cat _ _ => exact hr.elim
    | alt _ _ => exact hr.elim
    | rep _ _ _ => exact hr.elim
  ·obtain rfl : k = l.length := by omega
   have hy := Hy.out
   rw [List.take_length] at hy
   have hsl : sn.length = M.length := hy.1
   have Hdn := Lib.hid hy
   have Hfl2 := Lib.hid (Hf.out.low (Nat.zero_le _))
   rw [← hsl] at Hfl2
   clear hy
   go_wp2_with fail
   rw [← hsl]
   (with_reducible refine (pset_any Hfl2.out (by omega)).mono ?_)
   rintro e w4 ⟨A4, q4, rfl, hb4, ho4⟩
   have Hb4 := Lib.hid (Hb.out.trans (hb4.mono Hb.out.size))
   have Ho4 := Lib.hid (ho4.low Hb.out.size)
   clear hb4 ho4
   go_wp2_with fail
   go_ret
   exact ⟨sn, Hdn.out, A4, q4, rfl, Hb4.out, Ho4.out⟩
theorem nodeV_iface (r : Rx) : ∃ t x, nodeV r = .iface t x := by cases r <;> exact ⟨_, _, rfl⟩
def PNd (r : Rx) : Prop := ∀ w : World, Calls Tryz.prog 96 #[nodeV r] w fun e w' => e = .returned (.int .i64 (needF r)) ∧ Below w.heap.size w w'
theorem PNd.go {r : Rx} (h : PNd r) (w : World) : Calls Tryz.prog 96 #[nodeV r] w fun e w' => e = .returned (.int .i64 (needF r)) ∧ Below w.heap.size w w' := h w
set_option maxHeartbeats 4000000 in
theorem pnd_emp : PNd .emp := by
 intro w
 show Calls Tryz.prog 96 #[.iface 182 (.agg #[])] w _
 have T0 := ta_hit (x := 71) Tryz.underlying182 (fun m h => by cases h)
 go_enter Tryz.func96, Tryz.ntmps96
 go_wp2_with fail
 go_ret
 exact ⟨rfl, alloc_below _ _⟩
set_option maxHeartbeats 4000000 in
theorem pnd_chr (c : Int) : PNd (.chr c) := by
 intro w
 show Calls Tryz.prog 96 #[.iface 216 (.agg #[.int .i32 c])] w _
 have T0 := ta_miss (x := 71) (u := 216) Tryz.underlying182 (fun m h => by cases h) (by decide) Tryz.zeroValue182
 have T1 := ta_miss (x := 71) (u := 216) Tryz.underlying172 (fun m h => by cases h) (by decide) Tryz.zeroValue172
 have T2 := ta_miss (x := 71) (u := 216) Tryz.underlying159 (fun m h => by cases h) (by decide) Tryz.zeroValue159
 have T3 := ta_miss (x := 71) (u := 216) Tryz.underlying174 (fun m h => by cases h) (by decide) Tryz.zeroValue174
 go_enter Tryz.func96, Tryz.ntmps96
 go_wp2_with fail
 go_ret
 exact ⟨rfl, Below.refl _ _⟩
set_option maxHeartbeats 4000000 in
theorem pnd_any : PNd .any := by
 intro w
 show Calls Tryz.prog 96 #[.iface 208 (.agg #[])] w _
 have T0 := ta_miss (x := 71) (u := 208) Tryz.underlying182 (fun m h => by cases h) (by decide) Tryz.zeroValue182
 have T1 := ta_miss (x := 71) (u := 208) Tryz.underlying172 (fun m h => by cases h) (by decide) Tryz.zeroValue172
 have T2 := ta_miss (x := 71) (u := 208) Tryz.underlying159 (fun m h => by cases h) (by decide) Tryz.zeroValue159
 have T3 := ta_miss (x := 71) (u := 208) Tryz.underlying174 (fun m h => by cases h) (by decide) Tryz.zeroValue174
 go_enter Tryz.func96, Tryz.ntmps96
 go_wp2_with fail
 go_ret
 exact ⟨rfl, Below.refl _ _⟩
set_option maxHeartbeats 4000000 in
theorem pnd_set (cs : List Int) : PNd (.set cs) := by
 intro w
 show Calls Tryz.prog 96 #[.iface 213 (.agg #[.string (rngB cs)])] w _
 generalize rngB cs = B
 have T0 := ta_miss (x := 71) (u := 213) Tryz.underlying182 (fun m h => by cases h) (by decide) Tryz.zeroValue182
 have T1 := ta_miss (x := 71) (u := 213) Tryz.underlying172 (fun m h => by cases h) (by decide) Tryz.zeroValue172
 have T2 := ta_miss (x := 71) (u := 213) Tryz.underlying159 (fun m h => by cases h) (by decide) Tryz.zeroValue159
 have T3 := ta_miss (x := 71) (u := 213) Tryz.underlying174 (fun m h => by cases h) (by decide) Tryz.zeroValue174
 go_enter Tryz.func96, Tryz.ntmps96
 go_wp2_with fail
 go_ret
 exact ⟨rfl, Below.refl _ _⟩
set_option maxHeartbeats 4000000 in
theorem pnd_beg : PNd .beg := by
 intro w
 show Calls Tryz.prog 96 #[.iface 170 (.agg #[])] w _
 have T0 := ta_miss (x := 71) (u := 170) Tryz.underlying182 (fun m h => by cases h) (by decide) Tryz.zeroValue182
 have T1 := ta_miss (x := 71) (u := 170) Tryz.underlying172 (fun m h => by cases h) (by decide) Tryz.zeroValue172
 have T2 := ta_miss (x := 71) (u := 170) Tryz.underlying159 (fun m h => by cases h) (by decide) Tryz.zeroValue159
 have T3 := ta_miss (x := 71) (u := 170) Tryz.underlying174 (fun m h => by cases h) (by decide) Tryz.zeroValue174
 go_enter Tryz.func96, Tryz.ntmps96
 go_wp2_with fail
 go_ret
 exact ⟨rfl, Below.refl _ _⟩
set_option maxHeartbeats 4000000 in
theorem pnd_fin : PNd .fin := by
 intro w
 show Calls Tryz.prog 96 #[.iface 171 (.agg #[])] w _
 have T0 := ta_miss (x := 71) (u := 171) Tryz.underlying182 (fun m h => by cases h) (by decide) Tryz.zeroValue182
 have T1 := ta_miss (x := 71) (u := 171) Tryz.underlying172 (fun m h => by cases h) (by decide) Tryz.zeroValue172
 have T2 := ta_miss (x := 71) (u := 171) Tryz.underlying159 (fun m h => by cases h) (by decide) Tryz.zeroValue159
 have T3 := ta_miss (x := 71) (u := 171) Tryz.underlying174 (fun m h => by cases h) (by decide) Tryz.zeroValue174
 go_enter Tryz.func96, Tryz.ntmps96
 go_wp2_with fail
 go_ret
 exact ⟨rfl, Below.refl _ _⟩
set_option maxHeartbeats 8000000 in
set_option maxRecDepth 100000 in
theorem pnd_cat {a b : Rx} (ha : PNd a) (hb : PNd b) (oa : a.ok) (ob : b.ok) : PNd (.cat a b) := by
 intro w
 show Calls Tryz.prog 96 #[.iface 172 (.agg #[nodeV a, nodeV b])] w _
 obtain ⟨ba1, ba2⟩ := needF_bd a oa
 obtain ⟨bb1, bb2⟩ := needF_bd b ob
 have Ha := Lib.hid ha
 have Hb := Lib.hid hb
 clear ha hb
 have hnf := Lib.hid (show needF (.cat a b) = adS (needF a) (needF b) from rfl)
 have T0 := ta_miss (x := 71) (u := 172) Tryz.underlying182 (fun m h => by cases h) (by decide) Tryz.zeroValue182
 have T1 := ta_hit (x := 71) Tryz.underlying172 (fun m h => by cases h)
 obtain ⟨ta, xa, hva⟩ := nodeV_iface a
 obtain ⟨tb, xb, hvb⟩ := nodeV_iface b
 rw [hva, hvb]
 have Hva := Lib.hid hva
 have Hvb := Lib.hid hvb
 clear hva hvb
 go_enter Tryz.func96, Tryz.ntmps96
 go_wp2_with fail
 have Hal := Lib.hid (alloc_below w (.cells #[.iface ta xa, .iface tb xb] 172))
 have Hbx := Lib.hid (heap_alloc_new w (.cells #[.iface ta xa, .iface tb xb] 172))
 generalize w.alloc (.cells #[.iface ta xa, .iface tb xb] 172) = w1 at *
 have hs1 := Hal.out.size
 obtain ⟨na, hna⟩ : ∃ n, needF a = n := ⟨_, rfl⟩
 obtain ⟨nb, hnb⟩ : ∃ n, needF b = n := ⟨_, rfl⟩
 rw [hna] at ba1 ba2
 rw [hnb] at bb1 bb2
 have Hna := Lib.hid hna
 have Hnb := Lib.hid hnb
 clear hna hnb
 obtain ⟨bt1, bt2⟩ := adS_bd ba1 bb1
 refine wp_region_noPanic ?_
 refine wp_region_held_drew (S := fun w' => w'.cell? ⟨w.heap.size, 0, none⟩ = some (.iface ta xa) ∧ w'.cell? ⟨w.heap.size, 1, none⟩ = some (.iface tb xb)) (by kernel_rfl) (⟨row_cell Hbx.out (j := 0) rfl, row_cell Hbx.out (j := 1) rfl⟩) (fun hHeld => ?_)
 refine tkH 0 (v := ?v0) (nth rfl) (by kernel_rfl) (by kernel_rfl) (by kernel_rfl) (fun _ _ _ h => h) (by rfl) hHeld ?y0 ?r0
 case y0 => (intro w hSw; (try dsimp only at hSw); go_simp; (try with_reducible rfl))
 try simp only [Act.put, pA, pB, pC]
 refine tkH 1 (v := ?v1) (nth rfl) (by kernel_rfl) (by kernel_rfl) (by kernel_rfl) (fun _ _ _ h => h) (by rfl) hHeld ?y1 ?r1
 case y1 => (intro w hSw; (try dsimp only at hSw); go_simp; (try with_reducible rfl))
 try simp only [Act.put, pA, pB, pC]
 refine tkH 3 (v := ?v2) (nth rfl) (by kernel_rfl) (by kernel_rfl) (by kernel_rfl) (fun _ _ _ h => h) (by rfl) hHeld ?y2 ?r2
 case y2 => (intro w hSw; (try dsimp only at hSw); go_simp; (try with_reducible rfl))
 try simp only [Act.put, pA, pB, pC]
 refine tkH 4 (v := ?v3) (nth rfl) (by kernel_rfl) (by kernel_rfl) (by kernel_rfl) (fun _ _ _ h => h) (by rfl) hHeld ?y3 ?r3
 case y3 => (intro w hSw; (try dsimp only at hSw); go_simp; (try with_reducible rfl))
 try simp only [Act.put, pA, pB, pC]
 refine wpAnyH_ready (rs := [2]) (by kernel_rfl) (by simp) ?_
 refine AllReadyH.cons (nth rfl) (fun K hK => ?_) AllReadyH.nil
 go_simp
 rw [← Hva.out]; refine (Ha.out.go w1.drew).mono ?_; rintro e w5 ⟨rfl, hb5⟩; have hb5' : Below w1.heap.size w1 w5 := (Below.refl w1.heap.size w1).drew.trans hb5; have Hb5 := Lib.hid hb5'; have hs5 := hb5'.size; clear hb5'; rw [Hna.out, Hva.out]; go_simp
 refine hK.out _ _ (⟨cell_later hb5 hHeld.1, cell_later hb5 hHeld.2⟩) (fun hHeld => ?_)
 clear hK K
 try simp only [Act.put, pA, pB, pC]
 refine wpAnyH_ready (rs := [5]) (by kernel_rfl) (by simp) ?_
 refine AllReadyH.cons (nth rfl) (fun K hK => ?_) AllReadyH.nil
 go_simp
 rw [← Hvb.out]; refine (Hb.out.go w5).mono ?_; rintro e w6 ⟨rfl, hb6⟩; have Hb6 := Lib.hid (Hb5.out.trans (hb6.mono hs5)); have hs6 := hb6.size; rw [Hnb.out, Hvb.out]; go_simp
 refine hK.out _ _ (⟨cell_later hb6 hHeld.1, cell_later hb6 hHeld.2⟩) (fun hHeld => ?_)
 clear hK K
 try simp only [Act.put, pA, pB, pC]
 refine wpAnyH_ready (rs := [6]) (by kernel_rfl) (by simp) ?_
 refine AllReadyH.cons (nth rfl) (fun K hK => ?_) AllReadyH.nil
 go_simp
 refine (madd_any na nb ba1 ba2 bb1 bb2 w6).mono ?_; rintro e w' ⟨rfl, rfl⟩; go_simp
 refine hK.out _ _ (hHeld) (fun hHeld => ?_)
 clear hK K
 try simp only [Act.put, pA, pB, pC]
 refine tkH 7 (v := ?v4) (nth rfl) (by kernel_rfl) (by kernel_rfl) (by kernel_rfl) (fun _ _ _ h => h) (by rfl) hHeld ?y4 ?r4
 case y4 => (intro w hSw; (try dsimp only at hSw); go_simp; (try with_reducible rfl))
 try simp only [Act.put, pA, pB, pC]
 refine wpAnyH_done (by kernel_rfl) (NoPanic.normal ?_) _
 clear hHeld
 go_wp2_with fail
 go_ret
 exact ⟨by rw [hnf.out, Hna.out, Hnb.out]; rfl, Hal.out.trans (Hb6.out.mono hs1)⟩
set_option maxHeartbeats 8000000 in
set_option maxRecDepth 100000 in
theorem pnd_alt {a b : Rx} (ha : PNd a) (hb : PNd b) (oa : a.ok) (ob : b.ok) : PNd (.alt a b) := by
 intro w
 show Calls Tryz.prog 96 #[.iface 159 (.agg #[nodeV a, nodeV b])] w _
 obtain ⟨ba1, ba2⟩ := needF_bd a oa
 obtain ⟨bb1, bb2⟩ := needF_bd b ob
 have Ha := Lib.hid ha
 have Hb := Lib.hid hb
 clear ha hb
 have hnf := Lib.hid (show needF (.alt a b) = adS (adS (needF a) (needF b)) 1 from rfl)
 have T0 := ta_miss (x := 71) (u := 159) Tryz.underlying182 (fun m h => by cases h) (by decide) Tryz.zeroValue182
 have T1 := ta_miss (x := 71) (u := 159) Tryz.underlying172 (fun m h => by cases h) (by decide) Tryz.zeroValue172
 have T2 := ta_hit (x := 71) Tryz.underlying159 (fun m h => by cases h)
 obtain ⟨ta, xa, hva⟩ := nodeV_iface a
 obtain ⟨tb, xb, hvb⟩ := nodeV_iface b
 rw [hva, hvb]
 have Hva := Lib.hid hva
 have Hvb := Lib.hid hvb
 clear hva hvb
 go_enter Tryz.func96, Tryz.ntmps96
 go_wp2_with fail
 have Hal := Lib.hid (alloc_below w (.cells #[.iface ta xa, .iface tb xb] 159))
 have Hbx := Lib.hid (heap_alloc_new w (.cells #[.iface ta xa, .iface tb xb] 159))
 generalize w.alloc (.cells #[.iface ta xa, .iface tb xb] 159) = w1 at *
 have hs1 := Hal.out.size
 obtain ⟨na, hna⟩ : ∃ n, needF a = n := ⟨_, rfl⟩
 obtain ⟨nb, hnb⟩ : ∃ n, needF b = n := ⟨_, rfl⟩
 rw [hna] at ba1 ba2
 rw [hnb] at bb1 bb2
 have Hna := Lib.hid hna
 have Hnb := Lib.hid hnb
 clear hna hnb
 obtain ⟨bt1, bt2⟩ := adS_bd ba1 bb1
 refine wp_region_noPanic ?_
 refine wp_region_held_drew (S := fun w' => w'.cell? ⟨w.heap.size, 0, none⟩ = some (.iface ta xa) ∧ w'.cell? ⟨w.heap.size, 1, none⟩ = some (.iface tb xb)) (by kernel_rfl) (⟨row_cell Hbx.out (j := 0) rfl, row_cell Hbx.out (j := 1) rfl⟩) (fun hHeld => ?_)
 refine tkH 0 (v := ?v5) (nth rfl) (by kernel_rfl) (by kernel_rfl) (by kernel_rfl) (fun _ _ _ h => h) (by rfl) hHeld ?y5 ?r5
 case y5 => (intro w hSw; (try dsimp only at hSw); go_simp; (try with_reducible rfl))
 try simp only [Act.put, pA, pB, pC]
 refine tkH 1 (v := ?v6) (nth rfl) (by kernel_rfl) (by kernel_rfl) (by kernel_rfl) (fun _ _ _ h => h) (by rfl) hHeld ?y6 ?r6
 case y6 => (intro w hSw; (try dsimp only at hSw); go_simp; (try with_reducible rfl))
 try simp only [Act.put, pA, pB, pC]
 refine tkH 3 (v := ?v7) (nth rfl) (by kernel_rfl) (by kernel_rfl) (by kernel_rfl) (fun _ _ _ h => h) (by rfl) hHeld ?y7 ?r7
 case y7 => (intro w hSw; (try dsimp only at hSw); go_simp; (try with_reducible rfl))
 try simp only [Act.put, pA, pB, pC]
 refine tkH 4 (v := ?v8) (nth rfl) (by kernel_rfl) (by kernel_rfl) (by kernel_rfl) (fun _ _ _ h => h) (by rfl) hHeld ?y8 ?r8
 case y8 => (intro w hSw; (try dsimp only at hSw); go_simp; (try with_reducible rfl))
 try simp only [Act.put, pA, pB, pC]
 refine wpAnyH_ready (rs := [2]) (by kernel_rfl) (by simp) ?_
 refine AllReadyH.cons (nth rfl) (fun K hK => ?_) AllReadyH.nil
 go_simp
 rw [← Hva.out]; refine (Ha.out.go w1.drew).mono ?_; rintro e w5 ⟨rfl, hb5⟩; have hb5' : Below w1.heap.size w1 w5 := (Below.refl w1.heap.size w1).drew.trans hb5; have Hb5 := Lib.hid hb5'; have hs5 := hb5'.size; clear hb5'; rw [Hna.out, Hva.out]; go_simp
 refine hK.out _ _ (⟨cell_later hb5 hHeld.1, cell_later hb5 hHeld.2⟩) (fun hHeld => ?_)
 clear hK K
 try simp only [Act.put, pA, pB, pC]
 refine wpAnyH_ready (rs := [5]) (by kernel_rfl) (by simp) ?_
 refine AllReadyH.cons (nth rfl) (fun K hK => ?_) AllReadyH.nil
 go_simp
 rw [← Hvb.out]; refine (Hb.out.go w5).mono ?_; rintro e w6 ⟨rfl, hb6⟩; have Hb6 := Lib.hid (Hb5.out.trans (hb6.mono hs5)); have hs6 := hb6.size; rw [Hnb.out, Hvb.out]; go_simp
 refine hK.out _ _ (⟨cell_later hb6 hHeld.1, cell_later hb6 hHeld.2⟩) (fun hHeld => ?_)
 clear hK K
 try simp only [Act.put, pA, pB, pC]
 refine wpAnyH_ready (rs := [6]) (by kernel_rfl) (by simp) ?_
 refine AllReadyH.cons (nth rfl) (fun K hK => ?_) AllReadyH.nil
 go_simp
 refine (madd_any na nb ba1 ba2 bb1 bb2 w6).mono ?_; rintro e w' ⟨rfl, rfl⟩; go_simp
 refine hK.out _ _ (hHeld) (fun hHeld => ?_)
 clear hK K
 try simp only [Act.put, pA, pB, pC]
 refine wpAnyH_ready (rs := [7]) (by kernel_rfl) (by simp) ?_
 refine AllReadyH.cons (nth rfl) (fun K hK => ?_) AllReadyH.nil
 go_simp
 refine (madd_any (adS na nb) 1 bt1 bt2 (by omega) (by decide) w6).mono ?_; rintro e w' ⟨rfl, rfl⟩; go_simp
 refine hK.out _ _ (hHeld) (fun hHeld => ?_)
 clear hK K
 try simp only [Act.put, pA, pB, pC]
 refine tkH 8 (v := ?v9) (nth rfl) (by kernel_rfl) (by kernel_rfl) (by kernel_rfl) (fun _ _ _ h => h) (by rfl) hHeld ?y9 ?r9
 case y9 => (intro w hSw; (try dsimp only at hSw); go_simp; (try with_reducible rfl))
 try simp only [Act.put, pA, pB, pC]
 refine wpAnyH_done (by kernel_rfl) (NoPanic.normal ?_) _
 clear hHeld
 go_wp2_with fail
 go_ret
 exact ⟨by rw [hnf.out, Hna.out, Hnb.out]; rfl, Hal.out.trans (Hb6.out.mono hs1)⟩
set_option maxHeartbeats 8000000 in
set_option maxRecDepth 100000 in
theorem pnd_rep {a : Rx} {mn mx : Int} (ha : PNd a) (oa : a.ok) (h1 : 0 ≤ mn) (h2 : mn ≤ 1000) (h3 : mx = -1 ∨ (mn ≤ mx ∧ mx ≤ 1000)) : PNd (.rep a mn mx) := by
 intro w
 show Calls Tryz.prog 96 #[.iface 174 (.agg #[nodeV a, .int .i64 mn, .int .i64 mx])] w _
 obtain ⟨ba1, ba2⟩ := needF_bd a oa
 have Ha := Lib.hid ha
 clear ha
 have hnf := Lib.hid (show needF (.rep a mn mx) = if mx < 0 then adS (muS mn (needF a)) (adS (needF a) 1) else adS (muS mn (needF a)) (muS (mx - mn) (adS (needF a) 1)) from rfl)
 have T0 := ta_miss (x := 71) (u := 174) Tryz.underlying182 (fun m h => by cases h) (by decide) Tryz.zeroValue182
 have T1 := ta_miss (x := 71) (u := 174) Tryz.underlying172 (fun m h => by cases h) (by decide) Tryz.zeroValue172
 have T2 := ta_miss (x := 71) (u := 174) Tryz.underlying159 (fun m h => by cases h) (by decide) Tryz.zeroValue159
 have T3 := ta_hit (x := 71) Tryz.underlying174 (fun m h => by cases h)
 obtain ⟨ta, xa, hva⟩ := nodeV_iface a
 rw [hva]
 have Hva := Lib.hid hva
 clear hva
 go_enter Tryz.func96, Tryz.ntmps96
 go_wp2_with fail
 have Hal := Lib.hid (alloc_below w (.cells #[.iface ta xa, .int .i64 mn, .int .i64 mx] 174))
 have Hbx := Lib.hid (heap_alloc_new w (.cells #[.iface ta xa, .int .i64 mn, .int .i64 mx] 174))
 generalize w.alloc (.cells #[.iface ta xa, .int .i64 mn, .int .i64 mx] 174) = w1 at *
 have hs1 := Hal.out.size
 rw [← Hva.out]
 (with_reducible refine (Ha.out.go w1).mono ?_)
 rintro e w2 ⟨rfl, hb2⟩
 rw [Hva.out]
 obtain ⟨na, hna⟩ : ∃ n, needF a = n := ⟨_, rfl⟩
 rw [hna] at ba1 ba2 ⊢
 have Hna := Lib.hid hna
 have Hbx2 := Lib.hid ((hb2.block _ (lt_of_heap Hbx.out)).trans Hbx.out)
 have d5 := row_cell Hbx2.out (j := 1) (u := .int .i64 mn) rfl
 have d6 := row_cell Hbx2.out (j := 2) (u := .int .i64 mx) rfl
 have Hb2 := Lib.hid (Hal.out.trans (hb2.mono hs1))
 obtain ⟨bm1, bm2⟩ := muS_bd h1 ba1
 obtain ⟨bo1, bo2⟩ := adS_bd ba1 (show (0 : Int) ≤ 1 by omega)
 clear hna hb2
 go_wp2_with fail
 (with_reducible refine (mmul_any mn na h1 (by unfold mxS; omega) ba1 ba2 w2).mono ?_)
 rintro e w' ⟨rfl, rfl⟩
 rcases h3 with rfl | ⟨h3, h4⟩
 ·go_wp2_with fail
  (with_reducible refine (madd_any na 1 ba1 ba2 (by omega) (by decide) w2).mono ?_)
  rintro e w' ⟨rfl, rfl⟩
  go_wp2_with fail
  (with_reducible refine (madd_any (muS mn na) (adS na 1) bm1 bm2 bo1 bo2 w2).mono ?_)
  rintro e w' ⟨rfl, rfl⟩
  go_wp2_with fail
  go_ret
  exact ⟨by rw [hnf.out, Hna.out]; rfl, Hb2.out⟩
 ·have hmx : ¬ mx < 0 := by omega
  obtain ⟨bx1, bx2⟩ := muS_bd (show 0 ≤ mx - mn by omega) bo1
  go_wp2_with fail
  have hw1 : IntKind.i64.wrap (mx - mn) = mx - mn := IntWalk.i64_in _ (by omega)
  have D5 := Lib.hid d5
  have D6 := Lib.hid d6
  clear d5 d6
  refine wp_region_noPanic ?_
  refine wp_region_held_drew (S := fun w' => w'.cell? ⟨w.heap.size, 1, none⟩ = some (.int .i64 mn) ∧ w'.cell? ⟨w.heap.size, 2, none⟩ = some (.int .i64 mx)) (by kernel_rfl) (⟨D5.out, D6.out⟩) (fun hHeld => ?_)
  refine tkH 0 (v := ?va) (nth rfl) (by kernel_rfl) (by kernel_rfl) (by kernel_rfl) (fun _ _ _ h => h) (by rfl) hHeld ?ya ?ra
  case ya => (intro w hSw; (try dsimp only at hSw); go_simp; (try with_reducible rfl))
  try simp only [Act.put, pA, pB, pC]
  refine tkH 1 (v := ?vb) (nth rfl) (by kernel_rfl) (by kernel_rfl) (by kernel_rfl) (fun _ _ _ h => h) (by rfl) hHeld ?yb ?rb
  case yb => (intro w hSw; (try dsimp only at hSw); go_simp; (try with_reducible rfl))
  try simp only [Act.put, pA, pB, pC]
  refine tkH 2 (v := ?vc) (nth rfl) (by kernel_rfl) (by kernel_rfl) (by kernel_rfl) (fun _ _ _ h => h) (by rfl) hHeld ?yc ?rc
  case yc => (intro w hSw; (try dsimp only at hSw); go_simp; (try with_reducible rfl))
  try simp only [Act.put, pA, pB, pC]
  refine tkH 3 (v := ?vd) (nth rfl) (by kernel_rfl) (by kernel_rfl) (by kernel_rfl) (fun _ _ _ h => h) (by rfl) hHeld ?yd ?rd
  case yd => (intro w hSw; (try dsimp only at hSw); go_simp; (try with_reducible rfl))
  try simp only [Act.put, pA, pB, pC]
  refine tkH 4 (v := ?ve) (nth rfl) (by kernel_rfl) (by kernel_rfl) (by kernel_rfl) (fun _ _ _ h => h) (by rfl) hHeld ?ye ?re
  case ye => (intro w hSw; (try dsimp only at hSw); go_simp; (try with_reducible rfl))
  try simp only [Act.put, pA, pB, pC]
  refine tkH 5 (v := ?vf) (nth rfl) (by kernel_rfl) (by kernel_rfl) (by kernel_rfl) (fun _ _ _ h => h) (by rfl) hHeld ?yf ?rf
  case yf => (intro w hSw; (try dsimp only at hSw); go_simp; (try with_reducible rfl))
  try simp only [Act.put, pA, pB, pC]
  refine tkH 6 (v := ?vg) (nth rfl) (by kernel_rfl) (by kernel_rfl) (by kernel_rfl) (fun _ _ _ h => h) (by rfl) hHeld ?yg ?rg
  case yg => (intro w hSw; (try dsimp only at hSw); go_simp; (try with_reducible rfl))
  try simp only [Act.put, pA, pB, pC]
  refine wpAnyH_ready (rs := [7]) (by kernel_rfl) (by simp) ?_
  refine AllReadyH.cons (nth rfl) (fun K hK => ?_) AllReadyH.nil
  go_simp
  refine (madd_any na 1 ba1 ba2 (by omega) (by decide) w2.drew).mono ?_; rintro e w' ⟨rfl, rfl⟩; go_simp
  refine hK.out _ _ (hHeld) (fun hHeld => ?_)
  clear hK K
  try simp only [Act.put, pA, pB, pC]
  refine wpAnyH_ready (rs := [8]) (by kernel_rfl) (by simp) ?_
  refine AllReadyH.cons (nth rfl) (fun K hK => ?_) AllReadyH.nil
  go_simp
  refine (mmul_any (mx - mn) (adS na 1) (by omega) (by unfold mxS; omega) bo1 bo2 w2.drew).mono ?_; rintro e w' ⟨rfl, rfl⟩; go_simp
  refine hK.out _ _ (hHeld) (fun hHeld => ?_)
  clear hK K
  try simp only [Act.put, pA, pB, pC]
  refine wpAnyH_ready (rs := [9]) (by kernel_rfl) (by simp) ?_
  refine AllReadyH.cons (nth rfl) (fun K hK => ?_) AllReadyH.nil
  go_simp
  refine (madd_any (muS mn na) (muS (mx - mn) (adS na 1)) bm1 bm2 bx1 bx2 w2.drew).mono ?_; rintro e w' ⟨rfl, rfl⟩; go_simp
  refine hK.out _ _ (hHeld) (fun hHeld => ?_)
  clear hK K
  try simp only [Act.put, pA, pB, pC]
  refine tkH 10 (v := ?vh) (nth rfl) (by kernel_rfl) (by kernel_rfl) (by kernel_rfl) (fun _ _ _ h => h) (by rfl) hHeld ?yh ?rh
  case yh => (intro w hSw; (try dsimp only at hSw); go_simp; (try with_reducible rfl))
  try simp only [Act.put, pA, pB, pC]
  refine wpAnyH_done (by kernel_rfl) (NoPanic.normal ?_) _
  clear hHeld
  go_wp2_with fail
  go_ret
  exact ⟨by rw [hnf.out, Hna.out, if_neg (show ¬ mx < 0 by omega)]; rfl, Hb2.out.drew⟩
theorem pnd_all : ∀ (r : Rx), r.ok → PNd r
 | .emp, _ => pnd_emp
 | .chr c, _ => pnd_chr c
 | .any, _ => pnd_any
 | .set cs, _ => pnd_set cs
 | .beg, _ => pnd_beg
 | .fin, _ => pnd_fin
 | .cat a b, h => pnd_cat (pnd_all a h.1) (pnd_all b h.2) h.1 h.2
 | .alt a b, h => pnd_alt (pnd_all a h.1) (pnd_all b h.2) h.1 h.2
 | .rep a mn mx, h => pnd_rep (pnd_all a h.1) h.1 h.2.1 h.2.2.1 h.2.2.2
def lacks (want : Array (String × TypeId)) (got : Array Method) : List (String × TypeId) := want.toList.filter fun (name, sig) => !got.any fun m => m.name == name && m.sig == sig
theorem missing_none {want : Array (String × TypeId)} {got : Array Method} (h : (lacks want got).isEmpty = true) : Instr.missingMethod want got = none := by
 have h1 : lacks want got = [] := List.isEmpty_iff.1 h
 unfold lacks at h1
 unfold Instr.missingMethod
 simp only [h1]
 rfl
theorem part_some (p : String → Bool) (f : String → String) {L : List String} (hne : L ≠ []) : ∃ m, (Instr.least (L.partition p).2 <|> Instr.least ((L.partition p).1.map f)) = some m := by
 rw [List.partition_eq_filter_filter]
 simp only
 cases he : L.filter (not ∘ p) with
 | cons a l => exact ⟨_, rfl⟩
 | nil =>
  cases hu : L.filter p with
  | nil =>
   exfalso
   cases L with
   | nil => exact hne rfl
   | cons x L =>
    cases hx : p x with
    | true => rw [List.filter_cons_of_pos hx] at hu; cases hu
    | false => rw [List.filter_cons_of_pos (by simp [hx])] at he; cases he
  | cons a l => exact ⟨_, rfl⟩
theorem missing_some {want : Array (String × TypeId)} {got : Array Method} (h : (lacks want got).isEmpty = false) : ∃ m, Instr.missingMethod want got = some m := by
 have h1 : lacks want got ≠ [] := fun e => by rw [e] at h; cases h
 unfold lacks at h1
 unfold Instr.missingMethod
 exact part_some _ _ (fun e => h1 (List.map_eq_nil_iff.1 e))
theorem tai_hit {x t u : TypeId} {want : Array (String × TypeId)} (hu : Tryz.prog.underlying t = some (.interface want)) (hm : (Tryz.prog.info? u).map (fun i => (lacks want i.methods).isEmpty) = some true) (v : Value) (w : World) : (Instr.typeAssert (.iface u v) x t true).run Tryz.prog w = .ok (.tuple #[.iface u v, .bool true]) w := by
 cases hp : Tryz.prog.info? u with
 | none => rw [hp] at hm; cases hm
 | some i =>
  rw [hp] at hm
  simp only [Option.map_some, Option.some.injEq] at hm
  have hm := missing_none hm
  unfold Instr.typeAssert
  simp [run_underlying hu, typeInfo, hp, hm]
theorem tai_miss {x t u : TypeId} {want : Array (String × TypeId)} (hu : Tryz.prog.underlying t = some (.interface want)) (hm : (Tryz.prog.info? u).map (fun i => (lacks want i.methods).isEmpty) = some false) (hz : ∀ w, (zeroValue t).run Tryz.prog w = .ok .nilIface w) (v : Value) (w : World) : (Instr.typeAssert (.iface u v) x t true).run Tryz.prog w = .ok (.tuple #[.nilIface, .bool false]) w := by
 cases hp : Tryz.prog.info? u with
 | none => rw [hp] at hm; cases hm
 | some i =>
  rw [hp] at hm
  simp only [Option.map_some, Option.some.injEq] at hm
  obtain ⟨m, hm⟩ := missing_some hm
  unfold Instr.typeAssert
  simp [run_underlying hu, typeInfo, hp, hm, hz]
def BothP (x y : Value) (w : World) (e : Ending) (w' : World) : Prop := e = .returned (.tuple #[x, y]) ∧ Below w.heap.size w w'
theorem cat_both (ta tb : TypeId) (xa xb : Value) (w : World) : Calls Tryz.prog 239 #[.agg #[.iface ta xa, .iface tb xb]] w fun e w' => BothP (.iface ta xa) (.iface tb xb) w e w' := by
 have Hal := Lib.hid (alloc_below w (.cells #[.iface ta xa, .iface tb xb] 172))
 have hbx := heap_alloc_new w (.cells #[.iface ta xa, .iface tb xb] 172)
 have d0 := row_cell hbx (j := 0) rfl
 have d1 := row_cell hbx (j := 1) rfl
 go_enter Tryz.func239, Tryz.ntmps239
 go_wp2_with fail
 go_quiet (fail)
 go_wp2_with fail
 go_ret2
 exact ⟨rfl, blw_drewN Hal.out _⟩
theorem alt_both (ta tb : TypeId) (xa xb : Value) (w : World) : Calls Tryz.prog 235 #[.agg #[.iface ta xa, .iface tb xb]] w fun e w' => BothP (.iface ta xa) (.iface tb xb) w e w' := by
 have Hal := Lib.hid (alloc_below w (.cells #[.iface ta xa, .iface tb xb] 159))
 have hbx := heap_alloc_new w (.cells #[.iface ta xa, .iface tb xb] 159)
 have d0 := row_cell hbx (j := 0) rfl
 have d1 := row_cell hbx (j := 1) rfl
 go_enter Tryz.func235, Tryz.ntmps235
 go_wp2_with fail
 go_quiet (fail)
 go_wp2_with fail
 go_ret2
 exact ⟨rfl, blw_drewN Hal.out _⟩
def PWh (r : Rx) : Prop := ∀ w : World, Calls Tryz.prog 94 #[nodeV r] w fun e w' => e = .returned (.tuple #[]) ∧ Below w.heap.size w w'
theorem PWh.go {r : Rx} (h : PWh r) (w : World) : Calls Tryz.prog 94 #[nodeV r] w fun e w' => e = .returned (.tuple #[]) ∧ Below w.heap.size w w' := h w
theorem pwh_emp : PWh .emp := by
 intro w
 show Calls Tryz.prog 94 #[.iface 182 (.agg #[])] w _
 have T0 := tai_miss (x := 71) (u := 182) Tryz.underlying184 (by kernel_rfl) Tryz.zeroValue184
 have T1 := ta_miss (x := 71) (u := 182) Tryz.underlying174 (fun m h => by cases h) (by decide) Tryz.zeroValue174
 go_enter Tryz.func94, Tryz.ntmps94
 go_wp2_with fail
 go_end0
 exact ⟨rfl, Below.refl _ _⟩
theorem pwh_chr (c : Int) : PWh (.chr c) := by
 intro w
 show Calls Tryz.prog 94 #[.iface 216 (.agg #[.int .i32 c])] w _
 have T0 := tai_miss (x := 71) (u := 216) Tryz.underlying184 (by kernel_rfl) Tryz.zeroValue184
 have T1 := ta_miss (x := 71) (u := 216) Tryz.underlying174 (fun m h => by cases h) (by decide) Tryz.zeroValue174
 go_enter Tryz.func94, Tryz.ntmps94
 go_wp2_with fail
 go_end0
 exact ⟨rfl, Below.refl _ _⟩
theorem pwh_any : PWh .any := by
 intro w
 show Calls Tryz.prog 94 #[.iface 208 (.agg #[])] w _
 have T0 := tai_miss (x := 71) (u := 208) Tryz.underlying184 (by kernel_rfl) Tryz.zeroValue184
 have T1 := ta_miss (x := 71) (u := 208) Tryz.underlying174 (fun m h => by cases h) (by decide) Tryz.zeroValue174
 go_enter Tryz.func94, Tryz.ntmps94
 go_wp2_with fail
 go_end0
 exact ⟨rfl, Below.refl _ _⟩
theorem pwh_set (cs : List Int) : PWh (.set cs) := by
 intro w
 show Calls Tryz.prog 94 #[.iface 213 (.agg #[.string (rngB cs)])] w _
 generalize rngB cs = B
 have T0 := tai_miss (x := 71) (u := 213) Tryz.underlying184 (by kernel_rfl) Tryz.zeroValue184
 have T1 := ta_miss (x := 71) (u := 213) Tryz.underlying174 (fun m h => by cases h) (by decide) Tryz.zeroValue174
 go_enter Tryz.func94, Tryz.ntmps94
 go_wp2_with fail
 go_end0
 exact ⟨rfl, Below.refl _ _⟩
theorem pwh_beg : PWh .beg := by
 intro w
 show Calls Tryz.prog 94 #[.iface 170 (.agg #[])] w _
 have T0 := tai_miss (x := 71) (u := 170) Tryz.underlying184 (by kernel_rfl) Tryz.zeroValue184
 have T1 := ta_miss (x := 71) (u := 170) Tryz.underlying174 (fun m h => by cases h) (by decide) Tryz.zeroValue174
 go_enter Tryz.func94, Tryz.ntmps94
 go_wp2_with fail
 go_end0
 exact ⟨rfl, Below.refl _ _⟩
theorem pwh_fin : PWh .fin := by
 intro w
 show Calls Tryz.prog 94 #[.iface 171 (.agg #[])] w _
 have T0 := tai_miss (x := 71) (u := 171) Tryz.underlying184 (by kernel_rfl) Tryz.zeroValue184
 have T1 := ta_miss (x := 71) (u := 171) Tryz.underlying174 (fun m h => by cases h) (by decide) Tryz.zeroValue174
 go_enter Tryz.func94, Tryz.ntmps94
 go_wp2_with fail
 go_end0
 exact ⟨rfl, Below.refl _ _⟩
theorem pwh_cat {a b : Rx} (ha : PWh a) (hb : PWh b) : PWh (.cat a b) := by
 intro w
 show Calls Tryz.prog 94 #[.iface 172 (.agg #[nodeV a, nodeV b])] w _
 have Ha := Lib.hid ha
 have Hb := Lib.hid hb
 clear ha hb
 have T0 := tai_hit (x := 71) (u := 172) Tryz.underlying184 (by kernel_rfl)
 obtain ⟨ta, xa, hva⟩ := nodeV_iface a
 obtain ⟨tb, xb, hvb⟩ := nodeV_iface b
 rw [hva, hvb]
 have Hva := Lib.hid hva
 have Hvb := Lib.hid hvb
 clear hva hvb
 have hmt := meth_of (f := 239) (name := "Both") Tryz.underlying172 (fun m h => by cases h) (by kernel_rfl) 401
 go_enter Tryz.func94, Tryz.ntmps94
 go_wp2_with fail
 (with_reducible refine (cat_both ta tb xa xb w).mono ?_)
 rintro e w1 ⟨rfl, hb1⟩
 have Hb1 := Lib.hid hb1
 clear hb1 hmt
 go_wp2_with fail
 rw [← Hva.out]
 (with_reducible refine (Ha.out.go w1).mono ?_)
 rintro e w2 ⟨rfl, hb2⟩
 have Hb2 := Lib.hid (Hb1.out.trans (hb2.mono Hb1.out.size))
 clear hb2
 rw [Hva.out]
 go_wp2_with fail
 rw [← Hvb.out]
 (with_reducible refine (Hb.out.go w2).mono ?_)
 rintro e w3 ⟨rfl, hb3⟩
 have Hb3 := Lib.hid (Hb2.out.trans (hb3.mono Hb2.out.size))
 clear hb3
 rw [Hvb.out]
 go_wp2_with fail
 go_end0
 exact ⟨rfl, Hb3.out⟩
theorem pwh_alt {a b : Rx} (ha : PWh a) (hb : PWh b) : PWh (.alt a b) := by
 intro w
 show Calls Tryz.prog 94 #[.iface 159 (.agg #[nodeV a, nodeV b])] w _
 have Ha := Lib.hid ha
 have Hb := Lib.hid hb
 clear ha hb
 have T0 := tai_hit (x := 71) (u := 159) Tryz.underlying184 (by kernel_rfl)
 obtain ⟨ta, xa, hva⟩ := nodeV_iface a
 obtain ⟨tb, xb, hvb⟩ := nodeV_iface b
 rw [hva, hvb]
 have Hva := Lib.hid hva
 have Hvb := Lib.hid hvb
 clear hva hvb
 have hmt := meth_of (f := 235) (name := "Both") Tryz.underlying159 (fun m h => by cases h) (by kernel_rfl) 401
 go_enter Tryz.func94, Tryz.ntmps94
 go_wp2_with fail
 (with_reducible refine (alt_both ta tb xa xb w).mono ?_)
 rintro e w1 ⟨rfl, hb1⟩
 have Hb1 := Lib.hid hb1
 clear hb1 hmt
 go_wp2_with fail
 rw [← Hva.out]
 (with_reducible refine (Ha.out.go w1).mono ?_)
 rintro e w2 ⟨rfl, hb2⟩
 have Hb2 := Lib.hid (Hb1.out.trans (hb2.mono Hb1.out.size))
 clear hb2
 rw [Hva.out]
 go_wp2_with fail
 rw [← Hvb.out]
 (with_reducible refine (Hb.out.go w2).mono ?_)
 rintro e w3 ⟨rfl, hb3⟩
 have Hb3 := Lib.hid (Hb2.out.trans (hb3.mono Hb2.out.size))
 clear hb3
 rw [Hvb.out]
 go_wp2_with fail
 go_end0
 exact ⟨rfl, Hb3.out⟩
theorem pwh_rep {a : Rx} {mn mx : Int} (ha : PWh a) : PWh (.rep a mn mx) := by
 intro w
 show Calls Tryz.prog 94 #[.iface 174 (.agg #[nodeV a, .int .i64 mn, .int .i64 mx])] w _
 have Ha := Lib.hid ha
 clear ha
 have T0 := tai_miss (x := 71) (u := 174) Tryz.underlying184 (by kernel_rfl) Tryz.zeroValue184
 have T1 := ta_hit (x := 71) Tryz.underlying174 (fun m h => by cases h)
 obtain ⟨ta, xa, hva⟩ := nodeV_iface a
 rw [hva]
 have Hva := Lib.hid hva
 clear hva
 have Hal := Lib.hid (alloc_below w (.cells #[.iface ta xa, .int .i64 mn, .int .i64 mx] 174))
 go_enter Tryz.func94, Tryz.ntmps94
 go_wp2_with fail
 rw [← Hva.out]
 (with_reducible refine (Ha.out.go _).mono ?_)
 rw [Hva.out]
 rintro e w2 ⟨rfl, hb2⟩
 have Hb2 := Lib.hid (Hal.out.trans (hb2.mono Hal.out.size))
 clear hb2
 go_wp2_with fail
 go_end0
 exact ⟨rfl, Hb2.out⟩
theorem pwh_all : ∀ (r : Rx), PWh r
 | .emp => pwh_emp
 | .chr c => pwh_chr c
 | .any => pwh_any
 | .set cs => pwh_set cs
 | .beg => pwh_beg
 | .fin => pwh_fin
 | .cat a b => pwh_cat (pwh_all a) (pwh_all b)
 | .alt a b => pwh_alt (pwh_all a) (pwh_all b)
 | .rep a mn mx => pwh_rep (pwh_all a)
end Go.Proofs.YthhnmpkgleelfaaGreatDoor
