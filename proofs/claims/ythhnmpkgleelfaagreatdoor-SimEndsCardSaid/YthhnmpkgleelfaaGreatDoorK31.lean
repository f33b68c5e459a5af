import Derived.Test.YthhnmpkgleelfaaGreatDoorK30
set_option linter.unusedVariables false
set_option linter.unusedSimpArgs false
namespace Go.Proofs.YthhnmpkgleelfaaGreatDoor
open Go.RowKit Go.Shelf
theorem ta_hit {x t : TypeId} {d : TypeDesc} (hu : Tryz.prog.underlying t = some d) (hd : ∀ m, d ≠ .interface m) (v : Value) (w : World) : (Instr.typeAssert (.iface t v) x t true).run Tryz.prog w = .ok (.tuple #[v, .bool true]) w := by
 unfold Instr.typeAssert
 cases d <;> simp_all [run_underlying hu]
theorem ta_miss {x t u : TypeId} {d : TypeDesc} {z : Value} (hu : Tryz.prog.underlying t = some d) (hd : ∀ m, d ≠ .interface m) (hne : u ≠ t) (hz : ∀ w, (zeroValue t).run Tryz.prog w = .ok z w) (v : Value) (w : World) : (Instr.typeAssert (.iface u v) x t true).run Tryz.prog w = .ok (.tuple #[z, .bool false]) w := by
 unfold Instr.typeAssert
 cases d <;> simp_all [run_underlying hu]
def falses (g : Nat) (w : World) : Nat := match w.heap[g]? with
 | some (.cells cs _ _) => cs.toList.countP (fun v => match v with | .bool false => true | _ => false)
 | _ => 0
theorem Fls.falses {w : World} {base g n : Nat} {sn : List Bool} (h : Fls w base (.slice (some ⟨g, 0, none⟩) n n) sn) : YthhnmpkgleelfaaGreatDoor.falses g w = sn.count false := by
 obtain ⟨hl, hf⟩ := h
 rcases hf with ⟨e, _⟩ | ⟨g', cap, cur, e, _, hg, _, _, hs, ht⟩
 ·cases e
 ·injection e with e1 e2 e3
  injection e1 with e1
  injection e1 with e1 _
  subst e1 e2 e3
  unfold YthhnmpkgleelfaaGreatDoor.falses
  rw [hg]
  simp only
  have hc : cur.toList = sn.map boolV := by
   rw [← ht, List.take_of_length_le]
   rw [Array.length_toList, hs, Nat.mul_one]
   omega
  rw [hc, List.countP_map, List.count]
  apply List.countP_congr
  intro b _
  cases b <;> simp [boolV]
theorem Ints.take {w : World} {base q : Nat} {A : Option Addr} {l : List Int} (h : Ints w base (.slice A l.length q) l) (m : Nat) (h0 : 0 < l.length) (hm : m ≤ l.length) : Ints w base (.slice A m q) (l.take m) := by
 have hm' : (l.take m).length = m := by rw [List.length_take]; omega
 obtain ⟨hl, hf⟩ := h
 rcases hf with ⟨_, e⟩ | ⟨g', cap, cur, e, hb, hg, hc, hmx, hs, ht⟩
 ·omega
 ·injection e with e1 e2 e3
  subst e1 e3
  refine ⟨by rw [List.length_map, Nat.mul_one], .inr ⟨g', _, cur, by rw [hm'], hb, hg, by omega, hmx, hs, ?_⟩⟩
  rw [hm', Nat.mul_one, List.map_take, ← ht, List.take_take]
  congr 1
  omega
theorem fls_kept {w w' : World} {base base2 n2 : Nat} {v v2 : Value} {sn : List Bool} {us2 : List Value} (h : Fls w base v sn) (ho : w.ownsRow base2 3 1 v2 n2 us2) (hg : w.grownBy w' v2.ownBlock) : Fls w' base v sn := by
 refine World.ownsRow.kept h hg ?_
 cases hb : v.ownBlock with
 | none => exact .inl rfl
 | some g' =>
  refine .inr (fun e' => ?_)
  obtain ⟨_, cur, h1⟩ := ownsRow_block h hb
  obtain ⟨_, cur2, h2⟩ := ownsRow_block ho e'.symm
  rw [h1] at h2
  injection h2 with h2
  injection h2 with _ h2 _
  cases h2
theorem ints_kept {w w' : World} {base base2 n2 : Nat} {v v2 : Value} {l : List Int} {us2 : List Value} (h : Ints w base v l) (ho : w.ownsRow base2 4 1 v2 n2 us2) (hg : w.grownBy w' v2.ownBlock) : Ints w' base v l := by
 refine World.ownsRow.kept h hg ?_
 cases hb : v.ownBlock with
 | none => exact .inl rfl
 | some g' =>
  refine .inr (fun e' => ?_)
  obtain ⟨_, cur, h1⟩ := ownsRow_block h hb
  obtain ⟨_, cur2, h2⟩ := ownsRow_block ho e'.symm
  rw [h1] at h2
  injection h2 with h2
  injection h2 with _ h2 _
  cases h2
def sLen : Value → Nat
 | .slice _ n _ => n
 | _ => 0
def StRel (w : World) (M : List St) (first last : Bool) (l : List Int) (s10 : Value) (wr : World) : Prop := ∃ (sn : List Bool) (td : List Int) (A : Option Addr) (q : Nat), s10 = .slice A td.length q ∧ Below w.heap.size w wr ∧ Fls wr w.heap.size (.slice (some ⟨w.heap.size, 0, none⟩) M.length M.length) sn ∧ Ints wr w.heap.size (.slice A td.length q) td ∧ StI M first last l sn td ∧ td.length + 3 * sn.count false ≤ l.length + 3 * M.length
def StillP (w : World) (M : List St) (first last : Bool) (l : List Int) (e : Ending) (w' : World) : Prop := ∃ y : List Bool, StillY M first last l y ∧ IntsP w (idx 0 y) e w'
theorem snoc_of {td : List Int} (h : 0 < td.length) : ∃ (m : Nat) (t : List Int) (i : Int), td = t ++ [i] ∧ t.length = m ∧ td.length = m + 1 ∧ td.take m = t := by
 have hne : td ≠ [] := List.ne_nil_of_length_pos h
 refine ⟨td.length - 1, td.dropLast, td.getLast hne, (List.dropLast_concat_getLast hne).symm, by simp, by omega, ?_⟩
 rw [List.dropLast_eq_take]
set_option maxHeartbeats 32000000 in
set_option maxRecDepth 100000 in
theorem still_any {w : World} {g st : Nat} {M : List St} {A0 : Option Addr} {n0 q0 : Nat} {l : List Int} (first last : Bool) (h : Mch w g M st) (hl : Sl w (.slice A0 n0 q0) (l.map intV)) (hw : Wf M) (hM : M.length ≤ 100000) (hll : l.length ≤ 100000) (hin : ∀ i ∈ l, ∃ q : Nat, i = q ∧ q < M.length) :
  Calls Tryz.prog 54 #[.pointer (some ⟨g, 0, none⟩), .slice A0 n0 q0, .bool first, .bool last] w fun e w' => StillP w M first last l e w' := by
 have hmk := run_make_flags M.length (by omega)
 have Hal := Lib.hid (alloc_below w (.cells (Array.replicate M.length (.bool false)) 4))
 have Hfl := Lib.hid (fls_made w M.length (by omega) (Nat.le_refl w.heap.size))
 have hgl := h.lt
 have Hm := Lib.hid h
 have Hl := Lib.hid hl
 have Hw := Lib.hid hw
 have Hin := Lib.hid hin
 obtain ⟨A, q, c0, c1, -⟩ := h.cells
 clear h hl hw hin
 go_enter Tryz.func54, Tryz.ntmps54
 go_wp2_with fail
 (with_reducible refine (clone_any (Hl.out.below Hal.out) (by omega)).mono ?_)
 rintro e w1 ⟨A1, q1, rfl, hb1, ho1⟩
 have Hb1 := Lib.hid (Hal.out.trans (hb1.mono Hal.out.size))
 have Hf1 := Lib.hid (Hfl.out.below hb1)
 have Ho1 := Lib.hid (ho1.low Hal.out.size)
 clear hb1 ho1 c0 c1 hmk
 go_wp2_with fail
 go_loopw [10] (fun s10 wr => StRel w M first last l s10 wr) (fun v wr => sLen v + 3 * falses w.heap.size wr)
 case atStart => exact ⟨List.replicate M.length false, l, A1, q1, rfl, Hb1.out, Hf1.out, Ho1.out, StI.start Hin.out, by simp⟩
 case round =>
  obtain ⟨sn, td, A3, q3, rfl, hb, hf, ho, hi, hms⟩ := hrel
  have Hb := Lib.hid hb
  have Hf := Lib.hid hf
  have Ho := Lib.hid ho
  have Hi := Lib.hid hi
  have hbs := hb.size
  clear hb hf ho hi
  by_cases hlt : 0 < td.length
  ·obtain ⟨m, t, i, rfl, htm, htl, htk⟩ := snoc_of hlt
   obtain ⟨iq, rfl, hiq⟩ := Hi.out.rng i (by simp)
   obtain ⟨gt, rfl⟩ : ∃ gt, A3 = some ⟨gt, 0, none⟩ := by
    obtain ⟨_, _, e, _, _, hA⟩ := ownsRow_slice Ho.out
    obtain ⟨g', e'⟩ := hA hlt
    exact ⟨g', (Value.slice.inj e).1.trans e'⟩
   have hq3 : m + 1 ≤ q3 := by
    obtain ⟨_, _, e, hc, _⟩ := ownsRow_slice Ho.out
    rw [(Value.slice.inj e).2.2, ← htl]; exact hc
   have cl : wr.cell? ⟨gt, m, none⟩ = some (.int .i64 (iq : Int)) := by
    have h1 := ownsRow_cell Ho.out rfl m (by omega)
    rw [h1, List.getElem?_map, List.getElem?_append_right (by omega), htm, Nat.sub_self]
    rfl
   have ht := Ho.out.take m hlt (by omega)
   rw [htk] at ht
   have Ht := Lib.hid ht
   obtain ⟨n, hn⟩ : ∃ n, (t ++ [(iq : Int)]).length = n := ⟨_, rfl⟩
   have hnm : n = m + 1 := by omega
   rw [hn] at hms
   have Hn := Lib.hid hn
   have Hnm := Lib.hid hnm
   have hmm : (m : Int) ≤ 400000 := by omega
   have hsub : (n : Int) - 1 = m := by omega
   have hpos : 0 < (n : Int) := by omega
   have hmn : (m : Int) < n := by omega
   have hmq : (m : Int) ≤ q3 := by omega
   have hiq1 : ¬ (M.length : Int) ≤ iq := by omega
   have Htm := Lib.hid htm
   rw [hn]
   clear ht hn hnm htl htk htm Ho hlt hq3
   obtain ⟨b, hbs2⟩ : ∃ b, sn[iq]? = some b := ⟨_, List.getElem?_eq_getElem (by rw [Hi.out.len]; exact hiq)⟩
   have cs := Hf.out.cell hbs2
   have Hbs2 := Lib.hid hbs2
   clear hbs2
   cases b with
   | true =>
    go_wp2_with fail
    exact ⟨⟨sn, t, some ⟨gt, 0, none⟩, q3, by rw [Htm.out], Hb.out, Hf.out, by rw [Htm.out]; exact Ht.out, Hi.out.pop Hbs2.out, by rw [Htm.out]; omega⟩, by simp only [sLen]; omega⟩
   | false =>
    have hfz := Hf.out.frozen iq
    obtain ⟨z, hz⟩ : ∃ z, M[iq]? = some z := ⟨_, List.getElem?_eq_getElem hiq⟩
    obtain ⟨A, q, c0, -, hs⟩ := Hm.out.cells
    obtain ⟨g2, o2, rfl, cz⟩ := st_cell hs hz
    have hg2 := Lib.lt_of_cell cz
    have hst := Hf.out.set iq true
    have d0 := hst.2.cell (cell_later Hb.out c0) (fun e => by have e2 : g = w.heap.size := Option.some.inj e; omega)
    have dz := hst.2.cell (cell_later Hb.out cz) (fun e => by have e2 : g2 = w.heap.size := Option.some.inj e; have hg3 : g2 < w.heap.size := hg2; omega)
    have Hst := Lib.hid hst.1
    have Htk := Lib.hid (ints_kept Ht.out Hf.out hst.2)
    have Hbw := Lib.hid (below_set (k := iq) (u := .bool true) Hb.out (Nat.le_refl _) hbs)
    have hcnt := count_set Hbs2.out
    have Hfm := Lib.hid (show falses w.heap.size (wr.setCell ⟨w.heap.size, iq, none⟩ (.bool true)) + 1 = falses w.heap.size wr by rw [hst.1.falses, Hf.out.falses]; exact hcnt)
    have Hwz := Lib.hid (Hw.out _ (List.mem_of_getElem? hz))
    have Hz := Lib.hid hz
    clear hs c0 cz hst hz
    obtain ⟨ws, hws⟩ : ∃ ws, wr.setCell ⟨w.heap.size, iq, none⟩ (.bool true) = ws := ⟨_, rfl⟩
    have hwsz : ws.heap.size = wr.heap.size := by rw [← hws]; simp
    have Hwsz := Lib.hid hwsz
    rw [hws] at Hst Htk Hbw Hfm
    have Hws := Lib.hid hws
    clear hwsz hws
    cases z with
    | done =>
     have Hmk := Lib.hid (Hi.out.mark (N := []) (fun r => ⟨fun h => by simp at h, fun h => by
      rcases h with ⟨_, h, _⟩ | ⟨_, _, h, _⟩ <;> (rw [Hz.out] at h; cases h)⟩) (fun i h => by simp at h))
     rw [List.append_nil] at Hmk
     simp only [stV] at dz
     have T1 := ta_miss (x := 124) (u := 118) Tryz.underlying143 (fun m h => by cases h) (by decide) Tryz.zeroValue143
     have T2 := ta_miss (x := 124) (u := 118) Tryz.underlying145 (fun m h => by cases h) (by decide) Tryz.zeroValue145
     go_wp2_with fail
     rw [Hws.out]
     exact ⟨⟨sn.set iq true, t, some ⟨gt, 0, none⟩, q3, by rw [Htm.out], Hbw.out, Hst.out, by rw [Htm.out]; exact Htk.out, Hmk.out, by rw [Htm.out]; omega⟩, by have := Hfm.out; simp only [sLen]; omega⟩
    | eat r tt =>
     have Hmk := Lib.hid (Hi.out.mark (N := []) (fun r => ⟨fun h => by simp at h, fun h => by
      rcases h with ⟨_, h, _⟩ | ⟨_, _, h, _⟩ <;> (rw [Hz.out] at h; cases h)⟩) (fun i h => by simp at h))
     rw [List.append_nil] at Hmk
     simp only [stV] at dz
     have T1 := ta_miss (x := 124) (u := 130) Tryz.underlying143 (fun m h => by cases h) (by decide) Tryz.zeroValue143
     have T2 := ta_miss (x := 124) (u := 130) Tryz.underlying145 (fun m h => by cases h) (by decide) Tryz.zeroValue145
     go_wp2_with fail
     rw [Hws.out]
     exact ⟨⟨sn.set iq true, t, some ⟨gt, 0, none⟩, q3, by rw [Htm.out], Hbw.out, Hst.out, by rw [Htm.out]; exact Htk.out, Hmk.out, by rw [Htm.out]; omega⟩, by have := Hfm.out; simp only [sLen]; omega⟩
    | fork a b =>
     have ha : a < M.length ∧ b < M.length := Hwz.out
     have Hmk := Lib.hid (Hi.out.mark (N := [(a : Int), (b : Int)]) (fun r => ⟨fun h => .inr ⟨a, b, Hz.out, by simp at h; omega⟩, fun h => by
      rcases h with ⟨_, h, _⟩ | ⟨_, _, h, h2⟩
      ·rw [Hz.out] at h; cases h
      ·rw [Hz.out] at h; cases h
       rcases h2 with rfl | rfl <;> simp⟩) (fun i h => by
      simp at h
      rcases h with rfl | rfl
      ·exact ⟨a, rfl, ha.1⟩
      ·exact ⟨b, rfl, ha.2⟩))
     simp only [stV] at dz
     have T1 := ta_hit (x := 124) Tryz.underlying143 (fun m h => by cases h)
     have Hal1 := Lib.hid (alloc_below ws (.cells #[.int .i64 a, .int .i64 b] 143))
     obtain ⟨w5, hw5⟩ : ∃ w5, ws.alloc (.cells #[.int .i64 a, .int .i64 b] 143) = w5 := ⟨_, rfl⟩
     rw [hw5] at Hal1
     have hw5s : w5.heap.size = wr.heap.size + 1 := by rw [← hw5, World.size_alloc, Hwsz.out]
     have Hal2 := Lib.hid (alloc_below w5 (.cells #[.int .i64 a, .int .i64 b] 3))
     have h9 := (Htk.out.below Hal1.out).below Hal2.out
     unfold Ints at h9
     rw [Htm.out] at h9
     have Hoa := Lib.hid h9
     clear h9
     have Hfa := Lib.hid ((Hst.out.below Hal1.out).below Hal2.out)
     have hcn := cells_new w5 [intV a, intV b] 3
     rw [hw5s] at hcn
     have Hcn := Lib.hid hcn
     have Hba := Lib.hid ((Hbw.out.alloc (by rw [Hwsz.out]; exact hbs) (.cells #[.int .i64 a, .int .i64 b] 143)))
     rw [hw5] at Hba
     have Hbb := Lib.hid (Hba.out.alloc (by rw [hw5s]; omega) (.cells #[.int .i64 a, .int .i64 b] 3))
     have Hw5 := Lib.hid hw5
     have Hw5s := Lib.hid hw5s
     clear hcn hw5 hw5s
     go_wp2_with (at_builtin; rw [Hws.out, Hw5.out]; refine wpList_append_k elInt rfl (.tmp 63) (.tmp 68) rfl w.heap.size (.slice (some ⟨gt, 0, none⟩) m q3) m (wr.heap.size + 1) 2 2 (t.map intV) [intV a, intV b] (by simp [Act.eval]) Hoa.out (by simp [Act.eval]) rfl Hcn.out (by simp [intV, Value.oneCell']) (by unfold maxLen; omega) (by omega) (by rw [World.size_alloc, Hw5s.out]; omega) ?_; intro v' w6 h1 h2 h3; have Hp := Lib.hid h1; have Hg := Lib.hid h2; clear h1 h2 h3)
     obtain ⟨A5, q5, rfl, -, -, -⟩ := ownsRow_slice Hp.out
     have hf6 := fls_kept Hfa.out Hoa.out Hg.out
     refine ⟨⟨sn.set iq true, t ++ [(a : Int), (b : Int)], A5, q5, by rw [List.length_append, Htm.out]; rfl, own_below Hbb.out Hoa.out Hbb.out.size Hg.out, hf6, ?_, Hmk.out, by rw [List.length_append, Htm.out]; simp; omega⟩, ?_⟩
     ·unfold Ints
      rw [List.length_append, List.map_append, Htm.out]
      exact Hp.out
     ·rw [hf6.falses, Hf.out.falses]
      have := hcnt
      simp only [sLen]; omega
    | here bb tt =>
     have ha : tt < M.length := Hwz.out
     simp only [stV] at dz
     have T1 := ta_miss (x := 124) (u := 145) Tryz.underlying143 (fun m h => by cases h) (by decide) Tryz.zeroValue143
     have T2 := ta_hit (x := 124) Tryz.underlying145 (fun m h => by cases h)
     by_cases hc : (bb = false ∧ first = true) ∨ (bb = true ∧ last = true)
     ·have Hmk := Lib.hid (Hi.out.mark (N := [(tt : Int)]) (fun r => ⟨fun h => .inl ⟨bb, (by simp at h; rw [show r = tt by omega]; exact Hz.out), hc⟩, fun h => by
       rcases h with ⟨_, h, _⟩ | ⟨_, _, h, _⟩
       ·rw [Hz.out] at h; cases h; simp
       ·rw [Hz.out] at h; cases h⟩) (fun i h => by simp at h; exact ⟨tt, h, ha⟩))
      rcases hc with ⟨rfl, rfl⟩ | ⟨rfl, rfl⟩
      ·skip
       have Hal1 := Lib.hid (alloc_below ws (.cells #[.bool false, .int .i64 tt] 145))
       obtain ⟨w5, hw5⟩ : ∃ w5, ws.alloc (.cells #[.bool false, .int .i64 tt] 145) = w5 := ⟨_, rfl⟩
       rw [hw5] at Hal1
       have hw5s : w5.heap.size = wr.heap.size + 1 := by rw [← hw5, World.size_alloc, Hwsz.out]
       have Hal2 := Lib.hid (alloc_below w5 (.cells #[.int .i64 tt] 3))
       have h9 := (Htk.out.below Hal1.out).below Hal2.out
       unfold Ints at h9
       rw [Htm.out] at h9
       have Hoa := Lib.hid h9
       clear h9
       have Hfa := Lib.hid ((Hst.out.below Hal1.out).below Hal2.out)
       have hcn := cells_new w5 [intV tt] 3
       rw [hw5s] at hcn
       have Hcn := Lib.hid hcn
       have Hba := Lib.hid ((Hbw.out.alloc (by rw [Hwsz.out]; exact hbs) (.cells #[.bool false, .int .i64 tt] 145)))
       rw [hw5] at Hba
       have Hbb := Lib.hid (Hba.out.alloc (by rw [hw5s]; omega) (.cells #[.int .i64 tt] 3))
       have Hw5 := Lib.hid hw5
       have Hw5s := Lib.hid hw5s
       clear hcn hw5 hw5s
       go_wp2_with (at_builtin; rw [Hws.out, Hw5.out]; refine wpList_append_k elInt rfl (.tmp 86) (.tmp 89) rfl w.heap.size (.slice (some ⟨gt, 0, none⟩) m q3) m (wr.heap.size + 1) 1 1 (t.map intV) [intV tt] (by simp [Act.eval]) Hoa.out (by simp [Act.eval]) rfl Hcn.out (by simp [intV, Value.oneCell']) (by unfold maxLen; omega) (by omega) (by rw [World.size_alloc, Hw5s.out]; omega) ?_; intro v' w6 h1 h2 h3; have Hp := Lib.hid h1; have Hg := Lib.hid h2; clear h1 h2 h3)
       obtain ⟨A5, q5, rfl, -, -, -⟩ := ownsRow_slice Hp.out
       have hf6 := fls_kept Hfa.out Hoa.out Hg.out
       refine ⟨⟨sn.set iq true, t ++ [(tt : Int)], A5, q5, by rw [List.length_append, Htm.out]; rfl, own_below Hbb.out Hoa.out Hbb.out.size Hg.out, hf6, ?_, Hmk.out, by rw [List.length_append, Htm.out]; simp; omega⟩, ?_⟩
       ·unfold Ints
        rw [List.length_append, List.map_append, Htm.out]
        exact Hp.out
       ·rw [hf6.falses, Hf.out.falses]
        have := hcnt
        simp only [sLen]; omega
      ·skip
       have Hal1 := Lib.hid (alloc_below ws (.cells #[.bool true, .int .i64 tt] 145))
       obtain ⟨w5, hw5⟩ : ∃ w5, ws.alloc (.cells #[.bool true, .int .i64 tt] 145) = w5 := ⟨_, rfl⟩
       rw [hw5] at Hal1
       have hw5s : w5.heap.size = wr.heap.size + 1 := by rw [← hw5, World.size_alloc, Hwsz.out]
       have Hal2 := Lib.hid (alloc_below w5 (.cells #[.int .i64 tt] 3))
       have h9 := (Htk.out.below Hal1.out).below Hal2.out
       unfold Ints at h9
       rw [Htm.out] at h9
       have Hoa := Lib.hid h9
       clear h9
       have Hfa := Lib.hid ((Hst.out.below Hal1.out).below Hal2.out)
       have hcn := cells_new w5 [intV tt] 3
       rw [hw5s] at hcn
       have Hcn := Lib.hid hcn
       have Hba := Lib.hid ((Hbw.out.alloc (by rw [Hwsz.out]; exact hbs) (.cells #[.bool true, .int .i64 tt] 145)))
       rw [hw5] at Hba
       have Hbb := Lib.hid (Hba.out.alloc (by rw [hw5s]; omega) (.cells #[.int .i64 tt] 3))
       have Hw5 := Lib.hid hw5
       have Hw5s := Lib.hid hw5s
       clear hcn hw5 hw5s
       go_wp2_with (at_builtin; rw [Hws.out, Hw5.out]; refine wpList_append_k elInt rfl (.tmp 86) (.tmp 89) rfl w.heap.size (.slice (some ⟨gt, 0, none⟩) m q3) m (wr.heap.size + 1) 1 1 (t.map intV) [intV tt] (by simp [Act.eval]) Hoa.out (by simp [Act.eval]) rfl Hcn.out (by simp [intV, Value.oneCell']) (by unfold maxLen; omega) (by omega) (by rw [World.size_alloc, Hw5s.out]; omega) ?_; intro v' w6 h1 h2 h3; have Hp := Lib.hid h1; have Hg := Lib.hid h2; clear h1 h2 h3)
       obtain ⟨A5, q5, rfl, -, -, -⟩ := ownsRow_slice Hp.out
       have hf6 := fls_kept Hfa.out Hoa.out Hg.out
       refine ⟨⟨sn.set iq true, t ++ [(tt : Int)], A5, q5, by rw [List.length_append, Htm.out]; rfl, own_below Hbb.out Hoa.out Hbb.out.size Hg.out, hf6, ?_, Hmk.out, by rw [List.length_append, Htm.out]; simp; omega⟩, ?_⟩
       ·unfold Ints
        rw [List.length_append, List.map_append, Htm.out]
        exact Hp.out
       ·rw [hf6.falses, Hf.out.falses]
        have := hcnt
        simp only [sLen]; omega
     ·have hcf : ∀ b f l : Bool, b = bb → f = first → l = last → ((b = false ∧ f = false) ∨ (b = true ∧ l = false)) := by
       rintro b f l rfl rfl rfl
       cases b <;> cases f <;> cases l <;> simp at hc ⊢
      rcases hcf bb first last rfl rfl rfl with ⟨rfl, rfl⟩ | ⟨rfl, rfl⟩
      ·skip
       have Hal1 := Lib.hid (alloc_below ws (.cells #[.bool false, .int .i64 tt] 145))
       have Hba := Lib.hid (Hbw.out.alloc (by rw [Hwsz.out]; exact hbs) (.cells #[.bool false, .int .i64 tt] 145))
       have Hmk := Lib.hid (Hi.out.mark (N := []) (fun r => ⟨fun h => by simp at h, fun h => by
        rcases h with ⟨_, h, h2⟩ | ⟨_, _, h, _⟩
        ·rw [Hz.out] at h; cases h; simp at h2
        ·rw [Hz.out] at h; cases h⟩) (fun i h => by simp at h))
       rw [List.append_nil] at Hmk
       go_wp2_with fail
       rw [Hws.out]
       refine ⟨⟨sn.set iq true, t, some ⟨gt, 0, none⟩, q3, by rw [Htm.out], Hba.out, Hst.out.below Hal1.out, by rw [Htm.out]; exact Htk.out.below Hal1.out, Hmk.out, by rw [Htm.out]; omega⟩, ?_⟩
       rw [(Hst.out.below Hal1.out).falses, Hf.out.falses]
       have := hcnt
       simp only [sLen]; omega
      ·skip
       have Hal1 := Lib.hid (alloc_below ws (.cells #[.bool true, .int .i64 tt] 145))
       have Hba := Lib.hid (Hbw.out.alloc (by rw [Hwsz.out]; exact hbs) (.cells #[.bool true, .int .i64 tt] 145))
       have Hmk := Lib.hid (Hi.out.mark (N := []) (fun r => ⟨fun h => by simp at h, fun h => by
        rcases h with ⟨_, h, h2⟩ | ⟨_, _, h, _⟩
        ·rw [Hz.out] at h; cases h; simp at h2
        ·rw [Hz.out] at h; cases h⟩) (fun i h => by simp at h))
       rw [List.append_nil] at Hmk
       go_wp2_with fail
       rw [Hws.out]
       refine ⟨⟨sn.set iq true, t, some ⟨gt, 0, none⟩, q3, by rw [Htm.out], Hba.out, Hst.out.below Hal1.out, by rw [Htm.out]; exact Htk.out.below Hal1.out, Hmk.out, by rw [Htm.out]; omega⟩, ?_⟩
       rw [(Hst.out.below Hal1.out).falses, Hf.out.falses]
       have := hcnt
       simp only [sLen]; omega
  ·obtain rfl : td = [] := List.eq_nil_of_length_eq_zero (by omega)
   have Hdn := Lib.hid Hi.out.done
   have Hfl2 := Lib.hid (Hf.out.low (Nat.zero_le _))
   have hsl : sn.length = M.length := Hi.out.len
   rw [← hsl] at Hfl2
   go_wp2_with fail
   rw [← hsl]
   (with_reducible refine (pset_any Hfl2.out (by omega)).mono ?_)
   rintro e w4 ⟨A4, q4, rfl, hb4, ho4⟩
   have Hb4 := Lib.hid (Hb.out.trans (hb4.mono Hb.out.size))
   have Ho4 := Lib.hid (ho4.low Hb.out.size)
   clear hb4 ho4
   go_wp2_with fail
   go_ret
   exact ⟨sn, Hdn.out, A4, q4, rfl, Hb4.out, Ho4.out⟩
theorem meth_of {t : TypeId} {f : FuncId} {name : String} {d : TypeDesc} (hu : Tryz.prog.underlying t = some d) (hd : ∀ e, d ≠ .pointer e)
  (hi : (Tryz.prog.info? t).map (fun i => (i.methods.find? (·.name == name)).map (fun m => (m.path, m.func))) = some (some (#[], some (f, false)))) (n : Nat) (v : Value) (w : World) :
  Sem.run Tryz.prog (method (n + 1) t v name) w = .ok (f, v) w := by
 cases hp : Tryz.prog.info? t with
 | none => rw [hp] at hi; cases hi
 | some i =>
  rw [hp] at hi
  simp only [Option.map_some, Option.some.injEq] at hi
  cases hm : i.methods.find? (·.name == name) with
  | none => rw [hm] at hi; cases hi
  | some m =>
   rw [hm] at hi
   simp only [Option.map_some, Option.some.injEq, Prod.mk.injEq] at hi
   unfold method
   simp only [typeInfo, hp, Sem.run_bind, Sem.run_pure, Result.andThen_ok, hm, hi.1, hi.2]
   cases d <;> simp_all [follow, receiverAt, run_underlying hu, Place.get]
def AfRel (w : World) (M : List St) (l : List Int) (c : Int) (s22 : Value) (wr : World) : Prop := ∃ (k : Nat) (sn : List Bool), k ≤ l.length ∧ s22 = .int .i64 k ∧ Below w.heap.size w wr ∧ Fls wr w.heap.size (.slice (some ⟨w.heap.size, 0, none⟩) M.length M.length) sn ∧ AfterY M (l.take k) c sn
def AfterP (w : World) (M : List St) (l : List Int) (c : Int) (e : Ending) (w' : World) : Prop := ∃ y : List Bool, AfterY M l c y ∧ IntsP w (idx 0 y) e w'
theorem AfterY.skip {M : List St} {l : List Int} {c : Int} {sn : List Bool} {k p : Nat} (h : AfterY M (l.take k) c sn) (hk : l[k]? = some (p : Int)) (hn : ∀ r q, M[p]? = some (.eat r q) → atomT r c = false) : AfterY M (l.take (k + 1)) c sn := by
 refine ⟨h.1, fun q => ?_⟩
 rw [h.2, take_next hk]
 constructor
 ·rintro ⟨p', r, h1, h2, h3⟩
  exact ⟨p', r, List.mem_append.2 (.inl h1), h2, h3⟩
 ·rintro ⟨p', r, h1, h2, h3⟩
  rcases List.mem_append.1 h1 with h1 | h1
  ·exact ⟨p', r, h1, h2, h3⟩
  ·obtain rfl : p' = p := by simp at h1; omega
   rw [hn r q h2] at h3; cases h3
theorem AfterY.hit {M : List St} {l : List Int} {c : Int} {sn : List Bool} {k p q : Nat} {r : Rx} (h : AfterY M (l.take k) c sn) (hk : l[k]? = some (p : Int)) (hM : M[p]? = some (.eat r q)) (ht : atomT r c = true) (hq : q < M.length) : AfterY M (l.take (k + 1)) c (sn.set q true) := by
 refine ⟨by rw [List.length_set]; exact h.1, fun q' => ?_⟩
 rw [set_true, h.2, take_next hk, h.1]
 constructor
 ·rintro (⟨p', r, h1, h2, h3⟩ | ⟨rfl, _⟩)
  ·exact ⟨p', r, List.mem_append.2 (.inl h1), h2, h3⟩
  ·exact ⟨p, r, by simp, hM, ht⟩
 ·rintro ⟨p', r', h1, h2, h3⟩
  rcases List.mem_append.1 h1 with h1 | h1
  ·exact .inl ⟨p', r', h1, h2, h3⟩
  ·obtain rfl : p' = p := by simp at h1; omega
   rw [hM] at h2
   cases h2
   exact .inr ⟨rfl, hq⟩
def AtR : Rx → Prop
 | .chr c => isR c = true
 | .any => True
 | .set cs => Gaps cs ∧ ∀ c ∈ cs, isR c = true
 | _ => False
def AtM (M : List St) : Prop := ∀ r t, St.eat r t ∈ M → AtR r
set_option maxHeartbeats 32000000 in
set_option maxRecDepth 100000 in
theorem after_any {w : World} {g st : Nat} {M : List St} {A0 : Option Addr} {n0 q0 : Nat} {l : List Int} (c : Int) (h : Mch w g M st) (hl : Sl w (.slice A0 n0 q0) (l.map intV)) (hw : Wf M) (hat : AtM M) (hM : M.length ≤ 100000) (hll : l.length ≤ 100000) (hin : ∀ i ∈ l, ∃ q : Nat, i = q ∧ q < M.length) :
  Calls Tryz.prog 43 #[.pointer (some ⟨g, 0, none⟩), .slice A0 n0 q0, .int .i32 c] w fun e w' => AfterP w M l (kn c) e w' := by
 obtain rfl := sl_len hl
 have hmk := run_make_flags M.length (by omega)
 have Hal := Lib.hid (alloc_below w (.cells (Array.replicate M.length (.bool false)) 4))
 have Hfl := Lib.hid (fls_made w M.length (by omega) (Nat.le_refl w.heap.size))
 have hgl := h.lt
 have Hm := Lib.hid h
 have Hl := Lib.hid hl
 have Hw := Lib.hid hw
 have Hat := Lib.hid hat
 have Hin := Lib.hid hin
 obtain ⟨A, q, c0, c1, -⟩ := h.cells
 clear h hl hw hin hat
 go_enter Tryz.func43, Tryz.ntmps43
 go_wp2_with fail
 clear hmk c0 c1
 go_loopw [22] (fun s22 wr => AfRel w M l (kn c) s22 wr) (fun v _ => l.length - (intOf v).toNat)
 case atStart =>
  refine ⟨0, List.replicate M.length false, Nat.zero_le _, rfl, Hal.out, Hfl.out, by simp, fun q => ?_⟩
  rw [List.getElem?_replicate]
  constructor
  ·intro h; split at h <;> cases h
  ·rintro ⟨p, r, h, _⟩; simp at h
 case round =>
  obtain ⟨k, sn, hk, rfl, hb, hf, hy⟩ := hrel
  have Hb := Lib.hid hb
  have Hf := Lib.hid hf
  have Hy := Lib.hid hy
  have hbs := hb.size
  clear hb hf hy
  by_cases hlt : k < l.length
  ·obtain ⟨i, hi⟩ : ∃ i, l[k]? = some i := ⟨_, List.getElem?_eq_getElem hlt⟩
   obtain ⟨p, rfl, hp⟩ := Hin.out i (List.mem_of_getElem? hi)
   obtain ⟨gl, ol, rfl, -, hcl⟩ := sl_cells Hl.out (by omega)
   have ck := cell_later Hb.out (hcl k hlt)
   have hgd : l.getD k 0 = (p : Int) := by rw [List.getD_eq_getElem?_getD, hi]; rfl
   rw [hgd] at ck
   obtain ⟨z, hz⟩ : ∃ z, M[p]? = some z := ⟨_, List.getElem?_eq_getElem hp⟩
   have Hz := Lib.hid hz
   have Hi := Lib.hid hi
   have hki : (k : Int) < l.length := by omega
   have hsl : sn.length = M.length := Hy.out.1
   clear hcl hgd hz hi
   go_wp2_with fail
   (with_reducible refine (state_any (Hm.out.below Hb.out) Hz.out (by omega)).mono ?_)
   rintro e w' ⟨rfl, rfl⟩
   cases z with
   | done =>
    simp only [stV]
    have T1 := ta_miss (x := 124) (u := 118) Tryz.underlying130 (fun m h => by cases h) (by decide) Tryz.zeroValue130
    have Hsk := Lib.hid (Hy.out.skip Hi.out (fun r q e => by rw [Hz.out] at e; cases e))
    go_wp2_with fail
    exact ⟨⟨k + 1, sn, by omega, by go_num, Hb.out.alloc hbs _, Hf.out.below (alloc_below _ _), Hsk.out⟩, by simp [intOf]; omega⟩
   | here b t =>
    simp only [stV]
    have T1 := ta_miss (x := 124) (u := 145) Tryz.underlying130 (fun m h => by cases h) (by decide) Tryz.zeroValue130
    have Hsk := Lib.hid (Hy.out.skip Hi.out (fun r q e => by rw [Hz.out] at e; cases e))
    go_wp2_with fail
    exact ⟨⟨k + 1, sn, by omega, by go_num, Hb.out.alloc hbs _, Hf.out.below (alloc_below _ _), Hsk.out⟩, by simp [intOf]; omega⟩
   | fork a b =>
    simp only [stV]
    have T1 := ta_miss (x := 124) (u := 143) Tryz.underlying130 (fun m h => by cases h) (by decide) Tryz.zeroValue130
    have Hsk := Lib.hid (Hy.out.skip Hi.out (fun r q e => by rw [Hz.out] at e; cases e))
    go_wp2_with fail
    exact ⟨⟨k + 1, sn, by omega, by go_num, Hb.out.alloc hbs _, Hf.out.below (alloc_below _ _), Hsk.out⟩, by simp [intOf]; omega⟩
   | eat r t =>
    have T1 := ta_hit (x := 124) Tryz.underlying130 (fun m h => by cases h)
    have ht : t < M.length := Hw.out _ (List.mem_of_getElem? Hz.out)
    have hr := Hat.out r t (List.mem_of_getElem? Hz.out)
    have Hal1 := Lib.hid (alloc_below w' (.cells #[nodeV r, .int .i64 t] 130))
    have Hb1 := Lib.hid (Hb.out.alloc hbs (.cells #[nodeV r, .int .i64 t] 130))
    have Hf1 := Lib.hid (Hf.out.below Hal1.out)
    simp only [stV]
    cases r with
    | chr d =>
     have hrd : isR d = true := hr
     have hmt := meth_of (f := 249) (name := "Takes") Tryz.underlying216 (fun m h => by cases h) (by kernel_rfl) 401
     simp only [nodeV] at Hal1 Hb1 Hf1 ⊢
     go_wp2_with fail
     (with_reducible refine (pchr_any hrd _).mono ?_)
     rintro e w4 ⟨rfl, hb4⟩
     have Hb4a := Lib.hid hb4
     have Hb4 := Lib.hid (Hb1.out.trans (hb4.mono Hb1.out.size))
     have Hf4 := Lib.hid (Hf1.out.below hb4)
     clear hb4 hmt T1
     obtain ⟨b, hbt⟩ : ∃ b, atomT (.chr d) (kn c) = b := ⟨_, rfl⟩
     rw [hbt]
     have Hbt := Lib.hid hbt
     clear hbt
     have ce := Hb4.out
     cases b with
     | false =>
      have Hsk := Lib.hid (Hy.out.skip Hi.out (fun r q e => by rw [Hz.out] at e; cases e; exact Hbt.out))
      clear ce
      go_wp2_with fail
      exact ⟨⟨k + 1, sn, by omega, by go_num, Hb4.out, Hf4.out, Hsk.out⟩, by simp [intOf]; omega⟩
     | true =>
      clear ce
      obtain ⟨bo, hbo⟩ : ∃ b, sn[t]? = some b := ⟨_, List.getElem?_eq_getElem (by omega)⟩
      have csn := Hf4.out.cell hbo
      have hfz := Hf4.out.frozen t
      have Hst := Lib.hid (Hf4.out.set t true).1
      have Hht := Lib.hid (Hy.out.hit Hi.out Hz.out Hbt.out ht)
      have hcell : w4.cell? ⟨w'.heap.size, 1, none⟩ = some (.int .i64 t) := cell_later Hb4a.out (row_cell (heap_alloc_new _ _) (j := 1) rfl)
      clear hbo
      go_wp2_with fail
      exact ⟨⟨k + 1, _, by omega, by go_num, below_set Hb4.out (Nat.le_refl _) Hb4.out.size, Hst.out, Hht.out⟩, by simp [intOf]; omega⟩
    | any =>
     have hmt := meth_of (f := 245) (name := "Takes") Tryz.underlying208 (fun m h => by cases h) (by kernel_rfl) 401
     simp only [nodeV] at Hal1 Hb1 Hf1 ⊢
     go_wp2_with fail
     (with_reducible refine (pany_any _).mono ?_)
     rintro e w4 ⟨rfl, hb4⟩
     have Hb4a := Lib.hid hb4
     have Hb4 := Lib.hid (Hb1.out.trans (hb4.mono Hb1.out.size))
     have Hf4 := Lib.hid (Hf1.out.below hb4)
     clear hb4 hmt T1
     obtain ⟨b, hbt⟩ : ∃ b, atomT (.any) (kn c) = b := ⟨_, rfl⟩
     rw [hbt]
     have Hbt := Lib.hid hbt
     clear hbt
     have ce := Hb4.out
     cases b with
     | false =>
      have Hsk := Lib.hid (Hy.out.skip Hi.out (fun r q e => by rw [Hz.out] at e; cases e; exact Hbt.out))
      clear ce
      go_wp2_with fail
      exact ⟨⟨k + 1, sn, by omega, by go_num, Hb4.out, Hf4.out, Hsk.out⟩, by simp [intOf]; omega⟩
     | true =>
      clear ce
      obtain ⟨bo, hbo⟩ : ∃ b, sn[t]? = some b := ⟨_, List.getElem?_eq_getElem (by omega)⟩
      have csn := Hf4.out.cell hbo
      have hfz := Hf4.out.frozen t
      have Hst := Lib.hid (Hf4.out.set t true).1
      have Hht := Lib.hid (Hy.out.hit Hi.out Hz.out Hbt.out ht)
      have hcell : w4.cell? ⟨w'.heap.size, 1, none⟩ = some (.int .i64 t) := cell_later Hb4a.out (row_cell (heap_alloc_new _ _) (j := 1) rfl)
      clear hbo
      go_wp2_with fail
      exact ⟨⟨k + 1, _, by omega, by go_num, below_set Hb4.out (Nat.le_refl _) Hb4.out.size, Hst.out, Hht.out⟩, by simp [intOf]; omega⟩
    | set cs =>
     obtain ⟨hrg, hrc⟩ : Gaps cs ∧ ∀ c ∈ cs, isR c = true := hr
     have hmt := meth_of (f := 247) (name := "Takes") Tryz.underlying213 (fun m h => by cases h) (by kernel_rfl) 401
     simp only [nodeV] at Hal1 Hb1 Hf1 ⊢
     go_wp2_with fail
     (with_reducible refine (pset_takes hrg hrc _).mono ?_)
     rintro e w4 ⟨rfl, hb4⟩
     have Hb4a := Lib.hid hb4
     have Hb4 := Lib.hid (Hb1.out.trans (hb4.mono Hb1.out.size))
     have Hf4 := Lib.hid (Hf1.out.below hb4)
     clear hb4 hmt T1
     obtain ⟨b, hbt⟩ : ∃ b, atomT (.set cs) (kn c) = b := ⟨_, rfl⟩
     rw [hbt]
     have Hbt := Lib.hid hbt
     clear hbt
     have ce := Hb4.out
     cases b with
     | false =>
      have Hsk := Lib.hid (Hy.out.skip Hi.out (fun r q e => by rw [Hz.out] at e; cases e; exact Hbt.out))
      clear ce
      go_wp2_with fail
      exact ⟨⟨k + 1, sn, by omega, by go_num, Hb4.out, Hf4.out, Hsk.out⟩, by simp [intOf]; omega⟩
     | true =>
      clear ce
      obtain ⟨bo, hbo⟩ : ∃ b, sn[t]? = some b := ⟨_, List.getElem?_eq_getElem (by omega)⟩
      have csn := Hf4.out.cell hbo
      have hfz := Hf4.out.frozen t
      have Hst := Lib.hid (Hf4.out.set t true).1
      have Hht := Lib.hid (Hy.out.hit Hi.out Hz.out Hbt.out ht)
      have hcell : w4.cell? ⟨w'.heap.size, 1, none⟩ = some (.int .i64 t) := cell_later Hb4a.out (row_cell (heap_alloc_new _ _) (j := 1) rfl)
      clear hbo
      go_wp2_with fail
      exact ⟨⟨k + 1, _, by omega, by go_num, below_set Hb4.out (Nat.le_refl _) Hb4.out.size, Hst.out, Hht.out⟩, by simp [intOf]; omega⟩
    | emp => exact hr.elim
    | beg => exact hr.elim
    | fin => exact hr.elim
    | cat _ _ => exact hr.elim
    | alt _ _ => exact hr.elim
    | rep _ _ _ => exact hr.elim
  ·obtain rfl : k = l.length := by omega
   have hy := Hy.out
   rw [List.take_length] at hy
   have hsl : sn.length = M.length := hy.1
   have Hdn := Lib.hid hy
   have Hfl2 := Lib.hid (Hf.out.low (Nat.zero_le _))
   rw [← hsl] at Hfl2
   clear hy
   go_wp2_with fail
   rw [← hsl]
   (with_reducible refine (pset_any Hfl2.out (by omega)).mono ?_)
   rintro e w4 ⟨A4, q4, rfl, hb4, ho4⟩
   have Hb4 := Lib.hid (Hb.out.trans (hb4.mono Hb.out.size))
   have Ho4 := Lib.hid (ho4.low Hb.out.size)
   clear hb4 ho4
   go_wp2_with fail
   go_ret
   exact ⟨sn, Hdn.out, A4, q4, rfl, Hb4.out, Ho4.out⟩
end Go.Proofs.YthhnmpkgleelfaaGreatDoor
