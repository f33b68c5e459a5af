import Derived.Test.YthhnmpkgleelfaaGreatDoorM39
import Derived.Deep.Cut
import Derived.Deep.CutBlock
import Derived.Test.YthhnmpkgleelfaaGreatDoorM31
set_option linter.unusedVariables false
set_option linter.unusedSimpArgs false
namespace Go.Proofs.YthhnmpkgleelfaaGreatDoor
open Go.RowKit Go.Shelf
theorem pkc_lit {b : UInt8} {t : List UInt8} {c : Int} (h : b.toNat < 128) (hc : ((b.toNat : Nat) : Int) = c) : pkc (b :: t) = c := by
 rw [pkc_of (by rw [nx_lit _ _ h]; exact Int.natCast_nonneg _), nx_lit _ _ h, hc]
theorem rpt_pkc {t : List UInt8} (h : rptB (nx t) = false) : (pkc t == 42) = false ∧ (pkc t == 43) = false ∧ (pkc t == 63) = false ∧ (pkc t == 123) = false := by
 unfold pkc
 split
 ·decide
 ·unfold rptB at h
  simpa [and_assoc] using h
theorem PdP.other {s : ByteArray} {B g b : Nat} {w w1 w2 : World} {t : List UInt8} (h : PdP s B g w t w1) (hf : Fr b w1 w2) (hb : w.heap.size ≤ b) (hg : g < b) : PdP s B g w t w2 := by
 obtain ⟨⟨k, hk, h1, h2, h3, h4, h5⟩, h6⟩ := h
 refine ⟨⟨k, hk, h1, h2.then (hf.low (by omega) h2.size), h3, h4, (hf.block g (lt_of_heap h5) (fun e => by have := Option.some.inj e; omega)).trans h5⟩, ?_⟩
 exact ⟨hf.os.trans h6.os, hf.tape.trans h6.tape, hf.output.trans h6.output, Nat.le_trans h6.size hf.size, fun i hi hig => (hf.block i (Nat.lt_of_lt_of_le hi h6.size) (fun e => by have := Option.some.inj e; omega)).trans (h6.block i hi hig)⟩
section
variable {s : ByteArray} {B g : Nat} {w : World} {t us ys zs : List UInt8} {x : Rx}
set_option maxHeartbeats 8000000 in
set_option maxRecDepth 100000 in
theorem piece_bare (h : Pos s B g w t) (k : Atom t x ys) (h2 : rptB (nx ys) = false) (hn : nx ys ≠ -2) (ha : AltOk s B t.length) : Calls Tryz.prog 103 #[.pointer (some ⟨g, 0, none⟩)] w fun e w' => NoP x s B g w ys e w' := by
 have Han := Lib.hid (qanchor h (by have := k.nx; omega))
 have Hat := Lib.hid (fun (w1 : World) (h : Pos s B g w1 t) => patom_any k h ha)
 obtain ⟨n1, n2, n3, n4⟩ := rpt_pkc h2
 clear h k ha h2
 go_enter Tryz.func103, Tryz.ntmps103
 go_wp2_with fail
 (with_reducible refine Han.out.mono ?_)
 rintro e w1 ⟨rfl, hp1⟩
 have Hp1 := Lib.hid hp1
 clear hp1
 go_wp2_with fail
 (with_reducible refine (Hat.out w1 Hp1.out.pos).mono ?_)
 rintro e w2 ⟨rfl, hp2⟩
 have Hp2 := Lib.hid (Hp1.out.trans hp2)
 clear hp2
 obtain ⟨tv, xv, hv⟩ := nodeV_iface x
 have Hv := Lib.hid hv
 rw [hv]
 clear hv
 go_wp2_with fail
 (with_reducible refine (qpeek Hp2.out.pos hn).mono ?_)
 rintro e w3 ⟨rfl, hb3⟩
 have Hp3 := Lib.hid (Hp2.out.quiet hb3)
 clear hb3
 generalize pkc ys = c at *
 generalize nl ys = z at *
 go_wp2_with fail
 go_ret
 exact ⟨by rw [Hv.out]; rfl, Hp3.out⟩
set_option maxHeartbeats 8000000 in
set_option maxRecDepth 100000 in
theorem piece_br (h : Pos s B g w t) {n m : Int} (k : Atom t x (123 :: us)) (kb : Braces us n m ys) (h0 : nx t ≠ 94 ∧ nx t ≠ 36) (h2 : rptB (nx ys) = false) (hn : nx ys ≠ -2) (ha : AltOk s B t.length) : Calls Tryz.prog 103 #[.pointer (some ⟨g, 0, none⟩)] w fun e w' => NoP (.rep x n m) s B g w ys e w' := by
 have Han := Lib.hid (qanchor h (by have := k.nx; omega))
 rw [show ancB (nx t) = false by unfold ancB; simpa using h0] at Han
 have Hat := Lib.hid (fun (w1 : World) (h : Pos s B g w1 t) => patom_any k h ha)
 have Hn := Lib.hid hn
 obtain ⟨n1, n2, n3, n4⟩ := rpt_pkc h2
 have Hq := Lib.hid (show pkc (123 :: us) = 123 from pkc_lit (by decide) (by decide))
 have Hbr := Lib.hid kb
 clear kb h k ha h2 h0 hn
 go_enter Tryz.func103, Tryz.ntmps103
 go_wp2_with fail
 (with_reducible refine Han.out.mono ?_)
 rintro e w1 ⟨rfl, hp1⟩
 have Hp1 := Lib.hid hp1
 clear hp1
 go_wp2_with fail
 (with_reducible refine (Hat.out w1 Hp1.out.pos).mono ?_)
 rintro e w2 ⟨rfl, hp2⟩
 have Hp2 := Lib.hid (Hp1.out.trans hp2)
 clear hp2
 obtain ⟨tv, xv, hv⟩ := nodeV_iface x
 have Hv := Lib.hid hv
 rw [hv]
 clear hv
 go_wp2_with fail
 (with_reducible refine (qpeek Hp2.out.pos (by rw [nx_lit _ _ (by decide)]; decide)).mono ?_)
 rintro e w3 ⟨rfl, hb3⟩
 have Hp3 := Lib.hid (Hp2.out.quiet hb3)
 clear hb3
 rw [Hq.out]
 generalize nl (123 :: us) = z at *
 obtain ⟨kk, hkk, c0, c1, f1, hset⟩ := row_setAt Hp3.out.pos
 have Hset := Lib.hid hset
 clear hset
 have Hpa := Lib.hid ((Hp3.out.trans (Hset.out _ rfl)).quiet (alloc_below _ (.cells #[.iface tv xv, .int .i64 0, .int .i64 (-1)] 174)))
 have hrow := heap_alloc_new (w3.setCell ⟨g, 1, none⟩ (.int .i64 ((kk : Int) + 1))) (.cells #[.iface tv xv, .int .i64 0, .int .i64 (-1)] 174)
 rw [World.size_setCell] at hrow
 have Hrow := Lib.hid hrow
 have hgb := Hp3.out.pos.lt
 clear hrow Hset
 go_wp2_with fail
 clear c0 c1 f1
 generalize ((w3.setCell ⟨g, 1, none⟩ (.int .i64 ((kk : Int) + 1))).alloc (.cells #[.iface tv xv, .int .i64 0, .int .i64 (-1)] 174)) = wa at *
 (with_reducible refine (pbraces_any Hbr.out Hpa.out.pos (kk : Int)).mono ?_)
 rintro e w4 ⟨rfl, hp4⟩
 have Hp4 := Lib.hid (Hpa.out.trans hp4)
 have hrow4 := (hp4.2.block _ (lt_of_heap Hrow.out) (fun e => by have := Option.some.inj e; omega)).trans Hrow.out
 have hb2 : w.heap.size ≤ w3.heap.size := Hp3.out.size
 generalize w3.heap.size = b at *
 have Hrow4 := Lib.hid hrow4
 clear hrow4 hp4
 have d1 := row_cell Hrow4.out (j := 1) rfl
 have d2 := row_cell Hrow4.out (j := 2) rfl
 have e1 := row_frozen Hrow4.out 1
 have e2 := row_frozen Hrow4.out 2
 go_wp2_with fail
 have Hpz := Lib.hid (Hp4.out.other ((Fr.set b 1 w4 (.int .i64 n)).then (Fr.set b 2 _ (.int .i64 m))) hb2 hgb)
 have Hrz := Lib.hid (row_set (row_set Hrow4.out 1 (.int .i64 n)) 2 (.int .i64 m))
 clear d1 d2 e1 e2 Hp4 Hrow4
 generalize (w4.setCell ⟨b, 1, none⟩ (.int .i64 n)).setCell ⟨b, 2, none⟩ (.int .i64 m) = wz at *
 (with_reducible refine (qpeek Hpz.out.pos Hn.out).mono ?_)
 rintro e w5 ⟨rfl, hb5⟩
 have Hp5 := Lib.hid (Hpz.out.quiet hb5)
 have hrow5 := (hb5.block _ (lt_of_heap Hrz.out)).trans Hrz.out
 have d0 : w5.cell? ⟨b, 0, none⟩ = some (.iface tv xv) := row_cell hrow5 (j := 0) rfl
 have d1 : w5.cell? ⟨b, 1, none⟩ = some (.int .i64 n) := row_cell hrow5 (j := 1) rfl
 have d2 : w5.cell? ⟨b, 2, none⟩ = some (.int .i64 m) := row_cell hrow5 (j := 2) rfl
 clear hb5
 generalize pkc ys = c at *
 generalize nl ys = z2 at *
 go_wp2_with fail
 go_ret
 exact ⟨by rw [show nodeV (.rep x n m) = .iface 174 (.agg #[nodeV x, .int .i64 n, .int .i64 m]) from rfl, Hv.out]; rfl, Hp5.out⟩
set_option maxHeartbeats 8000000 in
set_option maxRecDepth 100000 in
theorem piece_star (h : Pos s B g w t) (k : Atom t x (42 :: ys)) (h0 : nx t ≠ 94 ∧ nx t ≠ 36) (h2 : rptB (nx ys) = false) (hn : nx ys ≠ -2) (ha : AltOk s B t.length) : Calls Tryz.prog 103 #[.pointer (some ⟨g, 0, none⟩)] w fun e w' => NoP (.rep x 0 (-1)) s B g w ys e w' := by
 have Han := Lib.hid (qanchor h (by have := k.nx; omega))
 rw [show ancB (nx t) = false by unfold ancB; simpa using h0] at Han
 have Hat := Lib.hid (fun (w1 : World) (h : Pos s B g w1 t) => patom_any k h ha)
 have Hn := Lib.hid hn
 obtain ⟨n1, n2, n3, n4⟩ := rpt_pkc h2
 have Hq := Lib.hid (show pkc (42 :: ys) = 42 from pkc_lit (by decide) (by decide))
 clear h k ha h2 h0 hn
 go_enter Tryz.func103, Tryz.ntmps103
 go_wp2_with fail
 (with_reducible refine Han.out.mono ?_)
 rintro e w1 ⟨rfl, hp1⟩
 have Hp1 := Lib.hid hp1
 clear hp1
 go_wp2_with fail
 (with_reducible refine (Hat.out w1 Hp1.out.pos).mono ?_)
 rintro e w2 ⟨rfl, hp2⟩
 have Hp2 := Lib.hid (Hp1.out.trans hp2)
 clear hp2
 obtain ⟨tv, xv, hv⟩ := nodeV_iface x
 have Hv := Lib.hid hv
 rw [hv]
 clear hv
 go_wp2_with fail
 (with_reducible refine (qpeek Hp2.out.pos (by rw [nx_lit _ _ (by decide)]; decide)).mono ?_)
 rintro e w3 ⟨rfl, hb3⟩
 have Hp3 := Lib.hid (Hp2.out.quiet hb3)
 clear hb3
 rw [Hq.out]
 generalize nl (42 :: ys) = z at *
 obtain ⟨kk, hkk, c0, c1, f1, hset⟩ := row_setAt Hp3.out.pos
 have Hset := Lib.hid hset
 clear hset
 have Hpa := Lib.hid ((Hp3.out.trans (Hset.out _ rfl)).quiet (alloc_below _ (.cells #[.iface tv xv, .int .i64 0, .int .i64 (-1)] 174)))
 have hrow := heap_alloc_new (w3.setCell ⟨g, 1, none⟩ (.int .i64 ((kk : Int) + 1))) (.cells #[.iface tv xv, .int .i64 0, .int .i64 (-1)] 174)
 rw [World.size_setCell] at hrow
 have Hrow := Lib.hid hrow
 clear hrow Hset
 go_wp2_with fail
 clear c0 c1 f1
 (with_reducible refine (qpeek Hpa.out.pos Hn.out).mono ?_)
 rintro e w5 ⟨rfl, hb5⟩
 have Hp5 := Lib.hid (Hpa.out.quiet hb5)
 have hrow5 := (hb5.block _ (lt_of_heap Hrow.out)).trans Hrow.out
 have d0 := row_cell hrow5 (j := 0) rfl
 have d1 := row_cell hrow5 (j := 1) rfl
 have d2 := row_cell hrow5 (j := 2) rfl
 generalize w3.heap.size = b at *
 clear hb5
 generalize pkc ys = c at *
 generalize nl ys = z at *
 go_wp2_with fail
 go_ret
 exact ⟨by rw [show nodeV (.rep x 0 (-1)) = .iface 174 (.agg #[nodeV x, .int .i64 0, .int .i64 (-1)]) from rfl, Hv.out]; rfl, Hp5.out⟩
set_option maxHeartbeats 8000000 in
set_option maxRecDepth 100000 in
theorem piece_plus (h : Pos s B g w t) (k : Atom t x (43 :: ys)) (h0 : nx t ≠ 94 ∧ nx t ≠ 36) (h2 : rptB (nx ys) = false) (hn : nx ys ≠ -2) (ha : AltOk s B t.length) : Calls Tryz.prog 103 #[.pointer (some ⟨g, 0, none⟩)] w fun e w' => NoP (.rep x 1 (-1)) s B g w ys e w' := by
 have Han := Lib.hid (qanchor h (by have := k.nx; omega))
 rw [show ancB (nx t) = false by unfold ancB; simpa using h0] at Han
 have Hat := Lib.hid (fun (w1 : World) (h : Pos s B g w1 t) => patom_any k h ha)
 have Hn := Lib.hid hn
 obtain ⟨n1, n2, n3, n4⟩ := rpt_pkc h2
 have Hq := Lib.hid (show pkc (43 :: ys) = 43 from pkc_lit (by decide) (by decide))
 clear h k ha h2 h0 hn
 go_enter Tryz.func103, Tryz.ntmps103
 go_wp2_with fail
 (with_reducible refine Han.out.mono ?_)
 rintro e w1 ⟨rfl, hp1⟩
 have Hp1 := Lib.hid hp1
 clear hp1
 go_wp2_with fail
 (with_reducible refine (Hat.out w1 Hp1.out.pos).mono ?_)
 rintro e w2 ⟨rfl, hp2⟩
 have Hp2 := Lib.hid (Hp1.out.trans hp2)
 clear hp2
 obtain ⟨tv, xv, hv⟩ := nodeV_iface x
 have Hv := Lib.hid hv
 rw [hv]
 clear hv
 go_wp2_with fail
 (with_reducible refine (qpeek Hp2.out.pos (by rw [nx_lit _ _ (by decide)]; decide)).mono ?_)
 rintro e w3 ⟨rfl, hb3⟩
 have Hp3 := Lib.hid (Hp2.out.quiet hb3)
 clear hb3
 rw [Hq.out]
 generalize nl (43 :: ys) = z at *
 obtain ⟨kk, hkk, c0, c1, f1, hset⟩ := row_setAt Hp3.out.pos
 have Hset := Lib.hid hset
 clear hset
 have Hpa := Lib.hid ((Hp3.out.trans (Hset.out _ rfl)).quiet (alloc_below _ (.cells #[.iface tv xv, .int .i64 1, .int .i64 (-1)] 174)))
 have hrow := heap_alloc_new (w3.setCell ⟨g, 1, none⟩ (.int .i64 ((kk : Int) + 1))) (.cells #[.iface tv xv, .int .i64 1, .int .i64 (-1)] 174)
 rw [World.size_setCell] at hrow
 have Hrow := Lib.hid hrow
 clear hrow Hset
 go_wp2_with fail
 clear c0 c1 f1
 (with_reducible refine (qpeek Hpa.out.pos Hn.out).mono ?_)
 rintro e w5 ⟨rfl, hb5⟩
 have Hp5 := Lib.hid (Hpa.out.quiet hb5)
 have hrow5 := (hb5.block _ (lt_of_heap Hrow.out)).trans Hrow.out
 have d0 := row_cell hrow5 (j := 0) rfl
 have d1 := row_cell hrow5 (j := 1) rfl
 have d2 := row_cell hrow5 (j := 2) rfl
 generalize w3.heap.size = b at *
 clear hb5
 generalize pkc ys = c at *
 generalize nl ys = z at *
 go_wp2_with fail
 go_ret
 exact ⟨by rw [show nodeV (.rep x 1 (-1)) = .iface 174 (.agg #[nodeV x, .int .i64 1, .int .i64 (-1)]) from rfl, Hv.out]; rfl, Hp5.out⟩
set_option maxHeartbeats 8000000 in
set_option maxRecDepth 100000 in
theorem piece_quest (h : Pos s B g w t) (k : Atom t x (63 :: ys)) (h0 : nx t ≠ 94 ∧ nx t ≠ 36) (h2 : rptB (nx ys) = false) (hn : nx ys ≠ -2) (ha : AltOk s B t.length) : Calls Tryz.prog 103 #[.pointer (some ⟨g, 0, none⟩)] w fun e w' => NoP (.rep x 0 1) s B g w ys e w' := by
 have Han := Lib.hid (qanchor h (by have := k.nx; omega))
 rw [show ancB (nx t) = false by unfold ancB; simpa using h0] at Han
 have Hat := Lib.hid (fun (w1 : World) (h : Pos s B g w1 t) => patom_any k h ha)
 have Hn := Lib.hid hn
 obtain ⟨n1, n2, n3, n4⟩ := rpt_pkc h2
 have Hq := Lib.hid (show pkc (63 :: ys) = 63 from pkc_lit (by decide) (by decide))
 clear h k ha h2 h0 hn
 go_enter Tryz.func103, Tryz.ntmps103
 go_wp2_with fail
 (with_reducible refine Han.out.mono ?_)
 rintro e w1 ⟨rfl, hp1⟩
 have Hp1 := Lib.hid hp1
 clear hp1
 go_wp2_with fail
 (with_reducible refine (Hat.out w1 Hp1.out.pos).mono ?_)
 rintro e w2 ⟨rfl, hp2⟩
 have Hp2 := Lib.hid (Hp1.out.trans hp2)
 clear hp2
 obtain ⟨tv, xv, hv⟩ := nodeV_iface x
 have Hv := Lib.hid hv
 rw [hv]
 clear hv
 go_wp2_with fail
 (with_reducible refine (qpeek Hp2.out.pos (by rw [nx_lit _ _ (by decide)]; decide)).mono ?_)
 rintro e w3 ⟨rfl, hb3⟩
 have Hp3 := Lib.hid (Hp2.out.quiet hb3)
 clear hb3
 rw [Hq.out]
 generalize nl (63 :: ys) = z at *
 obtain ⟨kk, hkk, c0, c1, f1, hset⟩ := row_setAt Hp3.out.pos
 have Hset := Lib.hid hset
 clear hset
 have Hpa := Lib.hid ((Hp3.out.trans (Hset.out _ rfl)).quiet (alloc_below _ (.cells #[.iface tv xv, .int .i64 0, .int .i64 1] 174)))
 have hrow := heap_alloc_new (w3.setCell ⟨g, 1, none⟩ (.int .i64 ((kk : Int) + 1))) (.cells #[.iface tv xv, .int .i64 0, .int .i64 1] 174)
 rw [World.size_setCell] at hrow
 have Hrow := Lib.hid hrow
 clear hrow Hset
 go_wp2_with fail
 clear c0 c1 f1
 (with_reducible refine (qpeek Hpa.out.pos Hn.out).mono ?_)
 rintro e w5 ⟨rfl, hb5⟩
 have Hp5 := Lib.hid (Hpa.out.quiet hb5)
 have hrow5 := (hb5.block _ (lt_of_heap Hrow.out)).trans Hrow.out
 have d0 := row_cell hrow5 (j := 0) rfl
 have d1 := row_cell hrow5 (j := 1) rfl
 have d2 := row_cell hrow5 (j := 2) rfl
 generalize w3.heap.size = b at *
 clear hb5
 generalize pkc ys = c at *
 generalize nl ys = z at *
 go_wp2_with fail
 go_ret
 exact ⟨by rw [show nodeV (.rep x 0 1) = .iface 174 (.agg #[nodeV x, .int .i64 0, .int .i64 1]) from rfl, Hv.out]; rfl, Hp5.out⟩
theorem ppiece_any (h : Pos s B g w t) (k : Piece t x ys) (hn : nx ys ≠ -2) (ha : AltOk s B t.length) : Calls Tryz.prog 103 #[.pointer (some ⟨g, 0, none⟩)] w fun e w' => NoP x s B g w ys e w' := by
 cases k with
 | bare k h2 => exact piece_bare h k h2 hn ha
 | rep h0 k q h3 =>
  cases q with
  | star => exact piece_star h k h0 h3 hn ha
  | plus => exact piece_plus h k h0 h3 hn ha
  | quest => exact piece_quest h k h0 h3 hn ha
  | braces q => exact piece_br h k q h0 h3 hn ha
end
theorem AltOk.mono {s : ByteArray} {B n m : Nat} (h : AltOk s B n) (hm : m ≤ n) : AltOk s B m := fun g w t ys l hlt => h g w t ys l (Nat.lt_of_lt_of_le hlt hm)
theorem NdR.nil (w : World) (base : Nat) : NdR w base (.slice none 0 0) [] := ⟨rfl, .inl ⟨rfl, rfl⟩⟩
theorem NdR.below {w w' : World} {base : Nat} {v : Value} {l : List Rx} (h : NdR w base v l) (hb : Below w.heap.size w w') : NdR w' base v l := ownsRow_below h hb (Nat.le_refl _)
theorem NdR.read {w : World} {base q : Nat} {A : Option Addr} {l : List Rx} (h : NdR w base (.slice A l.length q) l) (h0 : 0 < l.length) : ∃ g, A = some ⟨g, 0, none⟩ ∧ ∀ (i : Nat) (r : Rx), l[i]? = some r → w.cell? ⟨g, i, none⟩ = some (nodeV r) := by
 obtain ⟨A', q', e, _, _, hA⟩ := ownsRow_slice h
 obtain ⟨rfl, _, _⟩ := Value.slice.inj e
 obtain ⟨g, rfl⟩ := hA h0
 refine ⟨g, rfl, fun i r hr => ?_⟩
 have hi := (List.getElem?_eq_some_iff.1 hr).1
 rw [ownsRow_cell h rfl i (by omega), List.getElem?_map, hr]
 rfl
theorem NdR.snoc {w : World} {base : Nat} {v : Value} {l : List Rx} {x : Rx} {u : Value} (h : w.ownsRow base 71 1 v (l.length + 1) (l.map nodeV ++ [u])) (hu : nodeV x = u) : NdR w base v (l ++ [x]) := by
 unfold NdR
 rw [List.length_append, List.map_append, List.map_cons, List.map_nil, hu]
 exact h
theorem nl_of {xs : List UInt8} {c : Int} (h : nx xs = c) (h0 : 0 ≤ c) (hc : c < 128) : nl xs = 1 := by
 have h1 := nx_drop (xs := xs) (k := 0) (c := c) (by rw [List.drop_zero]; exact h) h0 hc
 have h2 := h1.2.1
 rwa [List.drop_zero] at h2
def SqR (s : ByteArray) (B g : Nat) (w : World) (N : Nat) (l : List Rx) (ys : List UInt8) (m : Nat) (s3 : Value) (wr : World) : Prop :=
 ∃ (l1 l2 : List Rx) (t : List UInt8) (A : Option Addr) (q : Nat), t.length = m ∧ s3 = .slice A l1.length q ∧ PdP s B g w t wr ∧ NdR wr w.heap.size (.slice A l1.length q) l1 ∧ SeqL t l2 ys ∧ l1 ++ l2 = l ∧ m + l1.length ≤ N
def SqE (s : ByteArray) (B g : Nat) (w : World) (l : List Rx) (ys : List UInt8) (s3 : Value) (wr : World) : Prop :=
 ∃ (A : Option Addr) (q : Nat), s3 = .slice A l.length q ∧ PdP s B g w ys wr ∧ NdR wr w.heap.size (.slice A l.length q) l ∧ l.length ≤ 2000
set_option maxHeartbeats 16000000 in
set_option maxRecDepth 100000 in
theorem pseq_any {s : ByteArray} {B g : Nat} {w : World} {t ys : List UInt8} {l : List Rx} (h : Pos s B g w t) (k : SeqL t l ys) (ha : AltOk s B t.length) : Calls Tryz.prog 89 #[.pointer (some ⟨g, 0, none⟩)] w fun e w' => NoP (joinR .cat l) s B g w ys e w' := by
 have hln := h.len
 have hg := h.lt
 have HR := Lib.hid (PdP.start h)
 have K := Lib.hid k
 have Ha := Lib.hid ha
 clear h k ha
 go_enter Tryz.func89, Tryz.ntmps89
 go_upto_block 0 with fail
 go_cut [3, 4, 5] (fun s3 _ _ wx => SqE s B g w l ys s3 wx)
 case first =>
  go_wp2_with fail
  go_loopg [3, 4, 5] t.length (fun m s3 _ _ wr => SqR s B g w t.length l ys m s3 wr)
  case atStart => exact ⟨[], l, t, none, 0, rfl, rfl, HR.out, NdR.nil _ _, K.out, rfl, by simp⟩
  case round =>
   obtain ⟨l1, l2, t', A, q, rfl, rfl, hp, ho, hk, hl, hn⟩ := hrel
   have Hp := Lib.hid hp
   have Ho := Lib.hid ho
   clear hp ho
   have Hpk := Lib.hid (qpeek Hp.out.pos hk.nx)
   cases hk with
   | done hd =>
    rw [List.append_nil] at hl
    subst hl
    have hcase : nl ys = 0 ∨ (nl ys = 1 ∧ (pkc ys = 124 ∨ pkc ys = 41)) := by
     rcases nx_cases ys with ⟨rfl, _, h2⟩ | ⟨hne, h0, h1, h2, hr⟩ | ⟨_, _, h1, _⟩
     ·exact .inl h2
     ·have hp0 : 0 ≤ nx ys := isR_pos hr
      have hd' : nx ys = 124 ∨ nx ys = 41 := by omega
      right
      refine ⟨?_, by rw [pkc_of hp0]; exact hd'⟩
      rcases hd' with hd' | hd'
      ·exact (nl_of hd' (by decide) (by decide))
      ·exact (nl_of hd' (by decide) (by decide))
     ·omega
    rcases hcase with hz | ⟨hz, hc | hc⟩
    ·go_wp2_with fail
     (with_reducible refine Hpk.out.mono ?_)
     rintro e w2 ⟨rfl, hb2⟩
     rw [hz]
     generalize pkc ys = c at *
     have Hp2 := Lib.hid (Hp.out.quiet hb2)
     have Ho2 := Lib.hid (Ho.out.below hb2)
     clear hb2
     go_wp2_with fail
     go_meet
     case rel => exact ⟨A, q, rfl, Hp2.out, Ho2.out, by omega⟩
    ·go_wp2_with fail
     (with_reducible refine Hpk.out.mono ?_)
     rintro e w2 ⟨rfl, hb2⟩
     rw [hz, hc]
     have Hp2 := Lib.hid (Hp.out.quiet hb2)
     have Ho2 := Lib.hid (Ho.out.below hb2)
     clear hb2
     go_wp2_with fail
     go_meet
     case rel => exact ⟨A, q, rfl, Hp2.out, Ho2.out, by omega⟩
    ·go_wp2_with fail
     (with_reducible refine Hpk.out.mono ?_)
     rintro e w2 ⟨rfl, hb2⟩
     rw [hz, hc]
     have Hp2 := Lib.hid (Hp.out.quiet hb2)
     have Ho2 := Lib.hid (Ho.out.below hb2)
     clear hb2
     go_wp2_with fail
     go_meet
     case rel => exact ⟨A, q, rfl, Hp2.out, Ho2.out, by omega⟩
   | more h0 kp k2 =>
    rename_i T2 x l2
    have hx0 := kp.nx
    have hz0 := nl_pos hx0
    have e1 : (((nl t' : Nat) : Int) == 0) = false := by simp only [beq_eq_false_iff_ne]; omega
    have hpc := pkc_of hx0
    have e2 : (pkc t' == 124) = false := by simp only [beq_eq_false_iff_ne]; omega
    have e3 : (pkc t' == 41) = false := by simp only [beq_eq_false_iff_ne]; omega
    have hsf := kp.suf.2
    have Kp := Lib.hid (fun (w1 : World) (h : Pos s B g w1 t') => ppiece_any h kp k2.nx (Ha.out.mono (by omega)))
    have K2 := Lib.hid k2
    have Hl := Lib.hid hl
    clear h0 kp k2 hx0 hz0 hpc hl
    go_wp2_with fail
    (with_reducible refine Hpk.out.mono ?_)
    rintro e w2 ⟨rfl, hb2⟩
    generalize pkc t' = c at *
    generalize nl t' = z at *
    have Hp2 := Lib.hid (Hp.out.quiet hb2)
    have Ho2 := Lib.hid (Ho.out.below hb2)
    clear hb2
    go_wp2_with fail
    (with_reducible refine (Kp.out w2 Hp2.out.pos).mono ?_)
    rintro e w7 ⟨rfl, hp7⟩
    have Hp7 := Lib.hid (Hp2.out.trans hp7)
    have Ho7 := Lib.hid (own_rd2 Ho2.out hp7.2 Hp2.out.pos (by decide))
    obtain ⟨tv, xv, hv⟩ := nodeV_iface x
    have Hv := Lib.hid hv
    rw [hv]
    clear hv hp7
    have Hal := Lib.hid (alloc_below w7 (.cells #[.iface tv xv] 71))
    have Hoa := Lib.hid (NdR.below (l := l1) Ho7.out Hal.out)
    have Hcn := Lib.hid (cells_new w7 [.iface tv xv] 71)
    have hs7 := Hp7.out.size
    have Hbb := Lib.hid ((Below.refl w.heap.size w7).alloc hs7 (.cells #[.iface tv xv] 71))
    go_wp2_with (at_builtin; refine wpList_append_k elNode rfl (.tmp 21) (.tmp 24) rfl w.heap.size (.slice A l1.length q) l1.length w7.heap.size 1 1 (l1.map nodeV) [.iface tv xv] (by simp [Act.eval]) Hoa.out (by simp [Act.eval]) rfl Hcn.out (by simp [Value.oneCell']) (by unfold maxLen; omega) (by omega) (by simp; omega) ?_; intro v' w9 h1 h2 h3; have Hpp := Lib.hid h1; have Hgg := Lib.hid h2; obtain ⟨A5, q5, rfl, -, -, -⟩ := ownsRow_slice h1; clear h1 h2 h3)
    have hlo : (l1 ++ [x]).length = l1.length + 1 := by simp
    go_roundg T2.length
    case measure => exact hsf
    case rel => exact ⟨l1 ++ [x], l2, T2, A5, q5, rfl, by rw [hlo], Hp7.out.low (own_below Hbb.out Hoa.out (by simp; omega) Hgg.out) hg, by rw [hlo]; exact NdR.snoc Hpp.out Hv.out, K2.out, by rw [List.append_assoc]; exact Hl.out, by rw [hlo]; omega⟩
 case rest =>
  obtain ⟨A, q, rfl, hp, ho, hl⟩ := hcut
  have Hp := Lib.hid hp
  by_cases h0 : l.length = 0
  ·obtain rfl := List.eq_nil_of_length_eq_zero h0
   clear hp ho
   go_wp2_with fail
   go_ret
   exact ⟨rfl, Hp.out⟩
  ·obtain ⟨g2, rfl, hcl⟩ := ho.read (by omega)
   have Hr := Lib.hid (right_cat (q := q) hcl (by omega) (by omega))
   have hz : ((l.length : Int) == 0) = false := by simp only [beq_eq_false_iff_ne]; omega
   clear hp ho hcl
   go_wp2_with fail
   (with_reducible refine Hr.out.mono ?_)
   rintro e w2 ⟨rfl, rfl⟩
   obtain ⟨tv, xv, hv⟩ := nodeV_iface (joinR .cat l)
   have Hv := Lib.hid hv
   rw [hv]
   clear hv
   go_wp2_with fail
   go_ret
   exact ⟨by rw [Hv.out]; rfl, Hp.out⟩
def AlR (s : ByteArray) (B g : Nat) (w : World) (N : Nat) (l : List Rx) (ys : List UInt8) (m : Nat) (s3 : Value) (wr : World) : Prop :=
 ∃ (l1 l2 : List Rx) (t : List UInt8) (A : Option Addr) (q : Nat), t.length = m ∧ s3 = .slice A l1.length q ∧ PdP s B g w t wr ∧ NdR wr w.heap.size (.slice A l1.length q) l1 ∧ 0 < l1.length ∧ ((t = ys ∧ (nx ys = -1 ∨ nx ys = 41) ∧ l2 = []) ∨ ∃ u, t = 124 :: u ∧ AltL u l2 ys) ∧ l1 ++ l2 = l ∧ m + l1.length ≤ N + 1
theorem AltL.split {t ys : List UInt8} {l : List Rx} (h : AltL t l ys) : ∃ (l1 : List Rx) (l2 : List Rx) (u : List UInt8), SeqL t l1 u ∧ l = joinR .cat l1 :: l2 ∧ u.length ≤ t.length ∧ ((u = ys ∧ (YthhnmpkgleelfaaGreatDoor.nx ys = -1 ∨ YthhnmpkgleelfaaGreatDoor.nx ys = 41) ∧ l2 = []) ∨ ∃ v, u = 124 :: v ∧ AltL v l2 ys) := by
 have he := h.ends
 cases h with
 | one h h2 => exact ⟨_, [], ys, h, rfl, h.suf.2, .inl ⟨rfl, he, rfl⟩⟩
 | more h h2 => exact ⟨_, _, _, h, rfl, h.suf.2, .inr ⟨_, rfl, h2⟩⟩
theorem nd_one {w : World} {base : Nat} {x : Rx} {u : Value} (hb : base ≤ w.heap.size) (hu : nodeV x = u) : NdR (w.alloc (.cells #[u] 71)) base (.slice (some ⟨w.heap.size, 0, none⟩) 1 1) [x] := by
 refine ⟨rfl, .inr ⟨w.heap.size, 1, #[u], rfl, hb, heap_alloc_new w _, Nat.le_refl _, by unfold maxLen; omega, rfl, ?_⟩⟩
 rw [List.map_cons, hu]
 rfl
set_option maxHeartbeats 16000000 in
set_option maxRecDepth 100000 in
theorem palt_step {s : ByteArray} {B g : Nat} {w : World} {t ys : List UInt8} {l : List Rx} (h : Pos s B g w t) (k : AltL t l ys) (ha : AltOk s B t.length) : Calls Tryz.prog 63 #[.pointer (some ⟨g, 0, none⟩)] w fun e w' => NoP (joinR .alt l) s B g w ys e w' := by
 have hln := h.len
 have hg := h.lt
 obtain ⟨l1, l2, t1, hs1, rfl, ht1, hre⟩ := k.split
 have Hsq := Lib.hid (pseq_any h hs1 ha)
 have Hre := Lib.hid hre
 have Ha := Lib.hid ha
 clear h k hs1 hre ha
 go_enter Tryz.func63, Tryz.ntmps63
 go_wp2_with fail
 (with_reducible refine Hsq.out.mono ?_)
 rintro e w1 ⟨rfl, hp1⟩
 obtain ⟨tv, xv, hv⟩ := nodeV_iface (joinR .cat l1)
 have Hst : Hid (AlR s B g w t.length (joinR .cat l1 :: l2) ys t1.length (.slice (some ⟨w1.heap.size, 0, none⟩) 1 1) (w1.alloc (.cells #[.iface tv xv] 71))) := Lib.hid
  ⟨[joinR .cat l1], l2, t1, _, 1, rfl, rfl, hp1.quiet (alloc_below _ _), nd_one hp1.size hv, by simp, Hre.out, rfl, by simp; omega⟩
 rw [hv]
 clear hv hp1 Hre
 go_upto_block 0 with fail
 go_cut [3] (fun s3 wx => ∃ m, m ≤ t.length ∧ ∃ (A : Option Addr) (q : Nat), s3 = .slice A (joinR .cat l1 :: l2).length q ∧ PdP s B g w ys wx ∧ NdR wx w.heap.size (.slice A (joinR .cat l1 :: l2).length q) (joinR .cat l1 :: l2) ∧ (joinR .cat l1 :: l2).length ≤ 3000)
 case first =>
  go_wp2_with fail
  go_loopg [3] t1.length (fun m s3 wr => AlR s B g w t.length (joinR .cat l1 :: l2) ys m s3 wr)
  case atStart => exact Hst.out
  case round =>
   obtain ⟨l3, l4, t', A, q, rfl, rfl, hp, ho, hpos, hk, hl, hn⟩ := hrel
   have Hp := Lib.hid hp
   have Ho := Lib.hid ho
   clear hp ho Hst
   rcases hk with ⟨rfl, hd, rfl⟩ | ⟨u, rfl, k4⟩
   ·rw [List.append_nil] at hl
    have Hl := Lib.hid hl
    have Hq := Lib.hid (qisn (c := 124) Hp.out.pos (by omega) (by omega))
    clear hl
    go_wp2_with fail
    (with_reducible refine Hq.out.mono ?_)
    rintro e w2 ⟨rfl, hp2⟩
    have Hp2 := Lib.hid (Hp.out.trans hp2)
    have Ho2 := Lib.hid (own_rd2 Ho.out hp2.2 Hp.out.pos (by decide))
    clear hp2
    go_wp2_with fail
    go_meet
    case rel => exact ⟨0, Nat.zero_le _, A, q, by rw [← Hl.out], Hp2.out, by rw [← Hl.out]; exact Ho2.out, by rw [← Hl.out]; omega⟩
   ·have Hq := Lib.hid (qis (c := 124) Hp.out.pos (by decide) (by decide))
    obtain ⟨l5, l6, t5, hs5, rfl, ht5, hre5⟩ := k4.split
    have hlu : u.length < t.length := by simp only [List.length_cons] at hn; omega
    have Hs5 := Lib.hid (fun (w1 : World) (h : Pos s B g w1 u) => pseq_any h hs5 (Ha.out.mono (by omega)))
    have Hre5 := Lib.hid hre5
    have Hl := Lib.hid hl
    clear k4 hs5 hre5 hl
    go_wp2_with fail
    (with_reducible refine Hq.out.mono ?_)
    rintro e w2 ⟨rfl, hp2⟩
    have Hp2 := Lib.hid (Hp.out.trans hp2)
    have Ho2 := Lib.hid (own_rd2 Ho.out hp2.2 Hp.out.pos (by decide))
    clear hp2
    go_wp2_with fail
    (with_reducible refine (Hs5.out w2 Hp2.out.pos).mono ?_)
    rintro e w7 ⟨rfl, hp7⟩
    have Hp7 := Lib.hid (Hp2.out.trans hp7)
    have Ho7 := Lib.hid (own_rd2 Ho2.out hp7.2 Hp2.out.pos (by decide))
    obtain ⟨tv, xv, hv⟩ := nodeV_iface (joinR .cat l5)
    have Hv := Lib.hid hv
    rw [hv]
    clear hv hp7
    have Hal := Lib.hid (alloc_below w7 (.cells #[.iface tv xv] 71))
    have Hoa := Lib.hid (NdR.below (l := l3) Ho7.out Hal.out)
    have Hcn := Lib.hid (cells_new w7 [.iface tv xv] 71)
    have hs7 := Hp7.out.size
    have Hbb := Lib.hid ((Below.refl w.heap.size w7).alloc hs7 (.cells #[.iface tv xv] 71))
    simp only [List.length_cons] at hn
    go_wp2_with (at_builtin; refine wpList_append_k elNode rfl (.tmp 9) (.tmp 12) rfl w.heap.size (.slice A l3.length q) l3.length w7.heap.size 1 1 (l3.map nodeV) [.iface tv xv] (by simp [Act.eval]) Hoa.out (by simp [Act.eval]) rfl Hcn.out (by simp [Value.oneCell']) (by unfold maxLen; omega) (by omega) (by simp; omega) ?_; intro v' w9 h1 h2 h3; have Hpp := Lib.hid h1; have Hgg := Lib.hid h2; obtain ⟨A5, q5, rfl, -, -, -⟩ := ownsRow_slice h1; clear h1 h2 h3)
    have hlo : (l3 ++ [joinR .cat l5]).length = l3.length + 1 := by simp
    go_roundg t5.length
    case measure => simp only [List.length_cons]; omega
    case rel => exact ⟨l3 ++ [joinR .cat l5], l6, t5, A5, q5, rfl, by rw [hlo], Hp7.out.low (own_below Hbb.out Hoa.out (by simp; omega) Hgg.out) hg, by rw [hlo]; exact NdR.snoc Hpp.out Hv.out, by rw [hlo]; omega, Hre5.out, by rw [List.append_assoc]; exact Hl.out, by rw [hlo]; omega⟩
 case rest =>
  obtain ⟨-, -, A, q, rfl, hp, ho, hl⟩ := hcut
  have Hp := Lib.hid hp
  obtain ⟨g2, rfl, hcl⟩ := ho.read (by simp)
  have Hr := Lib.hid (right_alt (q := q) hcl (by simp) (by omega))
  clear hp ho hcl Hst
  obtain ⟨L, hL⟩ : ∃ L, joinR .cat l1 :: l2 = L := ⟨_, rfl⟩
  rw [hL] at Hr
  have HL := Lib.hid hL
  rw [hL]
  clear hL
  go_wp2_with fail
  (with_reducible refine Hr.out.mono ?_)
  rintro e w2 ⟨rfl, rfl⟩
  obtain ⟨tv, xv, hv⟩ := nodeV_iface (joinR .alt L)
  have Hv := Lib.hid hv
  rw [hv]
  clear hv
  go_wp2_with fail
  go_ret
  exact ⟨by rw [HL.out, Hv.out]; rfl, Hp.out⟩
theorem palt_ok (s : ByteArray) (B : Nat) : ∀ n, AltOk s B n
 | 0 => fun _ _ _ _ _ h => absurd h (Nat.not_lt_zero _)
 | n + 1 => fun g w t ys l hlt k h => palt_step h k ((palt_ok s B n).mono (by omega))
theorem palt_any {s : ByteArray} {B g : Nat} {w : World} {t ys : List UInt8} {l : List Rx} (h : Pos s B g w t) (k : AltL t l ys) : Calls Tryz.prog 63 #[.pointer (some ⟨g, 0, none⟩)] w fun e w' => NoP (joinR .alt l) s B g w ys e w' := palt_step h k (palt_ok s B _)
theorem parse1_idle (p q : Value) (w : World) : CallsD Tryz.prog 62 #[p, q] .returning w fun e u' w' => e = .returned (.tuple #[]) ∧ u' = .returning ∧ w' = w := by
 refine callsD_of_wpS Tryz.func62 rfl fun c₀ cs hu => ?_
 apply wpS_seq
 apply wpS_region
 simp [wpOpsS, go_sem, recoverD, hu, Tryz.ntmps62, Exit.thenS]
 apply wpS_seq
 apply wpS_region
 simp [wpOpsS, go_sem, Exit.thenS]
 refine wpS_cond (t := false) (by simp [Act.eval, Array.replicate]) ?_
 simp only [Bool.false_eq_true, if_false]
 refine wpS_of_wp (wp_skip ?_)
 cases c₀
 simp_all [bodyPostS, results, Tryz.results62]
theorem heap_after (w : World) (i j : Nat) (v : Value) (t : TypeId) (cs : Array Value) (hne : i ≠ j) (h : w.heap[i]? = some (.cells cs t (0, 0))) : (w.setCell ⟨j, 0, none⟩ v).heap[i]? = some (.cells cs t (0, 0)) := (Below.heap_setCell w _ _ _ hne).trans h
set_option maxHeartbeats 16000000 in
set_option maxRecDepth 100000 in
theorem pparse_any {s : ByteArray} {r : Rx} (hp : Parsed s.data.toList r) (hs : s.size ≤ 2000) {w : World} (hT : Tabs w) : Calls Tryz.prog 37 #[.string s] w fun e w' => e = .returned (.tuple #[nodeV r, .nilIface]) ∧ Below w.heap.size w w' := by
 have hmf : ∀ (fn : Fn) (first cap : Array Value) (w : World), (Instr.makeFunc fn first cap).run Tryz.prog w = .ok (.func fn first cap) w := fun _ _ _ _ => rfl
 obtain ⟨l, hl, rfl⟩ := hp
 have K := Lib.hid hl
 clear hl
 have hb1 : Below w.heap.size w ((w.alloc (.cells #[.nilIface] 71)).alloc (.cells #[.nilIface] 73)) := ((Below.refl _ _).alloc (Nat.le_refl _) _).alloc (by simp) _
 have ha : ((w.alloc (.cells #[.nilIface] 71)).alloc (.cells #[.nilIface] 73)).heap[w.heap.size]? = some (.cells #[.nilIface] 71 (0, 0)) := (Below.heap_alloc _ _ _ (by simp)).trans (heap_alloc_new w _)
 have hc : ((w.alloc (.cells #[.nilIface] 71)).alloc (.cells #[.nilIface] 73)).heap[w.heap.size + 1]? = some (.cells #[.nilIface] 73 (0, 0)) := by
  have := heap_alloc_new (w.alloc (.cells #[.nilIface] 71)) (.cells #[.nilIface] 73)
  rwa [World.size_alloc] at this
 have hz1 : ((w.alloc (.cells #[.nilIface] 71)).alloc (.cells #[.nilIface] 73)).heap.size = w.heap.size + 2 := by simp
 have Hb1 := Lib.hid hb1
 have Ha := Lib.hid ha
 have Hc := Lib.hid hc
 have Hz1 := Lib.hid hz1
 have HT := Lib.hid hT
 clear hb1 ha hc hz1 hT
 go_enter_defers Tryz.func37, Tryz.ntmps37
 go_wp2_with fail
 have hg : (((w.alloc (.cells #[.nilIface] 71)).alloc (.cells #[.nilIface] 73)).alloc (.cells #[.string s, .int .i64 0] 109)).heap[w.heap.size + 1 + 1]? = some (.cells #[.string s, .int .i64 0] 109 (0, 0)) := by
  have := heap_alloc_new ((w.alloc (.cells #[.nilIface] 71)).alloc (.cells #[.nilIface] 73)) (.cells #[.string s, .int .i64 0] 109)
  rwa [Hz1.out] at this
 have hal := alloc_below ((w.alloc (.cells #[.nilIface] 71)).alloc (.cells #[.nilIface] 73)) (.cells #[.string s, .int .i64 0] 109)
 have Hb3 := Lib.hid (Hb1.out.trans (hal.mono Hb1.out.size))
 have Ha3 := Lib.hid (quiet_heap Ha.out hal)
 have Hc3 := Lib.hid (quiet_heap Hc.out hal)
 clear hal Hb1 Ha Hc Hz1
 generalize ((w.alloc (.cells #[.nilIface] 71)).alloc (.cells #[.nilIface] 73)).alloc (.cells #[.string s, .int .i64 0] 109) = w3 at *
 have Hpos : Hid (Pos s w.heap.size (w.heap.size + 1 + 1) w3 s.data.toList) := Lib.hid ⟨0, by unfold rst; rw [List.drop_zero], by omega, (Tb.start HT.out).then Hb3.out, hs, Nat.zero_le _, hg⟩
 clear hg
 (with_reducible refine (palt_any Hpos.out K.out).mono ?_)
 rintro e w4 ⟨rfl, hp4⟩
 obtain ⟨k, hk, hr4⟩ := hp4.1
 have hkz : k = s.size := by
  have h1 := rst_len s k
  rw [hk] at h1
  have h2 := hr4.size.2
  simp at h1
  omega
 subst hkz
 have Hr4 := Lib.hid hr4
 have Ha4 := Lib.hid ((hp4.2.block _ (lt_of_heap Ha3.out) (fun e => by have := Option.some.inj e; omega)).trans Ha3.out)
 have Hc4 := Lib.hid ((hp4.2.block _ (lt_of_heap Hc3.out) (fun e => by have := Option.some.inj e; omega)).trans Hc3.out)
 have Hb4 := Lib.hid (Hb3.out.trans (hp4.2.low (B := w.heap.size) (by omega) Hb3.out.size))
 clear hk hr4 hp4 Hpos K
 obtain ⟨tv, xv, hv⟩ := nodeV_iface (joinR .alt l)
 have Hv := Lib.hid hv
 rw [hv]
 clear hv
 have d0 := row_cell Ha4.out (j := 0) rfl
 have f0 := row_frozen Ha4.out 0
 go_wp2_with fail
 have Ha5 := Lib.hid (row_set Ha4.out 0 (.iface tv xv))
 have Hc5 := Lib.hid (heap_after w4 (w.heap.size + 1) w.heap.size (.iface tv xv) _ _ (by omega) Hc4.out)
 have hr5 := heap_after w4 (w.heap.size + 1 + 1) w.heap.size (.iface tv xv) _ _ (by omega) Hr4.out.2.2.2.2
 have hb5 := Hb4.out.setCell (p := ⟨w.heap.size, 0, none⟩) (Nat.le_refl _) (.iface tv xv)
 clear d0 f0 Ha4 Hc4 Hr4 Hb4
 generalize w4.setCell ⟨w.heap.size, 0, none⟩ (.iface tv xv) = w5 at *
 have Hb5 := Lib.hid hb5
 have Hr5 := Lib.hid hr5
 clear hb5 hr5
 have e0 : w5.cell? ⟨w.heap.size + 1 + 1, 0, none⟩ = some (.string s) := row_cell Hr5.out (j := 0) rfl
 have e1 : w5.cell? ⟨w.heap.size + 1 + 1, 1, none⟩ = some (.int .i64 s.size) := row_cell Hr5.out (j := 1) rfl
 go_quiet (fail)
 generalize hq : World.drewN _ _ = w6
 have hb56 : Below w5.heap.size w5 w6 := by rw [← hq]; exact blw_drewN (Below.refl _ _) _
 have Ha6 := Lib.hid (quiet_heap Ha5.out hb56)
 have Hc6 := Lib.hid (quiet_heap Hc5.out hb56)
 have Hb6 := Lib.hid (Hb5.out.trans (hb56.mono Hb5.out.size))
 clear hq hb56 e0 e1 Hr5 Ha5 Hc5 Hb5
 have d0 := row_cell Ha6.out (j := 0) rfl
 have f0 := row_frozen Ha6.out 0
 have d1 := row_cell Hc6.out (j := 0) rfl
 have f1 := row_frozen Hc6.out 0
 go_wp2_with fail
 have hx0 := row_set Ha6.out 0 (.iface tv xv)
 have hx1 := heap_after w6 (w.heap.size + 1) w.heap.size (.iface tv xv) _ _ (by omega) Hc6.out
 have hy1 := row_set hx1 0 .nilIface
 have hy0 := heap_after (w6.setCell ⟨w.heap.size, 0, none⟩ (.iface tv xv)) w.heap.size (w.heap.size + 1) .nilIface _ _ (by omega) hx0
 have hb7 : Below w.heap.size w ((w6.setCell ⟨w.heap.size, 0, none⟩ (.iface tv xv)).setCell ⟨w.heap.size + 1, 0, none⟩ .nilIface) := (Hb6.out.setCell (p := ⟨w.heap.size, 0, none⟩) (Nat.le_refl _) _).setCell (p := ⟨w.heap.size + 1, 0, none⟩) (Nat.le_succ _) _
 generalize (w6.setCell ⟨w.heap.size, 0, none⟩ (.iface tv xv)).setCell ⟨w.heap.size + 1, 0, none⟩ .nilIface = w7 at *
 have c0 := row_cell hy0 (j := 0) (u := .iface tv xv) rfl
 have c1 := row_cell hy1 (j := 0) (u := .nilIface) rfl
 refine leaves_cons (f := 62) (args := #[.pointer (some ⟨w.heap.size, 0, none⟩), .pointer (some ⟨w.heap.size + 1, 0, none⟩)]) (by simp) (by simp [go_sem]) ?_
 refine (parse1_idle _ _ _).mono ?_
 rintro e u' w'' ⟨rfl, rfl, rfl⟩
 simp [Leaves, settle, results, Tryz.results37, go_sem, c0, c1]
 exact ⟨Hv.out.symm, hb7⟩
end Go.Proofs.YthhnmpkgleelfaaGreatDoor
