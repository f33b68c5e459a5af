import Derived.Test.YthhnmpkgleelfaaGreatDoorM38
import Derived.Test.YthhnmpkgleelfaaGreatDoorM7
set_option linter.unusedVariables false
set_option linter.unusedSimpArgs false
namespace Go.Proofs.YthhnmpkgleelfaaGreatDoor
open Go.RowKit Go.Shelf
theorem Pos.len {s : ByteArray} {B g : Nat} {w : World} {t : List UInt8} (h : Pos s B g w t) : t.length ≤ 2000 := by
 obtain ⟨k, rfl, h⟩ := h
 have := rst_len s k
 have := h.size.1
 omega
theorem PdP.low {s : ByteArray} {B g : Nat} {w w1 w2 : World} {t : List UInt8} (h : PdP s B g w t w1) (hb : Below w.heap.size w1 w2) (hg : g < w.heap.size) : PdP s B g w t w2 := by
 obtain ⟨⟨k, hk, h1, h2, h3, h4, h5⟩, h6⟩ := h
 refine ⟨⟨k, hk, h1, h2.then (hb.mono (by omega)), h3, h4, (hb.block g hg).trans h5⟩, ?_⟩
 exact ⟨hb.os.trans h6.os, hb.tape.trans h6.tape, hb.output.trans h6.output, Nat.le_trans h6.size hb.size, fun i hi hig => (hb.block i hi).trans (h6.block i hi hig)⟩
theorem sgl_letters {s : ByteArray} {B g : Nat} {w : World} {f : Bool} {t ys : List UInt8} {c : Int} (k : Single f t c ys) (h : Pos s B g w t) : Calls Tryz.prog 151 #[.pointer (some ⟨g, 0, none⟩)] w fun e w' => NolP s B g w t e w' := by
 cases k with
 | esc k =>
  have := escc_nx k
  exact letters_esc h this.1 this.2
 | dash => exact letters_no h (by rw [nx_lit _ _ (by decide)]; decide) (by rw [nx_lit _ _ (by decide)]; decide)
 | dash1 => exact letters_no h (by rw [nx_lit _ _ (by decide)]; decide) (by rw [nx_lit _ _ (by decide)]; decide)
 | chr h0 h1 => exact letters_no h h0 h1
def ClsP (but : Bool) (L : Spans) (s : ByteArray) (B g : Nat) (w : World) (t : List UInt8) (e : Ending) (w' : World) : Prop := ∃ cs : List Int, e = .returned (.iface 213 (.agg #[.string (rngB cs)])) ∧ SetOf (butP L but) cs ∧ PdP s B g w t w'
def ClRl (s : ByteArray) (B g : Nat) (w : World) (L : Spans) (ys : List UInt8) (N m : Nat) (s4 s5 : Value) (wr : World) : Prop :=
 ∃ (f : Bool) (t : List UInt8) (l PL : Spans) (A : Option Addr) (q : Nat), t.length = m ∧ s4 = .slice A PL.length q ∧ s5 = .bool f ∧ PdP s B g w t wr ∧ SpR wr w.heap.size (.slice A PL.length q) PL ∧ Items f t l ys ∧ BdS PL ∧ (∀ c, 0 ≤ c → c ≤ 1114111 → (inSp PL c ∨ inSp l c ↔ inSp L c)) ∧ PL.length + 20 * m ≤ 20 * N
theorem oth_tur {S S' : Spans} (hb : BdS S) (hs : SortedS S') (hp : S'.Perm S) : ∀ c, 0 ≤ c → c ≤ 1114111 → (inSp (othP 0 S') c ↔ butP S true c) := by
 intro c h0 h1
 rw [(othP_spec S' 0 (Int.le_refl _) hs (hb.perm hp)).2.2 c, inSp_perm hp]
 unfold butP
 simp [h0, h1]
theorem butP_wk {P L : Spans} {but : Bool} {c : Int} (h : inSp P c ↔ inSp L c) : butP P but c ↔ butP L but c := by
 unfold butP
 rw [h]
theorem cl_step {PL SS sp l2 L : Spans} (hs : ∀ c, 0 ≤ c → c ≤ 1114111 → (inSp PL c ∨ inSp (sp ++ l2) c ↔ inSp L c)) (h : ∀ c, 0 ≤ c → c ≤ 1114111 → (inSp SS c ↔ inSp sp c)) : ∀ c, 0 ≤ c → c ≤ 1114111 → (inSp (PL ++ SS) c ∨ inSp l2 c ↔ inSp L c) := by
 intro c h0 h1
 rw [← hs c h0 h1, inSp_append, inSp_append, h c h0 h1, or_assoc]
theorem BdS.app {L M : Spans} (h : BdS L) (k : BdS M) : BdS (L ++ M) := fun p hp => by
 rcases List.mem_append.1 hp with hp | hp
 ·exact h p hp
 ·exact k p hp
theorem SpR.app {w : World} {base : Nat} {v : Value} {O S : Spans} (h : w.ownsRow base 236 2 v (O.length + S.length) ((flatS O).map runeV ++ (flatS S).map runeV)) : SpR w base v (O ++ S) := by
 unfold SpR
 rw [List.length_append, flatS_append, List.map_append]
 exact h
theorem SpR.some {w : World} {base q : Nat} {A : Option Addr} {L : Spans} (h : SpR w base (.slice A L.length q) L) (h0 : 0 < L.length) : ∃ g, A = .some ⟨g, 0, none⟩ := by
 obtain ⟨A', q', e, _, _, hA⟩ := ownsRow_slice h
 obtain ⟨rfl, _, _⟩ := Value.slice.inj e
 exact hA h0
theorem one_bd {a b : Int} (ha : isR a = true) (hb : isR b = true) (h : a ≤ b) : BdS [(a, b)] := fun p hp => by
 rw [List.mem_singleton.1 hp]
 have h1 := (isR_iff a).1 ha
 have h2 := (isR_iff b).1 hb
 exact ⟨h1.1, h, h2.2.1⟩
set_option maxHeartbeats 16000000 in
set_option maxRecDepth 100000 in
theorem pclass_core {s : ByteArray} {B g : Nat} {w : World} {t ys : List UInt8} {L : Spans} {but : Bool} (hi : Calls Tryz.prog 90 #[.pointer (some ⟨g, 0, none⟩), .int .i32 94] w fun e w' => BoP but s B g w t e w') (hg : g < w.heap.size) (k : Items true t L ys) (ht : t.length ≤ 2000) : Calls Tryz.prog 126 #[.pointer (some ⟨g, 0, none⟩)] w fun e w' => ClsP but L s B g w ys e w' := by
 have Hi := Lib.hid hi
 have K := Lib.hid k
 clear hi k
 go_enter Tryz.func126, Tryz.ntmps126
 go_wp2_with fail
 (with_reducible refine Hi.out.mono ?_)
 rintro e w1 ⟨rfl, hp1⟩
 have Hp1 := Lib.hid hp1
 clear hp1
 go_wp2_with fail
 go_loopg [4, 5] t.length (fun m s4 s5 wr => ClRl s B g w L ys t.length m s4 s5 wr)
 case atStart => exact ⟨true, t, L, [], none, 0, rfl, rfl, rfl, Hp1.out, SpR.nil _ _, K.out, fun p hp => by simp at hp, fun c _ _ => by have := inSp_nil c; simp [this], by simp⟩
 case round =>
  obtain ⟨f, t', l, PL, A, q, rfl, rfl, rfl, hp, ho, hk, hb, hs, hn⟩ := hrel
  have Hp := Lib.hid hp
  have Ho := Lib.hid ho
  have HB := Lib.hid hb
  have Hs := Lib.hid hs
  have hps := hp.size
  cases hk with
  | done =>
   have Hi := Lib.hid (qis hp.pos (by decide) (show _ = (93 : Int) by decide))
   clear hp ho hb hs
   go_wp2_with fail
   (with_reducible refine Hi.out.mono ?_)
   rintro e w2 ⟨rfl, hp2⟩
   have Hset := Lib.hid (prset_own (but := but) (own_rd2 Ho.out hp2.2 Hp.out.pos (by decide)) HB.out (by omega))
   have Hp2 := Lib.hid (Hp.out.trans hp2)
   clear hp2
   go_wp2_with fail
   (with_reducible refine Hset.out.mono ?_)
   rintro e w3 ⟨cs, rfl, hcs, hb3⟩
   have Hcs := Lib.hid hcs
   have Hp3 := Lib.hid (Hp2.out.quiet hb3)
   clear hcs hb3
   go_wp2_with fail
   go_ret
   exact ⟨cs, rfl, Hcs.out.wk (fun c hc => butP_wk (by
    have hr := (isR_iff c).1 hc
    have := Hs.out c hr.1 hr.2.1
    have h0 := inSp_nil c
    simp only [h0, or_false] at this
    exact this)), Hp3.out⟩
  | more h0 hit h2 =>
   have Hit := Lib.hid hit
   have H2 := Lib.hid h2
   have Hi := Lib.hid (qisn (c := 93) hp.pos (by have := hit.nx; omega) h0)
   have hl2 := hit.suf.2
   rename_i T2 sp l2
   clear hp ho hb hs h0 hit h2
   go_wp2_with fail
   (with_reducible refine Hi.out.mono ?_)
   rintro e w2 ⟨rfl, hp2⟩
   have Hp2 := Lib.hid (Hp.out.trans hp2)
   have Ho2 := Lib.hid (own_rd2 Ho.out hp2.2 Hp.out.pos (by decide))
   obtain ⟨kk, hkk, c1, -⟩ := row_back Hp2.out.pos
   clear hp2
   have hit := Hit.out
   cases hit with
   | cls ke =>
    obtain ⟨S, bt, htu, hbS, hsS, hlS, ⟨hS0, hSp⟩, hlet⟩ := letters_yes ke Hp2.out.pos
    have Htu := Lib.hid htu
    have HbS := Lib.hid hbS
    have HsS := Lib.hid hsS
    have HSp := Lib.hid hSp
    have Hlet := Lib.hid hlet
    clear ke htu hbS hsS hSp hlet
    go_wp2_with fail
    (with_reducible refine Hlet.out.mono ?_)
    rintro e w3 ⟨A3, q3, rfl, hs3, hp3⟩
    obtain ⟨g3, rfl⟩ := hs3.some hS0
    have Hp3 := Lib.hid (Hp2.out.trans hp3)
    have Ho3 := Lib.hid (own_rd2 Ho2.out hp3.2 Hp2.out.pos (by decide))
    have Hrd3 := Lib.hid (SpR.read hs3)
    clear hs3 hp3 c1
    cases bt with
    | false =>
     have Hp7 := Hp3
     have Ho7 := Ho3
     have Hrd := Lib.hid (Hrd3.out.cells)
     have HbSS := HbS
     have HSS := Lib.hid (show ∀ c, 0 ≤ c → c ≤ 1114111 → (inSp S c ↔ inSp sp c) from fun c h0 h1 => by rw [Htu.out c h0 h1]; unfold butP; simp)
     have hs7 := Hp7.out.size
     have Hbb := Lib.hid (Below.refl w.heap.size w3)
     go_wp2_with (at_builtin; refine wpList_append_k elSpan rfl (.tmp 31) (.tmp 32) rfl w.heap.size (.slice A PL.length q) PL.length g3 q3 S.length ((flatS PL).map runeV) ((flatS S).map runeV) (by simp [Act.eval]) Ho7.out (by simp [Act.eval]) (by rw [List.length_map, flatS_len]; omega) Hrd.out (flatS_one S) (by unfold maxLen; omega) (by omega) hs7 ?_; intro v' w9 h1 h2 h3; have Hpp := Lib.hid h1; have Hgg := Lib.hid h2; obtain ⟨A5, q5, rfl, -, -, -⟩ := ownsRow_slice h1; clear h1 h2 h3)
     have hlo : (PL ++ S).length = PL.length + S.length := by simp
     go_roundg T2.length
     case measure => exact hl2
     case rel => exact ⟨false, T2, _, PL ++ S, A5, q5, rfl, by rw [hlo], rfl, Hp7.out.low (own_below Hbb.out Ho7.out hs7 Hgg.out) hg, by rw [hlo]; exact SpR.app Hpp.out, H2.out, HB.out.app HbSS.out, cl_step Hs.out HSS.out, by rw [hlo]; omega⟩
    | true =>
     have Hot := Lib.hid (pothers_any (q := q3) Hrd3.out HbS.out (by omega))
     go_wp2_with fail
     (with_reducible refine Hot.out.mono ?_)
     rintro e w4 ⟨S', A4, q4, hS', hP', rfl, ho4, hb4⟩
     have hbo : BdS (othP 0 S') := BdS.oth hS' (HbS.out.perm hP')
     have HbSS := Lib.hid hbo
     have HSS := Lib.hid (show ∀ c, 0 ≤ c → c ≤ 1114111 → (inSp (othP 0 S') c ↔ inSp sp c) from fun c h0 h1 => by rw [Htu.out c h0 h1, oth_tur HbS.out hS' hP' c h0 h1])
     have hol := othP_len S' 0
     rw [hP'.length_eq] at hol
     have hne : 0 < (othP 0 S').length := by
      have h0 : inSp (othP 0 S') 0 := by
       rw [oth_tur HbS.out hS' hP' 0 (by decide) (by decide)]
       unfold butP
       rw [if_pos rfl]
       rintro ⟨p, hp, h1, h2⟩
       have := HSp.out p hp
       omega
      obtain ⟨p, hp, _⟩ := h0
      exact List.length_pos_of_mem hp
     obtain ⟨g4, rfl⟩ := ho4.some hne
     have Hrd := Lib.hid ((SpR.read ho4).cells)
     have Hp7 := Lib.hid (Hp3.out.quiet hb4)
     have Ho7 := Lib.hid (Ho3.out.below' hb4)
     clear hS' hP' ho4 hb4 hbo
     generalize othP 0 S' = SO at *
     have hs7 := Hp7.out.size
     have Hbb := Lib.hid (Below.refl w.heap.size w4)
     go_wp2_with (at_builtin; refine wpList_append_k elSpan rfl (.tmp 31) (.tmp 32) rfl w.heap.size (.slice A PL.length q) PL.length g4 q4 SO.length ((flatS PL).map runeV) ((flatS SO).map runeV) (by simp [Act.eval]) Ho7.out (by simp [Act.eval]) (by rw [List.length_map, flatS_len]; omega) Hrd.out (flatS_one SO) (by unfold maxLen; omega) (by omega) hs7 ?_; intro v' w9 h1 h2 h3; have Hpp := Lib.hid h1; have Hgg := Lib.hid h2; obtain ⟨A5, q5, rfl, -, -, -⟩ := ownsRow_slice h1; clear h1 h2 h3)
     have hlo : (PL ++ SO).length = PL.length + SO.length := by simp
     go_roundg T2.length
     case measure => exact hl2
     case rel => exact ⟨false, T2, _, PL ++ SO, A5, q5, rfl, by rw [hlo], rfl, Hp7.out.low (own_below Hbb.out Ho7.out hs7 Hgg.out) hg, by rw [hlo]; exact SpR.app Hpp.out, H2.out, HB.out.app HbSS.out, cl_step Hs.out HSS.out, by rw [hlo]; omega⟩
   | one ks hnr =>
    rename_i cc
    have Hlt := Lib.hid (sgl_letters ks Hp2.out.pos)
    have Hsg := Lib.hid (fun (w1 : World) (h : Pos s B g w1 t') => psingle_any ks h)
    have Hrg := Lib.hid (fun (w1 : World) (h : Pos s B g w1 T2) => ranges_no h (by have := H2.out.nx; omega) hnr)
    have hR := ks.isR
    have HR := Lib.hid hR
    clear ks hnr hR
    go_wp2_with fail
    (with_reducible refine Hlt.out.mono ?_)
    rintro e w3 ⟨rfl, hp3⟩
    have Hp3 := Lib.hid (Hp2.out.trans hp3)
    have Ho3 := Lib.hid (own_rd2 Ho2.out hp3.2 Hp2.out.pos (by decide))
    clear hp3 c1
    go_wp2_with fail
    (with_reducible refine (Hsg.out w3 Hp3.out.pos).mono ?_)
    rintro e w4 ⟨rfl, hp4⟩
    have Hp4 := Lib.hid (Hp3.out.trans hp4)
    have Ho4 := Lib.hid (own_rd2 Ho3.out hp4.2 Hp3.out.pos (by decide))
    clear hp4
    go_wp2_with fail
    (with_reducible refine (Hrg.out w4 Hp4.out.pos).mono ?_)
    rintro e w7 ⟨rfl, hp5⟩
    have Hp7 := Lib.hid (Hp4.out.trans hp5)
    have Ho7 := Lib.hid (SpR.below (L := PL) (own_rd2 Ho4.out hp5.2 Hp4.out.pos (by decide)) (Below.refl _ _))
    clear hp5
    have Hal := Lib.hid (alloc_below w7 (.cells #[.int .i32 cc, .int .i32 cc] 236))
    have Hoa := Lib.hid (Ho7.out.below Hal.out)
    have Hcn := Lib.hid (cells_new w7 [.int .i32 cc, .int .i32 cc] 236)
    have hs7 := Hp7.out.size
    have hal := (Below.refl w.heap.size w7).alloc hs7 (.cells #[.int .i32 cc, .int .i32 cc] 236)
    have Hbb := Lib.hid hal
    clear hal
    go_wp2_with (at_builtin; refine wpList_append_k elSpan rfl (.tmp 48) (.tmp 52) rfl w.heap.size (.slice A PL.length q) PL.length w7.heap.size 1 1 ((flatS PL).map runeV) [.int .i32 cc, .int .i32 cc] (by simp [Act.eval]) Hoa.out (by simp [Act.eval]) rfl Hcn.out (by simp [Value.oneCell']) (by unfold maxLen; omega) (by omega) (by simp; omega) ?_; intro v' w9 h1 h2 h3; have Hpp := Lib.hid h1; have Hgg := Lib.hid h2; obtain ⟨A5, q5, rfl, -, -, -⟩ := ownsRow_slice h1; clear h1 h2 h3)
    have hlo : (PL ++ [(cc, cc)]).length = PL.length + 1 := by simp
    go_roundg T2.length
    case measure => exact hl2
    case rel => exact ⟨false, T2, _, PL ++ [(cc, cc)], A5, q5, rfl, by rw [hlo], rfl, Hp7.out.low (own_below Hbb.out Hoa.out (by simp; omega) Hgg.out) hg, by rw [hlo]; exact SpR.snoc Hpp.out, H2.out, HB.out.app (one_bd HR.out HR.out (Int.le_refl _)), cl_step Hs.out (fun c _ _ => Iff.rfl), by rw [hlo]; omega⟩
   | two ks hr kd hcd =>
    rename_i y cc dd
    have Hlt := Lib.hid (sgl_letters ks Hp2.out.pos)
    have Hsg := Lib.hid (fun (w1 : World) (h : Pos s B g w1 t') => psingle_any ks h)
    have Hrg := Lib.hid (fun (w1 : World) (h : Pos s B g w1 (45 :: y)) => ranges_yes h kd.nx (by have := hr.2; rwa [List.drop_succ_cons, List.drop_zero] at this))
    have Hsd := Lib.hid (fun (w1 : World) (h : Pos s B g w1 y) => psingle_any kd h)
    have HR := Lib.hid ks.isR
    have HRd := Lib.hid kd.isR
    have hcd2 : ¬ dd < cc := by omega
    clear ks hr kd
    go_wp2_with fail
    (with_reducible refine Hlt.out.mono ?_)
    rintro e w3 ⟨rfl, hp3⟩
    have Hp3 := Lib.hid (Hp2.out.trans hp3)
    have Ho3 := Lib.hid (own_rd2 Ho2.out hp3.2 Hp2.out.pos (by decide))
    clear hp3 c1
    go_wp2_with fail
    (with_reducible refine (Hsg.out w3 Hp3.out.pos).mono ?_)
    rintro e w4 ⟨rfl, hp4⟩
    have Hp4 := Lib.hid (Hp3.out.trans hp4)
    have Ho4 := Lib.hid (own_rd2 Ho3.out hp4.2 Hp3.out.pos (by decide))
    clear hp4
    go_wp2_with fail
    (with_reducible refine (Hrg.out w4 Hp4.out.pos).mono ?_)
    rintro e w5 ⟨rfl, hp5⟩
    have Hp5 := Lib.hid (Hp4.out.trans hp5)
    have Ho5 := Lib.hid (own_rd2 Ho4.out hp5.2 Hp4.out.pos (by decide))
    clear hp5
    go_wp2_with fail
    (with_reducible refine (Hsd.out w5 Hp5.out.pos).mono ?_)
    rintro e w7 ⟨rfl, hp6⟩
    have Hp7 := Lib.hid (Hp5.out.trans hp6)
    have Ho7 := Lib.hid (SpR.below (L := PL) (own_rd2 Ho5.out hp6.2 Hp5.out.pos (by decide)) (Below.refl _ _))
    clear hp6
    have Hal := Lib.hid (alloc_below w7 (.cells #[.int .i32 cc, .int .i32 dd] 236))
    have Hoa := Lib.hid (Ho7.out.below Hal.out)
    have Hcn := Lib.hid (cells_new w7 [.int .i32 cc, .int .i32 dd] 236)
    have hs7 := Hp7.out.size
    have hal := (Below.refl w.heap.size w7).alloc hs7 (.cells #[.int .i32 cc, .int .i32 dd] 236)
    have Hbb := Lib.hid hal
    clear hal
    go_wp2_with (at_builtin; refine wpList_append_k elSpan rfl (.tmp 48) (.tmp 52) rfl w.heap.size (.slice A PL.length q) PL.length w7.heap.size 1 1 ((flatS PL).map runeV) [.int .i32 cc, .int .i32 dd] (by simp [Act.eval]) Hoa.out (by simp [Act.eval]) rfl Hcn.out (by simp [Value.oneCell']) (by unfold maxLen; omega) (by omega) (by simp; omega) ?_; intro v' w9 h1 h2 h3; have Hpp := Lib.hid h1; have Hgg := Lib.hid h2; obtain ⟨A5, q5, rfl, -, -, -⟩ := ownsRow_slice h1; clear h1 h2 h3)
    have hlo : (PL ++ [(cc, dd)]).length = PL.length + 1 := by simp
    go_roundg T2.length
    case measure => exact hl2
    case rel => exact ⟨false, T2, _, PL ++ [(cc, dd)], A5, q5, rfl, by rw [hlo], rfl, Hp7.out.low (own_below Hbb.out Hoa.out (by simp; omega) Hgg.out) hg, by rw [hlo]; exact SpR.snoc Hpp.out, H2.out, HB.out.app (one_bd HR.out HRd.out hcd), cl_step Hs.out (fun c _ _ => Iff.rfl), by rw [hlo]; omega⟩
theorem elNode : ElemK 156 71 .nilIface 1 16 := ⟨Tryz.underlying156, by kernel_rfl, rfl, by decide⟩
def NdR (w : World) (base : Nat) (v : Value) (l : List Rx) : Prop := w.ownsRow base 71 1 v l.length (l.map nodeV)
def JoinC (f : Nat) (op : Rx → Rx → Rx) : Prop := ∀ (a b : Rx) (w : World), Calls Tryz.prog f #[nodeV a, nodeV b] w fun e w' => e = .returned (nodeV (op a b)) ∧ w' = w
theorem join_cat : JoinC 104 .cat := by
 intro a b w
 obtain ⟨ta, xa, hva⟩ := nodeV_iface a
 obtain ⟨tb, xb, hvb⟩ := nodeV_iface b
 have hv : nodeV (.cat a b) = .iface 172 (.agg #[nodeV a, nodeV b]) := rfl
 rw [hv, hva, hvb]
 clear hva hvb hv
 go_enter Tryz.func104, Tryz.ntmps104
 go_wp2_with fail
 go_ret
 exact ⟨rfl, rfl⟩
theorem join_alt : JoinC 92 .alt := by
 intro a b w
 obtain ⟨ta, xa, hva⟩ := nodeV_iface a
 obtain ⟨tb, xb, hvb⟩ := nodeV_iface b
 have hv : nodeV (.alt a b) = .iface 159 (.agg #[nodeV a, nodeV b]) := rfl
 rw [hv, hva, hvb]
 clear hva hvb hv
 go_enter Tryz.func92, Tryz.ntmps92
 go_wp2_with fail
 go_ret
 exact ⟨rfl, rfl⟩
def RtRel (op : Rx → Rx → Rx) (l : List Rx) (w : World) (m : Nat) (s5 s6 : Value) (wr : World) : Prop := ∃ k : Nat, k = m ∧ k < l.length ∧ s6 = .int .i64 ((k : Int) - 1) ∧ s5 = nodeV (joinR op (l.drop k)) ∧ w = wr
theorem drop_last {l : List Rx} {n : Nat} {r : Rx} (hn : l.length = n + 1) (hr : l[n]? = some r) (op : Rx → Rx → Rx) : joinR op (l.drop n) = r := by
 have h1 : n < l.length := by omega
 rw [List.getElem?_eq_getElem h1] at hr
 rw [List.drop_eq_getElem_cons h1, Option.some.inj hr, show n + 1 = l.length by omega, List.drop_length]
 rfl
theorem drop_step {l : List Rx} {j : Nat} {r : Rx} (hj : j + 1 < l.length) (hr : l[j]? = some r) (op : Rx → Rx → Rx) : joinR op (l.drop j) = op r (joinR op (l.drop (j + 1))) := by
 have h1 : j < l.length := by omega
 rw [List.getElem?_eq_getElem h1] at hr
 rw [List.drop_eq_getElem_cons h1, Option.some.inj hr, joinR_cons]
 intro e
 have := congrArg List.length e
 simp at this
 omega
set_option maxHeartbeats 4000000 in
set_option maxRecDepth 100000 in
theorem right_cat {w : World} {g q : Nat} {l : List Rx} (h : ∀ (i : Nat) (r : Rx), l[i]? = some r → w.cell? ⟨g, i, none⟩ = some (nodeV r)) (h0 : 0 < l.length) (hl : l.length ≤ 100000) : Calls Tryz.prog 91 #[.slice (some ⟨g, 0, none⟩) l.length q, .func (.func 104) #[] #[]] w fun e w' => e = .returned (nodeV (joinR .cat l)) ∧ w' = w := by
 have H := Lib.hid h
 clear h
 obtain ⟨n, hn⟩ : ∃ n, l.length = n + 1 := ⟨l.length - 1, by omega⟩
 rw [hn]
 obtain ⟨r, hr⟩ : ∃ r, l[n]? = some r := ⟨_, List.getElem?_eq_getElem (by omega)⟩
 have c0 := H.out _ _ hr
 have Hd := Lib.hid (drop_last hn hr .cat)
 clear hr
 obtain ⟨tr, xr, hv⟩ := nodeV_iface r
 rw [hv] at c0
 have Hv := Lib.hid hv
 clear hv
 go_enter Tryz.func91, Tryz.ntmps91
 go_wp2_with fail
 go_loopg [5, 6] n (fun m s5 s6 wr => RtRel .cat l w m s5 s6 wr)
 case atStart => exact ⟨n, rfl, by omega, by go_num, by rw [Hd.out]; exact Hv.out.symm, rfl⟩
 case round =>
  obtain ⟨m, rfl, hm, rfl, hs5, rfl⟩ := hrel
  obtain ⟨t5, x5, hv5⟩ := nodeV_iface (joinR .cat (l.drop m))
  rw [hv5] at hs5
  subst hs5
  have Hv5 := Lib.hid hv5
  clear hv5
  cases m with
  | zero =>
   go_wp2_with fail
   go_ret
   have h5 := Hv5.out
   rw [List.drop_zero] at h5
   exact ⟨by rw [h5]; rfl, rfl⟩
  | succ j =>
   obtain ⟨y, hy⟩ : ∃ y, l[j]? = some y := ⟨_, List.getElem?_eq_getElem (by omega)⟩
   have c1 := H.out _ _ hy
   have Hs := Lib.hid (drop_step hm hy .cat)
   obtain ⟨ty, xy, hvy⟩ := nodeV_iface y
   rw [hvy] at c1
   have Hj := Lib.hid (join_cat y (joinR .cat (l.drop (j + 1))) w)
   rw [hvy, Hv5.out, ← Hs.out] at Hj
   rw [show (((j + 1 : Nat) : Int) - 1) = (j : Int) by omega]
   clear hy hvy
   go_wp2_with fail
   (with_reducible refine Hj.out.mono ?_)
   rintro e w2 ⟨rfl, rfl⟩
   obtain ⟨tz, xz, hvz⟩ := nodeV_iface (joinR .cat (l.drop j))
   have Hvz := Lib.hid hvz
   rw [hvz]
   clear hvz
   go_wp2_with fail
   go_roundg j
   case measure => omega
   case rel => exact ⟨j, rfl, by omega, by go_num, Hvz.out.symm, rfl⟩
set_option maxHeartbeats 4000000 in
set_option maxRecDepth 100000 in
theorem right_alt {w : World} {g q : Nat} {l : List Rx} (h : ∀ (i : Nat) (r : Rx), l[i]? = some r → w.cell? ⟨g, i, none⟩ = some (nodeV r)) (h0 : 0 < l.length) (hl : l.length ≤ 100000) : Calls Tryz.prog 91 #[.slice (some ⟨g, 0, none⟩) l.length q, .func (.func 92) #[] #[]] w fun e w' => e = .returned (nodeV (joinR .alt l)) ∧ w' = w := by
 have H := Lib.hid h
 clear h
 obtain ⟨n, hn⟩ : ∃ n, l.length = n + 1 := ⟨l.length - 1, by omega⟩
 rw [hn]
 obtain ⟨r, hr⟩ : ∃ r, l[n]? = some r := ⟨_, List.getElem?_eq_getElem (by omega)⟩
 have c0 := H.out _ _ hr
 have Hd := Lib.hid (drop_last hn hr .alt)
 clear hr
 obtain ⟨tr, xr, hv⟩ := nodeV_iface r
 rw [hv] at c0
 have Hv := Lib.hid hv
 clear hv
 go_enter Tryz.func91, Tryz.ntmps91
 go_wp2_with fail
 go_loopg [5, 6] n (fun m s5 s6 wr => RtRel .alt l w m s5 s6 wr)
 case atStart => exact ⟨n, rfl, by omega, by go_num, by rw [Hd.out]; exact Hv.out.symm, rfl⟩
 case round =>
  obtain ⟨m, rfl, hm, rfl, hs5, rfl⟩ := hrel
  obtain ⟨t5, x5, hv5⟩ := nodeV_iface (joinR .alt (l.drop m))
  rw [hv5] at hs5
  subst hs5
  have Hv5 := Lib.hid hv5
  clear hv5
  cases m with
  | zero =>
   go_wp2_with fail
   go_ret
   have h5 := Hv5.out
   rw [List.drop_zero] at h5
   exact ⟨by rw [h5]; rfl, rfl⟩
  | succ j =>
   obtain ⟨y, hy⟩ : ∃ y, l[j]? = some y := ⟨_, List.getElem?_eq_getElem (by omega)⟩
   have c1 := H.out _ _ hy
   have Hs := Lib.hid (drop_step hm hy .alt)
   obtain ⟨ty, xy, hvy⟩ := nodeV_iface y
   rw [hvy] at c1
   have Hj := Lib.hid (join_alt y (joinR .alt (l.drop (j + 1))) w)
   rw [hvy, Hv5.out, ← Hs.out] at Hj
   rw [show (((j + 1 : Nat) : Int) - 1) = (j : Int) by omega]
   clear hy hvy
   go_wp2_with fail
   (with_reducible refine Hj.out.mono ?_)
   rintro e w2 ⟨rfl, rfl⟩
   obtain ⟨tz, xz, hvz⟩ := nodeV_iface (joinR .alt (l.drop j))
   have Hvz := Lib.hid hvz
   rw [hvz]
   clear hvz
   go_wp2_with fail
   go_roundg j
   case measure => omega
   case rel => exact ⟨j, rfl, by omega, by go_num, Hvz.out.symm, rfl⟩
def NoP (r : Rx) (s : ByteArray) (B g : Nat) (w : World) (t : List UInt8) (e : Ending) (w' : World) : Prop := e = .returned (nodeV r) ∧ PdP s B g w t w'
def AltOk (s : ByteArray) (B n : Nat) : Prop := ∀ (g : Nat) (w : World) (t ys : List UInt8) (l : List Rx), t.length < n → AltL t l ys → Pos s B g w t → Calls Tryz.prog 63 #[.pointer (some ⟨g, 0, none⟩)] w fun e w' => NoP (joinR .alt l) s B g w ys e w'
theorem SeqL.ends : ∀ {xs ys : List UInt8} {l : List Rx}, SeqL xs l ys → YthhnmpkgleelfaaGreatDoor.nx ys = -1 ∨ YthhnmpkgleelfaaGreatDoor.nx ys = 124 ∨ YthhnmpkgleelfaaGreatDoor.nx ys = 41
 | _, _, _, .done h => h
 | _, _, _, .more _ _ h2 => h2.ends
theorem AltL.ends : ∀ {xs ys : List UInt8} {l : List Rx}, AltL xs l ys → YthhnmpkgleelfaaGreatDoor.nx ys = -1 ∨ YthhnmpkgleelfaaGreatDoor.nx ys = 41
 | _, _, _, .one h h2 => by have := h.ends; omega
 | _, _, _, .more _ h2 => h2.ends
section
variable {s : ByteArray} {B g : Nat} {w : World} {t ys : List UInt8}
set_option maxHeartbeats 4000000 in
set_option maxRecDepth 100000 in
theorem atom_any1 (h : Pos s B g w (46 :: t)) : Calls Tryz.prog 113 #[.pointer (some ⟨g, 0, none⟩)] w fun e w' => NoP .any s B g w t e w' := by
 obtain ⟨kk, hkk, c1, -⟩ := row_back h
 have Hn := Lib.hid (qnextl 46 h (by decide) (by decide))
 clear h
 go_enter Tryz.func113, Tryz.ntmps113
 go_wp2_with fail
 (with_reducible refine Hn.out.mono ?_)
 rintro e w1 ⟨rfl, hp1⟩
 have Hp1 := Lib.hid hp1
 clear hp1 c1
 go_wp2_with fail
 go_ret
 exact ⟨rfl, Hp1.out⟩
set_option maxHeartbeats 4000000 in
set_option maxRecDepth 100000 in
theorem atom_beg1 (h : Pos s B g w (94 :: t)) : Calls Tryz.prog 113 #[.pointer (some ⟨g, 0, none⟩)] w fun e w' => NoP .beg s B g w t e w' := by
 obtain ⟨kk, hkk, c1, -⟩ := row_back h
 have Hn := Lib.hid (qnextl 94 h (by decide) (by decide))
 clear h
 go_enter Tryz.func113, Tryz.ntmps113
 go_wp2_with fail
 (with_reducible refine Hn.out.mono ?_)
 rintro e w1 ⟨rfl, hp1⟩
 have Hp1 := Lib.hid hp1
 clear hp1 c1
 go_wp2_with fail
 go_ret
 exact ⟨rfl, Hp1.out⟩
set_option maxHeartbeats 4000000 in
set_option maxRecDepth 100000 in
theorem atom_fin1 (h : Pos s B g w (36 :: t)) : Calls Tryz.prog 113 #[.pointer (some ⟨g, 0, none⟩)] w fun e w' => NoP .fin s B g w t e w' := by
 obtain ⟨kk, hkk, c1, -⟩ := row_back h
 have Hn := Lib.hid (qnextl 36 h (by decide) (by decide))
 clear h
 go_enter Tryz.func113, Tryz.ntmps113
 go_wp2_with fail
 (with_reducible refine Hn.out.mono ?_)
 rintro e w1 ⟨rfl, hp1⟩
 have Hp1 := Lib.hid hp1
 clear hp1 c1
 go_wp2_with fail
 go_ret
 exact ⟨rfl, Hp1.out⟩
set_option maxHeartbeats 4000000 in
set_option maxRecDepth 100000 in
theorem atom_group {l : List Rx} (h : Pos s B g w (40 :: t)) (h0 : nx t ≠ 63) (k : AltL t l (41 :: ys)) (ha : AltOk s B (t.length + 1)) : Calls Tryz.prog 113 #[.pointer (some ⟨g, 0, none⟩)] w fun e w' => NoP (joinR .alt l) s B g w ys e w' := by
 obtain ⟨kk, hkk, c1, -⟩ := row_back h
 have Hn := Lib.hid (qnextl 40 h (by decide) (by decide))
 clear h
 have Hq := Lib.hid (fun (w1 : World) (h : Pos s B g w1 t) => qisn h k.nx h0)
 have Ha := Lib.hid (fun (w1 : World) (h : Pos s B g w1 t) => ha g w1 t (41 :: ys) l (Nat.lt_succ_self _) k h)
 clear h0 k ha
 go_enter Tryz.func113, Tryz.ntmps113
 go_wp2_with fail
 (with_reducible refine Hn.out.mono ?_)
 rintro e w1 ⟨rfl, hp1⟩
 have Hp1 := Lib.hid hp1
 clear hp1 c1
 go_wp2_with fail
 (with_reducible refine (Hq.out w1 Hp1.out.pos).mono ?_)
 rintro e w2 ⟨rfl, hp2⟩
 have Hp2 := Lib.hid (Hp1.out.trans hp2)
 clear hp2
 go_wp2_with fail
 (with_reducible refine (Ha.out w2 Hp2.out.pos).mono ?_)
 rintro e w3 ⟨rfl, hp3⟩
 have Hp3 := Lib.hid (Hp2.out.trans hp3)
 clear hp3
 obtain ⟨tv, xv, hv⟩ := nodeV_iface (joinR .alt l)
 have Hv := Lib.hid hv
 rw [hv]
 clear hv
 go_wp2_with fail
 (with_reducible refine (qis Hp3.out.pos (by decide) (show _ = (41 : Int) by decide)).mono ?_)
 rintro e w4 ⟨rfl, hp4⟩
 have Hp4 := Lib.hid (Hp3.out.trans hp4)
 clear hp4
 go_wp2_with fail
 go_ret
 exact ⟨by rw [Hv.out]; rfl, Hp4.out⟩
set_option maxHeartbeats 4000000 in
set_option maxRecDepth 100000 in
theorem atom_group2 {l : List Rx} (h : Pos s B g w (40 :: 63 :: 58 :: t)) (k : AltL t l (41 :: ys)) (ha : AltOk s B (t.length + 1)) : Calls Tryz.prog 113 #[.pointer (some ⟨g, 0, none⟩)] w fun e w' => NoP (joinR .alt l) s B g w ys e w' := by
 obtain ⟨kk, hkk, c1, -⟩ := row_back h
 have Hn := Lib.hid (qnextl 40 h (by decide) (by decide))
 clear h
 have Ha := Lib.hid (fun (w1 : World) (h : Pos s B g w1 t) => ha g w1 t (41 :: ys) l (Nat.lt_succ_self _) k h)
 clear k ha
 go_enter Tryz.func113, Tryz.ntmps113
 go_wp2_with fail
 (with_reducible refine Hn.out.mono ?_)
 rintro e w1 ⟨rfl, hp1⟩
 have Hp1 := Lib.hid hp1
 clear hp1 c1
 go_wp2_with fail
 (with_reducible refine (qis Hp1.out.pos (by decide) (show _ = (63 : Int) by decide)).mono ?_)
 rintro e wa ⟨rfl, hpa⟩
 have Hpa := Lib.hid (Hp1.out.trans hpa)
 clear hpa
 go_wp2_with fail
 (with_reducible refine (qis Hpa.out.pos (by decide) (show _ = (58 : Int) by decide)).mono ?_)
 rintro e w2 ⟨rfl, hp2⟩
 have Hp2 := Lib.hid (Hpa.out.trans hp2)
 clear hp2
 go_wp2_with fail
 (with_reducible refine (Ha.out w2 Hp2.out.pos).mono ?_)
 rintro e w3 ⟨rfl, hp3⟩
 have Hp3 := Lib.hid (Hp2.out.trans hp3)
 clear hp3
 obtain ⟨tv, xv, hv⟩ := nodeV_iface (joinR .alt l)
 have Hv := Lib.hid hv
 rw [hv]
 clear hv
 go_wp2_with fail
 (with_reducible refine (qis Hp3.out.pos (by decide) (show _ = (41 : Int) by decide)).mono ?_)
 rintro e w4 ⟨rfl, hp4⟩
 have Hp4 := Lib.hid (Hp3.out.trans hp4)
 clear hp4
 go_wp2_with fail
 go_ret
 exact ⟨by rw [Hv.out]; rfl, Hp4.out⟩
set_option maxHeartbeats 4000000 in
set_option maxRecDepth 100000 in
theorem atom_cls {L : Spans} {cs : List Int} {but : Bool} {u : List UInt8} (h : Pos s B g w (91 :: u)) (hi : ∀ w1, Pos s B g w1 u → Calls Tryz.prog 90 #[.pointer (some ⟨g, 0, none⟩), .int .i32 94] w1 fun e w' => BoP but s B g w1 t e w') (ht : t.length ≤ 2000) (k : Items true t L ys) (hs : SetOf (butP L but) cs) : Calls Tryz.prog 113 #[.pointer (some ⟨g, 0, none⟩)] w fun e w' => NoP (.set cs) s B g w ys e w' := by
 obtain ⟨kk, hkk, c1, -⟩ := row_back h
 have Hn := Lib.hid (qnextl 91 h (by decide) (by decide))
 clear h
 have Hi := Lib.hid hi
 have K := Lib.hid k
 have Hs := Lib.hid hs
 clear hi k hs
 go_enter Tryz.func113, Tryz.ntmps113
 go_wp2_with fail
 (with_reducible refine Hn.out.mono ?_)
 rintro e w1 ⟨rfl, hp1⟩
 have Hp1 := Lib.hid hp1
 clear hp1 c1
 go_wp2_with fail
 (with_reducible refine (pclass_core (Hi.out w1 Hp1.out.pos) Hp1.out.pos.lt K.out ht).mono ?_)
 rintro e w2 ⟨cs', rfl, hcs, hp2⟩
 obtain rfl := hcs.uniq Hs.out
 have Hp2 := Lib.hid (Hp1.out.trans hp2)
 clear hp2 hcs
 go_wp2_with fail
 go_ret
 exact ⟨rfl, Hp2.out⟩
set_option maxHeartbeats 4000000 in
set_option maxRecDepth 100000 in
theorem atom_escS {L : Spans} {cs : List Int} (h : Pos s B g w (92 :: t)) (k : EscS t L ys) (hs : SetOf (inSp L) cs) : Calls Tryz.prog 113 #[.pointer (some ⟨g, 0, none⟩)] w fun e w' => NoP (.set cs) s B g w ys e w' := by
 obtain ⟨kk, hkk, c1, -⟩ := row_back h
 have Hn := Lib.hid (qnextl 92 h (by decide) (by decide))
 clear h
 have Hs := Lib.hid hs
 obtain ⟨S, bt, htu, hbS, hsS, hlS, -, hlet⟩ := letter_yes (s := s) (B := B) (g := g) k
 have Htu := Lib.hid htu
 have HbS := Lib.hid hbS
 have Hlet := Lib.hid hlet
 clear k hs htu hbS hsS hlet
 go_enter Tryz.func113, Tryz.ntmps113
 go_wp2_with fail
 (with_reducible refine Hn.out.mono ?_)
 rintro e w1 ⟨rfl, hp1⟩
 have Hp1 := Lib.hid hp1
 clear hp1 c1
 go_wp2_with fail
 (with_reducible refine (Hlet.out w1 Hp1.out.pos).mono ?_)
 rintro e w2 ⟨A2, q2, rfl, ho2, hp2⟩
 have Hp2 := Lib.hid (Hp1.out.trans hp2)
 have Hset := Lib.hid (prset_own (but := bt) ho2 HbS.out (by omega))
 clear hp2 ho2
 go_wp2_with fail
 (with_reducible refine Hset.out.mono ?_)
 rintro e w3 ⟨cs', rfl, hcs, hb3⟩
 obtain rfl := (hcs.wk (fun c hc => (Htu.out c ((isR_iff c).1 hc).1 ((isR_iff c).1 hc).2.1).symm)).uniq Hs.out
 have Hp3 := Lib.hid (Hp2.out.quiet hb3)
 clear hb3 hcs
 go_wp2_with fail
 go_ret
 exact ⟨rfl, Hp3.out⟩
set_option maxHeartbeats 4000000 in
set_option maxRecDepth 100000 in
theorem atom_escC {c : Int} (h : Pos s B g w (92 :: t)) (k : EscC t c ys) : Calls Tryz.prog 113 #[.pointer (some ⟨g, 0, none⟩)] w fun e w' => NoP (.chr c) s B g w ys e w' := by
 obtain ⟨kk, hkk, c1, -⟩ := row_back h
 have Hn := Lib.hid (qnextl 92 h (by decide) (by decide))
 clear h
 have Hl := Lib.hid (fun (w1 : World) (h : Pos s B g w1 t) => letter_no h (escc_nx k).1 (escc_nx k).2)
 have He := Lib.hid (fun (w1 : World) (h : Pos s B g w1 t) => escaped_any k h)
 clear k
 go_enter Tryz.func113, Tryz.ntmps113
 go_wp2_with fail
 (with_reducible refine Hn.out.mono ?_)
 rintro e w1 ⟨rfl, hp1⟩
 have Hp1 := Lib.hid hp1
 clear hp1 c1
 go_wp2_with fail
 (with_reducible refine (Hl.out w1 Hp1.out.pos).mono ?_)
 rintro e w2 ⟨rfl, hp2⟩
 have Hp2 := Lib.hid (Hp1.out.trans hp2)
 clear hp2
 go_wp2_with fail
 (with_reducible refine (He.out w2 Hp2.out.pos).mono ?_)
 rintro e w3 ⟨rfl, hp3⟩
 have Hp3 := Lib.hid (Hp2.out.trans hp3)
 clear hp3
 go_wp2_with fail
 go_ret
 exact ⟨rfl, Hp3.out⟩
set_option maxHeartbeats 4000000 in
set_option maxRecDepth 100000 in
theorem atom_chr (h : Pos s B g w t) (h0 : 0 ≤ nx t) (h1 : badB (nx t) = false) (h2 : nx t ≠ 46 ∧ nx t ≠ 94 ∧ nx t ≠ 36 ∧ nx t ≠ 40 ∧ nx t ≠ 91 ∧ nx t ≠ 92) : Calls Tryz.prog 113 #[.pointer (some ⟨g, 0, none⟩)] w fun e w' => NoP (.chr (nx t)) s B g w (t.drop (nl t)) e w' := by
 obtain ⟨kk, hkk, c1, -⟩ := row_back h
 have Hn := Lib.hid (qnext h h0)
 have hb := nx_le t
 unfold badB rptB at h1
 simp only [Bool.or_eq_false_iff, decide_eq_false_iff_not] at h1
 generalize hc : nx t = c at *
 have n46 : (c == 46) = false := by simp only [beq_eq_false_iff_ne]; omega
 have n94 : (c == 94) = false := by simp only [beq_eq_false_iff_ne]; omega
 have n36 : (c == 36) = false := by simp only [beq_eq_false_iff_ne]; omega
 have n40 : (c == 40) = false := by simp only [beq_eq_false_iff_ne]; omega
 have n91 : (c == 91) = false := by simp only [beq_eq_false_iff_ne]; omega
 have n92 : (c == 92) = false := by simp only [beq_eq_false_iff_ne]; omega
 have n42 : (c == 42) = false := by simp only [beq_eq_false_iff_ne]; omega
 have n43 : (c == 43) = false := by simp only [beq_eq_false_iff_ne]; omega
 have n63 : (c == 63) = false := by simp only [beq_eq_false_iff_ne]; omega
 have n123 : (c == 123) = false := by simp only [beq_eq_false_iff_ne]; omega
 have n125 : (c == 125) = false := by simp only [beq_eq_false_iff_ne]; omega
 have n93 : (c == 93) = false := by simp only [beq_eq_false_iff_ne]; omega
 have n41 : (c == 41) = false := by simp only [beq_eq_false_iff_ne]; omega
 have n124 : (c == 124) = false := by simp only [beq_eq_false_iff_ne]; omega
 clear h h1 h2 hc
 go_enter Tryz.func113, Tryz.ntmps113
 go_wp2_with fail
 (with_reducible refine Hn.out.mono ?_)
 rintro e w1 ⟨rfl, hp1⟩
 have Hp1 := Lib.hid hp1
 clear hp1 c1
 go_wp2_with fail
 go_ret
 exact ⟨rfl, Hp1.out⟩
theorem patom_any {r : Rx} (k : Atom t r ys) (h : Pos s B g w t) (ha : AltOk s B t.length) : Calls Tryz.prog 113 #[.pointer (some ⟨g, 0, none⟩)] w fun e w' => NoP r s B g w ys e w' := by
 have hl := h.len
 cases k with
 | any => exact atom_any1 h
 | beg => exact atom_beg1 h
 | fin => exact atom_fin1 h
 | group h0 k => exact atom_group h h0 k ha
 | group2 k => exact atom_group2 h k (fun g w t ys l hlt => ha g w t ys l (by simp only [List.length_cons] at hlt ⊢; omega))
 | cls h0 k hs => exact atom_cls (but := false) h (fun w1 h1 => qisn h1 (by have := k.nx; omega) h0) (by simp only [List.length_cons] at hl; omega) k (hs.wk (fun c _ => by unfold butP; simp))
 | classN k hs => exact atom_cls (but := true) h (fun w1 h1 => qis h1 (by decide) (by decide)) (by simp only [List.length_cons] at hl; omega) k (hs.wk (fun c _ => by unfold butP; simp))
 | escS k hs => exact atom_escS h k hs
 | escC k => exact atom_escC h k
 | chr h0 h1 h2 => exact atom_chr h h0 h1 h2
end
end Go.Proofs.YthhnmpkgleelfaaGreatDoor
