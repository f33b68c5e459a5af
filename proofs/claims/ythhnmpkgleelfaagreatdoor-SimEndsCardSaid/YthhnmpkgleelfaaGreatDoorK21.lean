import Derived.Test.YthhnmpkgleelfaaGreatDoorK20
set_option linter.unusedVariables false
set_option linter.unusedSimpArgs false
namespace Go.Proofs.YthhnmpkgleelfaaGreatDoor
open Go.RowKit
theorem Rd.own {xs : List UInt8} {rb k n base : Nat} {w w' : World} {c : Int} {e : TypeId} {v : Value} {us : List Value} (h : Rd xs rb w k c) (ho : w.ownsRow base e 1 v n us) (he : e ≠ 98) (hn : n = 0 → v.ownBlock = none) (hu : ∀ u ∈ us, ∀ x, u ≠ .int .u8 x) (hg : w.grownBy w' v.ownBlock) : Rd xs rb w' k c := by
 obtain ⟨pb, cap, b3, b4, b5, b6, b7, h1, h2, h3, h4⟩ := h
 have hrb : v.ownBlock ≠ some rb := by
  intro e1
  obtain ⟨_, cur, h5⟩ := ownsRow_block ho e1
  rw [h5] at h4
  injection h4 with h4
  injection h4 with _ h4 _
  exact he h4
 refine ⟨pb, cap, b3, b4, b5, b6, b7, h1, h2, ?_, (hg.block rb (lt_of_heap h4) (fun e1 => hrb e1.symm)).trans h4⟩
 by_cases hx : xs = []
 ·subst hx
  obtain ⟨hm, A, c, e1, hc, _⟩ := h3
  exact ⟨hm, A, c, e1, hc, fun h0 => absurd h0 (by simp)⟩
 ·refine h3.grown hg (fun e1 => ?_)
  have hlx : 0 < xs.length := List.length_pos_iff.2 hx
  obtain ⟨_, A, c, e2, _, hcell⟩ := h3
  obtain ⟨b, o, e3, hcl⟩ := hcell hlx
  have e4 := (Value.slice.inj e2).1.trans e3
  injection e4 with e4
  injection e4 with e5 e6
  subst e5 e6
  have hc0 := hcl 0 hlx
  rcases Nat.eq_zero_or_pos n with h0 | h0
  ·rw [hn h0] at e1; cases e1
  ·obtain ⟨A', cap', e7, _, _, hA⟩ := ownsRow_slice ho
   obtain ⟨g, e8⟩ := hA h0
   subst e8
   subst e7
   obtain rfl : g = pb := by
    have : (Value.slice (some ⟨g, 0, none⟩) n cap').ownBlock = some g := rfl
    rw [this] at e1
    exact Option.some.inj e1
   have h9 := ownsRow_cell ho rfl 0 (by omega)
   rw [Nat.add_zero] at hc0
   rw [hc0] at h9
   exact hu _ (List.mem_of_getElem? h9.symm) _ rfl
theorem Fr.own {rb n base k : Nat} {w w1 w2 : World} {e : TypeId} {v : Value} {us : List Value} (h : Fr rb w w1) (ho : w1.ownsRow base e k v n us) (hb : w.heap.size ≤ base) (hg : w1.grownBy w2 v.ownBlock) : Fr rb w w2 :=
 ⟨hg.os.trans h.os, hg.tape.trans h.tape, hg.output.trans h.output, Nat.le_trans h.size hg.size, fun i hi hr => (hg.block i (Nat.lt_of_lt_of_le hi h.size) (fun e1 => by have := (ownsRow_block ho e1.symm).1; omega)).trans (h.block i hi hr)⟩
def rdMu (len rb : Nat) (w : World) : Nat := match w.cell? ⟨rb, 2, none⟩ with | some (.int _ n) => if n = 0 then len + 2 - rdAt rb w else 0 | _ => 0
theorem Rd.mu {xs : List UInt8} {rb k : Nat} {w : World} {c : Int} (h : Rd xs rb w k c) : rdMu xs.length rb w = if c = 0 then xs.length + 2 - k else 0 := by
 have h1 := rdAt_of h
 obtain ⟨_, _, _, _, _, h2, _⟩ := h.cells
 unfold rdMu
 rw [h1, h2]
theorem Item.ne {f : Bool} {xs ys : List UInt8} {l : Spans} (h : Item f xs l ys) : 0 < l.length := by
 cases h with
 | cls h => cases h <;> decide
 | one => simp
 | two => simp
theorem OkSp.append {l m : Spans} (h : OkSp l) (k : OkSp m) : OkSp (l ++ m) := fun p hp => by
 rcases List.mem_append.1 hp with hp | hp
 ·exact h p hp
 ·exact k p hp
def setX (cs : List Int) : List Ex := [⟨4, 0, rngB cs, 0, 0, 0, 0⟩]
def ClG (xs : List UInt8) (k k' : Nat) (cs : List Int) : Prop := ∃ L : Spans, (nx (xs.drop k) ≠ 94 ∧ Items true (xs.drop k) L (xs.drop k') ∧ SetOf (inSp L) cs) ∨ (xs.drop k = 94 :: xs.drop (k + 1) ∧ Items true (xs.drop (k + 1)) L (xs.drop k') ∧ SetOf (fun c => ¬ inSp L c) cs)
def ClP (xs : List UInt8) (rb k : Nat) (w : World) (e : Ending) (w' : World) : Prop := ∃ (A : Option Addr) (q : Nat) (ys : List Ex) (k' : Nat) (c : Int), e = .returned (.slice A ys.length q) ∧ Rd xs rb w' k' c ∧ Fr rb w w' ∧ XRow w' 0 (.slice A ys.length q) ys ∧ (c ≠ 0 → ys = []) ∧ (c = 0 → ∃ cs, ys = setX cs ∧ ClG xs k k' cs) ∧ (c ≠ 0 → NoAtom (91 :: xs.drop k))
def ClRel (xs : List UInt8) (rb m : Nat) (w : World) (s6 s7 : Value) (wr : World) : Prop := ∃ (A : Option Addr) (q : Nat) (l : List Int) (k2 : Nat) (c : Int) (first : Bool), s6 = .slice A l.length q ∧ s7 = .bool first ∧ Rd xs rb wr k2 c ∧ Fr rb w wr ∧ Rns wr w.heap.size (.slice A l.length q) l ∧ (c = 0 → l.length = 0 → A = none) ∧
 (c = 0 → ∃ L : Spans, l = flatS L ∧ OkSp L ∧ L.length + 20 * m ≤ 20 * k2 ∧ ∀ L' zs, Items first (xs.drop k2) L' zs → Items true (xs.drop m) (L ++ L') zs) ∧ (c ≠ 0 → NoItems true (xs.drop m)) ∧ (c = 0 → NoItems first (xs.drop k2) → NoItems true (xs.drop m))
theorem rne_u8 (l : List Int) : ∀ u ∈ l.map runeV, ∀ x, u ≠ .int .u8 x := by
 intro u hu x e
 obtain ⟨c, _, rfl⟩ := List.mem_map.1 hu
 unfold runeV at e
 injection e with e _
 cases e
theorem exC_row {w : World} {g : Nat} {cs : List Int} : XRow (w.alloc (.cells #[.int .i64 4, .int .i32 0, .string (rngB cs), .int .i64 0, .int .i64 0, .int .i64 0, .int .i64 0] 60)) 0 (.slice (some ⟨w.heap.size, 0, none⟩) 1 1) (setX cs) := row_lit (x := ⟨4, 0, rngB cs, 0, 0, 0, 0⟩) (heap_alloc_new w _) (Nat.zero_le _)
set_option maxHeartbeats 16000000 in
set_option maxRecDepth 100000 in
theorem rclass_any {xs : List UInt8} {rb k : Nat} {w : World} (h : Rd xs rb w k 0) (hk : k ≤ xs.length + 1) (hl : xs.length ≤ 400) : Calls Tryz.prog 119 #[.pointer (some ⟨rb, 0, none⟩)] w fun e w' => ClP xs rb k w e w' := by
 have H := Lib.hid h
 have F0 := Lib.hid (Fr.refl rb w)
 obtain ⟨pb, cap, -, c0, c1, c2, f1⟩ := h.cells
 clear h
 go_enter Tryz.func119, Tryz.ntmps119
 go_wp2_with fail
 (with_reducible refine (lookz_any H.out _ (k) (by omega) (by omega)).mono ?_)
 rintro e w1 ⟨rfl, hb⟩
 have F1 := Lib.hid (F0.out.then (Fr.of_below hb))
 have h1 := H.out.below hb
 clear hb c0 c1 c2 f1
 obtain ⟨pb1, cap1, -, c01, c11, c21, f11⟩ := h1.cells
 have H1 := Lib.hid h1
 obtain ⟨cc, hcc⟩ : ∃ c, nx (xs.drop (k)) = c := ⟨_, rfl⟩
 rw [hcc]
 have hbcc := nx_le (xs.drop (k))
 rw [hcc] at hbcc
 obtain ⟨hbcc1, hbcc2⟩ := hbcc
 obtain ⟨ncc, hncc⟩ : ∃ n : Int, ((nl (xs.drop (k)) : Nat) : Int) = n := ⟨_, rfl⟩
 rw [hncc]
 have Hcc := Lib.hid hcc
 have Hncc := Lib.hid hncc
 clear h1 hcc hncc
 by_cases e94 : cc = 94
 case neg =>
  have n94 : (cc == 94) = false := by simpa using e94
  have Hn94 := Lib.hid e94
  clear e94
  go_wp2_with fail
  go_loopw [6, 7, 3] (fun s6 s7 _ wr => ClRel xs rb (k) w s6 s7 wr) (fun _ _ _ wr => rdMu xs.length rb wr)
  case atStart => exact ⟨none, 0, [], k, 0, true, rfl, rfl, H1.out, F1.out, Rns.nil _ _, fun _ _ => rfl, fun _ => ⟨[], rfl, by simp [OkSp], by simp, fun L' zs h => h⟩, fun e => absurd rfl e, fun _ h => h⟩
  case round =>
   obtain ⟨A, q, l, k2, c9, first, rfl, rfl, hr, hf, ho, hA, hok, hno, hnx⟩ := hrel
   have Hr := Lib.hid hr
   have Hf := Lib.hid hf
   have Ho := Lib.hid ho
   have HA := Lib.hid hA
   have Hok := Lib.hid hok
   have Hno := Lib.hid hno
   have Hnx := Lib.hid hnx
   have hk2 := hr.le
   obtain ⟨pbr, capr, -, c0r, c1r, c2r, f1r⟩ := hr.cells
   clear hr hf ho hA hok hno hnx
   go_wp2_with fail
   (with_reducible refine (good_any Hr.out).mono ?_)
   rintro e w' ⟨rfl, rfl⟩
   by_cases hq : c9 = 0
   case neg =>
    have hq' : decide (c9 = 0) = false := by simpa using hq
    have Hq := Lib.hid hq
    clear hq
    go_wp2_with fail
    go_ret
    exact ⟨none, 0, [], k2, c9, rfl, Hr.out, Hf.out, XRow.nil _ _, fun _ => rfl, fun e => absurd e Hq.out, fun _ => noatom_cls1 (by rw [Hcc.out]; exact Hn94.out) (Hno.out Hq.out)⟩
   subst hq
   have Hnxx := Lib.hid (Hnx.out rfl)
   clear Hno Hnx
   obtain ⟨L, rfl, hsp, hLl, hit⟩ := Hok.out rfl
   have Hsp := Lib.hid hsp
   have Hit := Lib.hid hit
   clear hsp hit Hok
   go_wp2_with fail
   (with_reducible refine (lookz_any Hr.out _ (k2) (by omega) (by omega)).mono ?_)
   rintro e w2 ⟨rfl, hb⟩
   have hb2 := hb
   have F2 := Lib.hid (Hf.out.then (Fr.of_below hb))
   have h2 := Hr.out.below hb
   clear hb c0r c1r c2r f1r
   obtain ⟨pb2, cap2, -, c02, c12, c22, f12⟩ := h2.cells
   have H2 := Lib.hid h2
   obtain ⟨c, hc⟩ : ∃ c, nx (xs.drop (k2)) = c := ⟨_, rfl⟩
   rw [hc]
   have hbc := nx_le (xs.drop (k2))
   rw [hc] at hbc
   obtain ⟨hbc1, hbc2⟩ := hbc
   obtain ⟨nc, hnc⟩ : ∃ n : Int, ((nl (xs.drop (k2)) : Nat) : Int) = n := ⟨_, rfl⟩
   rw [hnc]
   have Hc := Lib.hid hc
   have Hnc := Lib.hid hnc
   clear h2 hc hnc
   by_cases e93 : c = 93
   ·skip
    subst e93
    have hd := nx_drop Hc.out (by omega) (by omega)
    have Hd := Lib.hid hd.2.2
    have hk3 : k2 + 1 ≤ xs.length := by have := hd.1; omega
    clear hd
    obtain ⟨wz, hwz⟩ : ∃ wz, w2.setCell ⟨rb, 1, none⟩ (.int .i64 ((k2 : Int) + 1)) = wz := ⟨_, rfl⟩
    have hz := H2.out.setz (z := (k2 : Int) + 1) (m := k2 + 1) (by omega) (by omega)
    have fz2 := Fr.set rb 1 w2 (.int .i64 ((k2 : Int) + 1))
    rw [hwz] at hz fz2
    have fz := F2.out.then fz2
    have Hz := Lib.hid hz
    have Fz := Lib.hid fz
    have Hwz := Lib.hid hwz
    have hb9 : Rns wz w.heap.size (.slice A (flatS L).length q) (flatS L) := (Ho.out.rd (Fr.of_below hb2) Hr.out.typed).rd fz2 H2.out.typed
    have Ho9 := Lib.hid (hb9.low (Nat.zero_le _))
    have Hdone := Lib.hid (Hit.out [] (xs.drop (k2 + 1)) (by rw [Hd.out]; exact Items.done))
    clear hz fz hwz fz2 hb9 hb2
    go_wp2_with fail
    rw [Hwz.out]
    (with_reducible refine (rranges_any Ho9.out (by omega) Hsp.out false).mono ?_)
    rintro e w5 ⟨cs, rfl, hset, hb5⟩
    have Hset := Lib.hid hset
    have Hb5 := Lib.hid hb5
    clear hset hb5
    go_wp2_with fail
    go_ret
    refine ⟨some ⟨w5.heap.size, 0, none⟩, 1, setX cs, k2 + 1, 0, rfl, (Hz.out.below Hb5.out).below (alloc_below _ _), (Fz.out.then (Fr.of_below Hb5.out)).then (Fr.of_below (alloc_below _ _)), exC_row (g := 0), fun e => absurd rfl e, fun _ => ⟨cs, rfl, L, ?_⟩, fun e => absurd rfl e⟩
    have hdn := Hdone.out
    rw [List.append_nil] at hdn
    exact .inl ⟨by rw [Hcc.out]; exact Hn94.out, hdn, Hset.out.wk (fun c _ => by unfold butP; simp)⟩
   have n93 : (c == 93) = false := by simpa using e93
   have Hn93 := Lib.hid e93
   clear e93
   have Ho2 := Lib.hid (Ho.out.rd (Fr.of_below hb2) Hr.out.typed)
   clear hb2
   go_wp2_with fail
   (with_reducible refine (ritem_any first H2.out hk2 (by omega) (by rw [Hc.out]; exact Hn93.out)).mono ?_)
   rintro e w3 ⟨A3, q3, l3, k3, c3, rfl, h3, hf3, hl3, ho3, hok3⟩
   have H3 := Lib.hid h3
   have F3 := Lib.hid (F2.out.then hf3)
   have Ho3 := Lib.hid (Ho2.out.rd hf3 H2.out.typed)
   have Hn3 := Lib.hid ho3.slk
   have Hok3 := Lib.hid hok3
   have hmx : (flatS L).length ≤ maxLen := by obtain ⟨_, _, _, _, h, _⟩ := ownsRow_slice Ho.out; exact h
   have hfl : (flatS L).length ≤ 17000 := by rw [flatS_len]; omega
   have hs3 : w.heap.size ≤ w3.heap.size := F3.out.size
   clear h3 hf3 ho3 hok3 hmx c02 c12 c22 f12
   go_wp2_with (at_builtin; refine wpList_append_slo elRune rfl (.tmp 60) (.tmp 63) rfl w.heap.size (.slice A (flatS L).length q) (flatS L).length A3 q3 l3.length ((flatS L).map runeV) (l3.map runeV) (by simp [Act.eval]) Ho3.out (by simp [Act.eval]) Hn3.out (runeVs_one l3) (by unfold maxLen; omega) (by omega) hs3 ?_; intro v' w4 h1 h2 h3; have Hp := Lib.hid h1; have Hg := Lib.hid h2; have Hv := Lib.hid h3; clear h1 h2 h3)
   have hr4 := H3.out.own Ho3.out (by decide) (fun h0 => by rw [HA.out (by trivial) h0]; rfl) (rne_u8 _) Hg.out
   have hf4 := F3.out.own Ho3.out (Nat.le_refl _) Hg.out
   have hp := Hp.out
   rw [← List.map_append, ← List.length_append] at hp
   obtain ⟨A4, q4, rfl, -, -, hA4⟩ := ownsRow_slice hp
   refine ⟨⟨A4, q4, flatS L ++ l3, k3, c3, false, rfl, rfl, hr4, hf4, by unfold Rns; exact hp, ?_, ?_, fun h => Hnxx.out (noitems_of (by rw [Hc.out]; exact Hn93.out) (Hok3.out.2 h)), fun h0 hn => by obtain ⟨L3, _, hi⟩ := Hok3.out.1 h0; exact Hnxx.out (noitems_more (by rw [Hc.out]; exact Hn93.out) hi hn)⟩, ?_⟩
   ·intro h0 h1
    obtain ⟨L3, rfl, hi⟩ := Hok3.out.1 h0
    have h2 := hi.ne
    rw [List.length_append, flatS_len, flatS_len] at h1; omega
   ·intro h0
    obtain ⟨L3, rfl, hi⟩ := Hok3.out.1 h0
    refine ⟨L ++ L3, by rw [flatS_append], Hsp.out.append hi.ok.1, ?_, fun L' zs hz => ?_⟩
    ·have h1 := hi.ok.2
     have h2 := hi.suf.2
     rw [List.length_drop, List.length_drop] at h2
     rw [List.length_append]; omega
    ·rw [List.append_assoc]
     exact Hit.out _ _ (Items.more (by rw [Hc.out]; exact Hn93.out) hi hz)
   ·rw [hr4.mu, Hr.out.mu]
    have hk3l := hr4.le
    by_cases h0 : c3 = 0
    ·obtain ⟨L3, _, hi⟩ := Hok3.out.1 h0
     have h2 := hi.suf.2
     rw [List.length_drop, List.length_drop] at h2
     rw [if_pos h0, if_pos rfl]; omega
    ·rw [if_neg h0, if_pos rfl]; omega
 subst e94
 have hd0 := nx_drop Hcc.out (by omega) (by omega)
 have Hd0 := Lib.hid hd0.2.2
 have hk1 : k + 1 ≤ xs.length := by have := hd0.1; omega
 clear hd0
 have Ht := Lib.hid (H1.out.setz (z := (k : Int) + 1) (m := k + 1) (by omega) (by omega))
 have Ft := Lib.hid (F1.out.then (Fr.set rb 1 w1 (.int .i64 ((k : Int) + 1))))
 go_wp2_with fail
 go_loopw [6, 7, 3] (fun s6 s7 _ wr => ClRel xs rb (k + 1) w s6 s7 wr) (fun _ _ _ wr => rdMu xs.length rb wr)
 case atStart => exact ⟨none, 0, [], k + 1, 0, true, rfl, rfl, Ht.out, Ft.out, Rns.nil _ _, fun _ _ => rfl, fun _ => ⟨[], rfl, by simp [OkSp], by simp, fun L' zs h => h⟩, fun e => absurd rfl e, fun _ h => h⟩
 case round =>
  obtain ⟨A, q, l, k2, c9, first, rfl, rfl, hr, hf, ho, hA, hok, hno, hnx⟩ := hrel
  have Hr := Lib.hid hr
  have Hf := Lib.hid hf
  have Ho := Lib.hid ho
  have HA := Lib.hid hA
  have Hok := Lib.hid hok
  have Hno := Lib.hid hno
  have Hnx := Lib.hid hnx
  have hk2 := hr.le
  obtain ⟨pbr, capr, -, c0r, c1r, c2r, f1r⟩ := hr.cells
  clear hr hf ho hA hok hno hnx
  go_wp2_with fail
  (with_reducible refine (good_any Hr.out).mono ?_)
  rintro e w' ⟨rfl, rfl⟩
  by_cases hq : c9 = 0
  case neg =>
   have hq' : decide (c9 = 0) = false := by simpa using hq
   have Hq := Lib.hid hq
   clear hq
   go_wp2_with fail
   go_ret
   exact ⟨none, 0, [], k2, c9, rfl, Hr.out, Hf.out, XRow.nil _ _, fun _ => rfl, fun e => absurd e Hq.out, fun _ => by rw [Hd0.out]; exact noatom_cls2 (Hno.out Hq.out)⟩
  subst hq
  have Hnxx := Lib.hid (Hnx.out rfl)
  clear Hno Hnx
  obtain ⟨L, rfl, hsp, hLl, hit⟩ := Hok.out rfl
  have Hsp := Lib.hid hsp
  have Hit := Lib.hid hit
  clear hsp hit Hok
  go_wp2_with fail
  (with_reducible refine (lookz_any Hr.out _ (k2) (by omega) (by omega)).mono ?_)
  rintro e w2 ⟨rfl, hb⟩
  have hb2 := hb
  have F2 := Lib.hid (Hf.out.then (Fr.of_below hb))
  have h2 := Hr.out.below hb
  clear hb c0r c1r c2r f1r
  obtain ⟨pb2, cap2, -, c02, c12, c22, f12⟩ := h2.cells
  have H2 := Lib.hid h2
  obtain ⟨c, hc⟩ : ∃ c, nx (xs.drop (k2)) = c := ⟨_, rfl⟩
  rw [hc]
  have hbc := nx_le (xs.drop (k2))
  rw [hc] at hbc
  obtain ⟨hbc1, hbc2⟩ := hbc
  obtain ⟨nc, hnc⟩ : ∃ n : Int, ((nl (xs.drop (k2)) : Nat) : Int) = n := ⟨_, rfl⟩
  rw [hnc]
  have Hc := Lib.hid hc
  have Hnc := Lib.hid hnc
  clear h2 hc hnc
  by_cases e93 : c = 93
  ·skip
   subst e93
   have hd := nx_drop Hc.out (by omega) (by omega)
   have Hd := Lib.hid hd.2.2
   have hk3 : k2 + 1 ≤ xs.length := by have := hd.1; omega
   clear hd
   obtain ⟨wz, hwz⟩ : ∃ wz, w2.setCell ⟨rb, 1, none⟩ (.int .i64 ((k2 : Int) + 1)) = wz := ⟨_, rfl⟩
   have hz := H2.out.setz (z := (k2 : Int) + 1) (m := k2 + 1) (by omega) (by omega)
   have fz2 := Fr.set rb 1 w2 (.int .i64 ((k2 : Int) + 1))
   rw [hwz] at hz fz2
   have fz := F2.out.then fz2
   have Hz := Lib.hid hz
   have Fz := Lib.hid fz
   have Hwz := Lib.hid hwz
   have hb9 : Rns wz w.heap.size (.slice A (flatS L).length q) (flatS L) := (Ho.out.rd (Fr.of_below hb2) Hr.out.typed).rd fz2 H2.out.typed
   have Ho9 := Lib.hid (hb9.low (Nat.zero_le _))
   have Hdone := Lib.hid (Hit.out [] (xs.drop (k2 + 1)) (by rw [Hd.out]; exact Items.done))
   clear hz fz hwz fz2 hb9 hb2
   go_wp2_with fail
   rw [Hwz.out]
   (with_reducible refine (rranges_any Ho9.out (by omega) Hsp.out true).mono ?_)
   rintro e w5 ⟨cs, rfl, hset, hb5⟩
   have Hset := Lib.hid hset
   have Hb5 := Lib.hid hb5
   clear hset hb5
   go_wp2_with fail
   go_ret
   refine ⟨some ⟨w5.heap.size, 0, none⟩, 1, setX cs, k2 + 1, 0, rfl, (Hz.out.below Hb5.out).below (alloc_below _ _), (Fz.out.then (Fr.of_below Hb5.out)).then (Fr.of_below (alloc_below _ _)), exC_row (g := 0), fun e => absurd rfl e, fun _ => ⟨cs, rfl, L, ?_⟩, fun e => absurd rfl e⟩
   have hdn := Hdone.out
   rw [List.append_nil] at hdn
   exact .inr ⟨Hd0.out, hdn, Hset.out.wk (fun c _ => by unfold butP; simp)⟩
  have n93 : (c == 93) = false := by simpa using e93
  have Hn93 := Lib.hid e93
  clear e93
  have Ho2 := Lib.hid (Ho.out.rd (Fr.of_below hb2) Hr.out.typed)
  clear hb2
  go_wp2_with fail
  (with_reducible refine (ritem_any first H2.out hk2 (by omega) (by rw [Hc.out]; exact Hn93.out)).mono ?_)
  rintro e w3 ⟨A3, q3, l3, k3, c3, rfl, h3, hf3, hl3, ho3, hok3⟩
  have H3 := Lib.hid h3
  have F3 := Lib.hid (F2.out.then hf3)
  have Ho3 := Lib.hid (Ho2.out.rd hf3 H2.out.typed)
  have Hn3 := Lib.hid ho3.slk
  have Hok3 := Lib.hid hok3
  have hmx : (flatS L).length ≤ maxLen := by obtain ⟨_, _, _, _, h, _⟩ := ownsRow_slice Ho.out; exact h
  have hfl : (flatS L).length ≤ 17000 := by rw [flatS_len]; omega
  have hs3 : w.heap.size ≤ w3.heap.size := F3.out.size
  clear h3 hf3 ho3 hok3 hmx c02 c12 c22 f12
  go_wp2_with (at_builtin; refine wpList_append_slo elRune rfl (.tmp 60) (.tmp 63) rfl w.heap.size (.slice A (flatS L).length q) (flatS L).length A3 q3 l3.length ((flatS L).map runeV) (l3.map runeV) (by simp [Act.eval]) Ho3.out (by simp [Act.eval]) Hn3.out (runeVs_one l3) (by unfold maxLen; omega) (by omega) hs3 ?_; intro v' w4 h1 h2 h3; have Hp := Lib.hid h1; have Hg := Lib.hid h2; have Hv := Lib.hid h3; clear h1 h2 h3)
  have hr4 := H3.out.own Ho3.out (by decide) (fun h0 => by rw [HA.out (by trivial) h0]; rfl) (rne_u8 _) Hg.out
  have hf4 := F3.out.own Ho3.out (Nat.le_refl _) Hg.out
  have hp := Hp.out
  rw [← List.map_append, ← List.length_append] at hp
  obtain ⟨A4, q4, rfl, -, -, hA4⟩ := ownsRow_slice hp
  refine ⟨⟨A4, q4, flatS L ++ l3, k3, c3, false, rfl, rfl, hr4, hf4, by unfold Rns; exact hp, ?_, ?_, fun h => Hnxx.out (noitems_of (by rw [Hc.out]; exact Hn93.out) (Hok3.out.2 h)), fun h0 hn => by obtain ⟨L3, _, hi⟩ := Hok3.out.1 h0; exact Hnxx.out (noitems_more (by rw [Hc.out]; exact Hn93.out) hi hn)⟩, ?_⟩
  ·intro h0 h1
   obtain ⟨L3, rfl, hi⟩ := Hok3.out.1 h0
   have h2 := hi.ne
   rw [List.length_append, flatS_len, flatS_len] at h1; omega
  ·intro h0
   obtain ⟨L3, rfl, hi⟩ := Hok3.out.1 h0
   refine ⟨L ++ L3, by rw [flatS_append], Hsp.out.append hi.ok.1, ?_, fun L' zs hz => ?_⟩
   ·have h1 := hi.ok.2
    have h2 := hi.suf.2
    rw [List.length_drop, List.length_drop] at h2
    rw [List.length_append]; omega
   ·rw [List.append_assoc]
    exact Hit.out _ _ (Items.more (by rw [Hc.out]; exact Hn93.out) hi hz)
  ·rw [hr4.mu, Hr.out.mu]
   have hk3l := hr4.le
   by_cases h0 : c3 = 0
   ·obtain ⟨L3, _, hi⟩ := Hok3.out.1 h0
    have h2 := hi.suf.2
    rw [List.length_drop, List.length_drop] at h2
    rw [if_pos h0, if_pos rfl]; omega
   ·rw [if_neg h0, if_pos rfl]; omega
def AltP (xs : List UInt8) (rb k : Nat) (w : World) (e : Ending) (w' : World) : Prop := ∃ (A : Option Addr) (q : Nat) (ys : List Ex) (k' : Nat) (c : Int), e = .returned (.slice A ys.length q) ∧ Rd xs rb w' k' c ∧ Fr rb w w' ∧ XRow w' 0 (.slice A ys.length q) ys ∧ OkX ys ∧ (c = 0 → ∃ l, AltL (xs.drop k) l (xs.drop k') ∧ ys = (joinR .alt l).flat 0) ∧ (c ≠ 0 → NoAlt (xs.drop k))
def AltAt (xs : List UInt8) (K : Nat) : Prop := ∀ (rb k : Nat) (w : World), K ≤ k → Rd xs rb w k 0 → Calls Tryz.prog 59 #[.pointer (some ⟨rb, 0, none⟩)] w fun e w' => AltP xs rb k w e w'
theorem AltAt.go {xs : List UInt8} {K : Nat} (h : AltAt xs K) {rb : Nat} {w : World} (k : Nat) (hk : K ≤ k) (hr : Rd xs rb w k 0) : Calls Tryz.prog 59 #[.pointer (some ⟨rb, 0, none⟩)] w fun e w' => AltP xs rb k w e w' := h rb k w hk hr
def GrpG (xs : List UInt8) (k k' : Nat) (ys : List Ex) : Prop := ∃ l, ((nx (xs.drop k) ≠ 63 ∧ AltL (xs.drop k) l (41 :: xs.drop k')) ∨ (xs.drop k = 63 :: 58 :: xs.drop (k + 2) ∧ AltL (xs.drop (k + 2)) l (41 :: xs.drop k'))) ∧ ys = (joinR .alt l).flat 0
def GrpP (xs : List UInt8) (rb k : Nat) (w : World) (e : Ending) (w' : World) : Prop := ∃ (A : Option Addr) (q : Nat) (ys : List Ex) (k' : Nat) (c : Int), e = .returned (.slice A ys.length q) ∧ Rd xs rb w' k' c ∧ Fr rb w w' ∧ XRow w' 0 (.slice A ys.length q) ys ∧ OkX ys ∧ (c ≠ 0 → ys = []) ∧ (c = 0 → GrpG xs k k' ys) ∧ (c ≠ 0 → NoAtom (40 :: xs.drop k))
def AtomP (xs : List UInt8) (rb k : Nat) (w : World) (e : Ending) (w' : World) : Prop := ∃ (A : Option Addr) (q : Nat) (ys : List Ex) (k' : Nat) (c : Int), e = .returned (.slice A ys.length q) ∧ Rd xs rb w' k' c ∧ Fr rb w w' ∧ XRow w' 0 (.slice A ys.length q) ys ∧ OkX ys ∧ (c ≠ 0 → ys.length ≤ 1) ∧ (c = 0 → ∃ r, Atom (xs.drop k) r (xs.drop k') ∧ ys = r.flat 0) ∧ (c ≠ 0 → NoAtom (xs.drop k))
set_option maxHeartbeats 16000000 in
set_option maxRecDepth 100000 in
theorem rgroup_any {xs : List UInt8} {rb k : Nat} {w : World} (h : Rd xs rb w k 0) (hk : k ≤ xs.length + 1) (hl : xs.length ≤ 1000) (ha : AltAt xs k) : Calls Tryz.prog 118 #[.pointer (some ⟨rb, 0, none⟩)] w fun e w' => GrpP xs rb k w e w' := by
 have H := Lib.hid h
 have Ha := Lib.hid ha
 have F0 := Lib.hid (Fr.refl rb w)
 obtain ⟨pb, cap, -, c0, c1, c2, f1⟩ := h.cells
 clear h ha
 go_enter Tryz.func118, Tryz.ntmps118
 go_wp2_with fail
 (with_reducible refine (lookz_any H.out _ (k) (by omega) (by omega)).mono ?_)
 rintro e w1 ⟨rfl, hb⟩
 have F1 := Lib.hid (F0.out.then (Fr.of_below hb))
 have h1 := H.out.below hb
 clear hb c0 c1 c2 f1
 obtain ⟨pb1, cap1, -, c01, c11, c21, f11⟩ := h1.cells
 have H1 := Lib.hid h1
 obtain ⟨c, hc⟩ : ∃ c, nx (xs.drop (k)) = c := ⟨_, rfl⟩
 rw [hc]
 have hbc := nx_le (xs.drop (k))
 rw [hc] at hbc
 obtain ⟨hbc1, hbc2⟩ := hbc
 obtain ⟨nc, hnc⟩ : ∃ n : Int, ((nl (xs.drop (k)) : Nat) : Int) = n := ⟨_, rfl⟩
 rw [hnc]
 have Hc := Lib.hid hc
 have Hnc := Lib.hid hnc
 clear h1 hc hnc
 by_cases e63 : c = 63
 case neg =>
  have n63 : (c == 63) = false := by simpa using e63
  have Hn63 := Lib.hid e63
  clear e63
  go_wp2_with fail
  (with_reducible refine (Ha.out.go (k) (by omega) (H1.out)).mono ?_)
  rintro e w3 ⟨A, q, ys, k3, c3, rfl, h3, hf3, hx3, hok3, hd3⟩
  have H3 := Lib.hid h3
  have F3 := Lib.hid ((F1.out).then hf3)
  have Hx3 := Lib.hid hx3
  have Hok3 := Lib.hid hok3
  have Hd3 := Lib.hid hd3
  have hk3 := h3.le
  obtain ⟨pb3, cap3, -, c03, c13, c23, f13⟩ := h3.cells
  clear h3 hf3 hx3 hok3 hd3
  go_wp2_with fail
  (with_reducible refine (good_any H3.out).mono ?_)
  rintro e w' ⟨rfl, rfl⟩
  by_cases hq : c3 = 0
  case neg =>
   have hq' : decide (c3 = 0) = false := by simpa using hq
   have Hq := Lib.hid hq
   clear hq
   go_wp2_with fail
   go_ret
   exact ⟨none, 0, [], k3, c3, rfl, H3.out, F3.out, XRow.nil _ _, OkX.nil, fun _ => rfl, fun e => absurd e Hq.out, fun _ => noatom_grp1 (by rw [Hc.out]; exact Hn63.out) (nogrp_of (Hd3.out.2 Hq.out))⟩
  subst hq
  obtain ⟨l, hal, hys⟩ := Hd3.out.1 rfl
  have Hal := Lib.hid hal
  have Hys := Lib.hid hys
  clear hal hys Hd3
  go_wp2_with fail
  (with_reducible refine (lookz_any H3.out _ (k3) (by omega) (by omega)).mono ?_)
  rintro e w4 ⟨rfl, hb⟩
  have Hx4 := Lib.hid (Hx3.out.below hb)
  have F4 := Lib.hid (F3.out.then (Fr.of_below hb))
  have h4 := H3.out.below hb
  clear hb c03 c13 c23 f13
  obtain ⟨pb4, cap4, -, c04, c14, c24, f14⟩ := h4.cells
  have H4 := Lib.hid h4
  obtain ⟨d, hd⟩ : ∃ c, nx (xs.drop (k3)) = c := ⟨_, rfl⟩
  rw [hd]
  have hbd := nx_le (xs.drop (k3))
  rw [hd] at hbd
  obtain ⟨hbd1, hbd2⟩ := hbd
  obtain ⟨nd, hnd⟩ : ∃ n : Int, ((nl (xs.drop (k3)) : Nat) : Int) = n := ⟨_, rfl⟩
  rw [hnd]
  have Hd := Lib.hid hd
  have Hnd := Lib.hid hnd
  clear h4 hd hnd
  by_cases e41 : d = 41
  case neg =>
   have n41 : (d != 41) = true := by simpa using e41
   go_wp2_with fail
   (with_reducible refine (wrongz_any H4.out _ (k3) (by omega) (by omega)).mono ?_)
   rintro e wx ⟨rfl, qx, hq, hx, hf⟩
   have Hx := Lib.hid (And.intro hq (And.intro hx (F4.out.then hf)))
   clear hq hx hf c04 c14 c24 f14
   go_wp2_with fail
   go_ret
   exact ⟨none, 0, [], _, _, rfl, Hx.out.2.1, Hx.out.2.2, XRow.nil _ _, OkX.nil, fun _ => rfl, fun e => absurd e Hx.out.1, fun _ => noatom_grp1 (by rw [Hc.out]; exact Hn63.out) (nogrp_end Hal.out (by rw [Hd.out]; exact e41))⟩
  subst e41
  have hd := nx_drop Hd.out (by omega) (by omega)
  have hk4 : k3 + 1 ≤ xs.length := by have := hd.1; omega
  have hde := hd.2.2
  have hal := Hal.out
  have hys := Hys.out
  rw [hde] at hal
  have Hg := Lib.hid (show GrpG xs k (k3 + 1) ys from ⟨l, .inl ⟨by rw [Hc.out]; exact Hn63.out, hal⟩, hys⟩)
  have Hz := Lib.hid (H4.out.setz (z := (k3 : Int) + 1) (m := k3 + 1) (by omega) (by omega))
  have fz := Fr.set rb 1 w4 (.int .i64 ((k3 : Int) + 1))
  have Fz := Lib.hid (F4.out.then fz)
  have Hxz := Lib.hid (Hx4.out.rd fz H4.out.typed)
  clear hd hde hal hys fz
  go_wp2_with fail
  go_ret
  exact ⟨A, q, ys, k3 + 1, 0, rfl, Hz.out, Fz.out, Hxz.out, Hok3.out, fun e => absurd rfl e, fun _ => Hg.out, fun e => absurd rfl e⟩
 subst e63
 have hd0 := nx_drop Hc.out (by omega) (by omega)
 have Hd0 := Lib.hid hd0.2.2
 have hk1 : k + 1 ≤ xs.length := by have := hd0.1; omega
 clear hd0
 have Ht := Lib.hid (H1.out.setz (z := (k : Int) + 1) (m := k + 1) (by omega) (by omega))
 have Ft := Lib.hid (F1.out.then (Fr.set rb 1 w1 (.int .i64 ((k : Int) + 1))))
 go_wp2_with fail
 (with_reducible refine (lookz_any Ht.out _ (k + 1) (by omega) (by omega)).mono ?_)
 rintro e w2 ⟨rfl, hb⟩
 have F2 := Lib.hid (Ft.out.then (Fr.of_below hb))
 have h2 := Ht.out.below hb
 clear hb c01 c11 c21 f11
 obtain ⟨pb2, cap2, -, c02, c12, c22, f12⟩ := h2.cells
 have H2 := Lib.hid h2
 obtain ⟨c9, hc9⟩ : ∃ c, nx (xs.drop (k + 1)) = c := ⟨_, rfl⟩
 rw [hc9]
 have hbc9 := nx_le (xs.drop (k + 1))
 rw [hc9] at hbc9
 obtain ⟨hbc91, hbc92⟩ := hbc9
 obtain ⟨nc9, hnc9⟩ : ∃ n : Int, ((nl (xs.drop (k + 1)) : Nat) : Int) = n := ⟨_, rfl⟩
 rw [hnc9]
 have Hc9 := Lib.hid hc9
 have Hnc9 := Lib.hid hnc9
 clear h2 hc9 hnc9
 by_cases e58 : c9 = 58
 case neg =>
  have n58 : (c9 != 58) = true := by simpa using e58
  go_wp2_with fail
  (with_reducible refine (wrongz_any H2.out _ (k + 1) (by omega) (by omega)).mono ?_)
  rintro e wx ⟨rfl, qx, hq, hx, hf⟩
  have Hx := Lib.hid (And.intro hq (And.intro hx (F2.out.then hf)))
  clear hq hx hf c02 c12 c22 f12
  go_wp2_with fail
  go_ret
  exact ⟨none, 0, [], _, _, rfl, Hx.out.2.1, Hx.out.2.2, XRow.nil _ _, OkX.nil, fun _ => rfl, fun e => absurd e Hx.out.1, fun _ => by rw [Hd0.out]; exact noatom_grpq (by rw [Hc9.out]; exact e58)⟩
 subst e58
 have hd1 := nx_drop Hc9.out (by omega) (by omega)
 have Hd1 := Lib.hid hd1.2.2
 have hk2 : k + 1 + 1 ≤ xs.length := by have := hd1.1; omega
 clear hd1
 go_wp2_with fail
 (with_reducible refine (Ha.out.go (k + 1 + 1) (by omega) (H2.out.setz (by omega) (by omega))).mono ?_)
 rintro e w3 ⟨A, q, ys, k3, c3, rfl, h3, hf3, hx3, hok3, hd3⟩
 have H3 := Lib.hid h3
 have F3 := Lib.hid ((F2.out.then (Fr.set rb 1 w2 _)).then hf3)
 have Hx3 := Lib.hid hx3
 have Hok3 := Lib.hid hok3
 have Hd3 := Lib.hid hd3
 have hk3 := h3.le
 obtain ⟨pb3, cap3, -, c03, c13, c23, f13⟩ := h3.cells
 clear h3 hf3 hx3 hok3 hd3
 go_wp2_with fail
 (with_reducible refine (good_any H3.out).mono ?_)
 rintro e w' ⟨rfl, rfl⟩
 by_cases hq : c3 = 0
 case neg =>
  have hq' : decide (c3 = 0) = false := by simpa using hq
  have Hq := Lib.hid hq
  clear hq
  go_wp2_with fail
  go_ret
  exact ⟨none, 0, [], k3, c3, rfl, H3.out, F3.out, XRow.nil _ _, OkX.nil, fun _ => rfl, fun e => absurd e Hq.out, fun _ => by rw [Hd0.out, Hd1.out]; exact noatom_grp2 (nogrp_of (Hd3.out.2 Hq.out))⟩
 subst hq
 obtain ⟨l, hal, hys⟩ := Hd3.out.1 rfl
 have Hal := Lib.hid hal
 have Hys := Lib.hid hys
 clear hal hys Hd3
 go_wp2_with fail
 (with_reducible refine (lookz_any H3.out _ (k3) (by omega) (by omega)).mono ?_)
 rintro e w4 ⟨rfl, hb⟩
 have Hx4 := Lib.hid (Hx3.out.below hb)
 have F4 := Lib.hid (F3.out.then (Fr.of_below hb))
 have h4 := H3.out.below hb
 clear hb c03 c13 c23 f13
 obtain ⟨pb4, cap4, -, c04, c14, c24, f14⟩ := h4.cells
 have H4 := Lib.hid h4
 obtain ⟨d, hd⟩ : ∃ c, nx (xs.drop (k3)) = c := ⟨_, rfl⟩
 rw [hd]
 have hbd := nx_le (xs.drop (k3))
 rw [hd] at hbd
 obtain ⟨hbd1, hbd2⟩ := hbd
 obtain ⟨nd, hnd⟩ : ∃ n : Int, ((nl (xs.drop (k3)) : Nat) : Int) = n := ⟨_, rfl⟩
 rw [hnd]
 have Hd := Lib.hid hd
 have Hnd := Lib.hid hnd
 clear h4 hd hnd
 by_cases e41 : d = 41
 case neg =>
  have n41 : (d != 41) = true := by simpa using e41
  go_wp2_with fail
  (with_reducible refine (wrongz_any H4.out _ (k3) (by omega) (by omega)).mono ?_)
  rintro e wx ⟨rfl, qx, hq, hx, hf⟩
  have Hx := Lib.hid (And.intro hq (And.intro hx (F4.out.then hf)))
  clear hq hx hf c04 c14 c24 f14
  go_wp2_with fail
  go_ret
  exact ⟨none, 0, [], _, _, rfl, Hx.out.2.1, Hx.out.2.2, XRow.nil _ _, OkX.nil, fun _ => rfl, fun e => absurd e Hx.out.1, fun _ => by rw [Hd0.out, Hd1.out]; exact noatom_grp2 (nogrp_end Hal.out (by rw [Hd.out]; exact e41))⟩
 subst e41
 have hd := nx_drop Hd.out (by omega) (by omega)
 have hk4 : k3 + 1 ≤ xs.length := by have := hd.1; omega
 have hde := hd.2.2
 have hal := Hal.out
 have hys := Hys.out
 rw [hde] at hal
 have Hg := Lib.hid (show GrpG xs k (k3 + 1) ys from ⟨l, .inr ⟨by rw [Hd0.out, Hd1.out]; rfl, hal⟩, hys⟩)
 have Hz := Lib.hid (H4.out.setz (z := (k3 : Int) + 1) (m := k3 + 1) (by omega) (by omega))
 have fz := Fr.set rb 1 w4 (.int .i64 ((k3 : Int) + 1))
 have Fz := Lib.hid (F4.out.then fz)
 have Hxz := Lib.hid (Hx4.out.rd fz H4.out.typed)
 clear hd hde hal hys fz
 go_wp2_with fail
 go_ret
 exact ⟨A, q, ys, k3 + 1, 0, rfl, Hz.out, Fz.out, Hxz.out, Hok3.out, fun e => absurd rfl e, fun _ => Hg.out, fun e => absurd rfl e⟩
def badL : List UInt8 := [42, 43, 63, 123, 125, 93, 41, 124]
def rptL : List UInt8 := [42, 43, 63, 123]
theorem isIn_bad (c : Int) : isIn badL c = badB c := by
 rw [Bool.eq_iff_iff]
 simp only [isIn, badL, badB, rptB, List.any_cons, List.any_nil, Bool.or_eq_true, decide_eq_true_eq, Bool.or_false]
 simp only [UInt8.toNat_ofNat]
 omega
theorem isIn_rpt (c : Int) : isIn rptL c = rptB c := by
 rw [Bool.eq_iff_iff]
 simp only [isIn, rptL, rptB, List.any_cons, List.any_nil, Bool.or_eq_true, decide_eq_true_eq, Bool.or_false]
 simp only [UInt8.toNat_ofNat]
 omega
theorem is_bad (c : Int) (w : World) : Calls Tryz.prog 109 #[.string ⟨#[42, 43, 63, 123, 125, 93, 41, 124]⟩, .int .i32 c] w fun e w' => IsInP badL c w e w' := is_any ⟨#[42, 43, 63, 123, 125, 93, 41, 124]⟩ (by decide) c w
theorem is_rpt (c : Int) (w : World) : Calls Tryz.prog 109 #[.string ⟨#[42, 43, 63, 123]⟩, .int .i32 c] w fun e w' => IsInP rptL c w e w' := is_any ⟨#[42, 43, 63, 123]⟩ (by decide) c w
theorem OkX.one (k c : Int) : OkX [oneX k c] := by intro x hx; simp at hx; subst hx; simp [oneX]
end Go.Proofs.YthhnmpkgleelfaaGreatDoor
