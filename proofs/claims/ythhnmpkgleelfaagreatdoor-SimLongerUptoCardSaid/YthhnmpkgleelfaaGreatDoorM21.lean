import Derived.Test.YthhnmpkgleelfaaGreatDoorM20
import Derived.Lib.ConvBytes
import Derived.Lib.AtoiErrMem
import Derived.Deep.RegionHeld
import Derived.Test.YthhnmpkgleelfaaGreatDoorM15
set_option linter.unusedVariables false
set_option linter.unusedSimpArgs false
namespace Go.Proofs.YthhnmpkgleelfaaGreatDoor
open Go.RowKit
set_option maxHeartbeats 16000000 in
set_option maxRecDepth 100000 in
theorem ralt_step {xs : List UInt8} {rb k : Nat} {w : World} (h : Rd xs rb w k 0) (hl : xs.length ≤ 400) (ha : AltAt xs (k + 1)) : Calls Tryz.prog 59 #[.pointer (some ⟨rb, 0, none⟩)] w fun e w' => AltP xs rb k w e w' := by
 have H := Lib.hid h
 have Ha := Lib.hid ha
 have hk := h.le
 clear h ha
 go_enter Tryz.func59, Tryz.ntmps59
 go_wp2_with fail
 (with_reducible refine (rseq_any H.out hl Ha.out).mono ?_)
 rintro e w3 ⟨A3, q3, ys, k3, c3, rfl, h3, hf3, hx3, hok3, hl3, hr3⟩
 have H3 := Lib.hid h3
 have F3 := Lib.hid hf3
 have Hel := Lib.hid (show ElP w3 (.slice A3 ys.length q3) ys from ⟨hx3, hok3⟩)
 have Hr3 := Lib.hid hr3
 clear h3 hf3 hx3 hok3 hr3
 go_upto_block 0 with fail
 go_cut [3, 4, 5] (fun s3 _ _ wx => AlEnd xs rb k w s3 wx)
 case first =>
  have Hal := Lib.hid (alloc_below w3 (.cells #[.slice A3 ys.length q3] 26))
  have Hst : Hid (AlRel xs rb k w (.slice (some ⟨w3.heap.size, 0, none⟩) 1 1) (w3.alloc (.cells #[.slice A3 ys.length q3] 26))) := Lib.hid (by
   refine ⟨some ⟨w3.heap.size, 0, none⟩, 1, [.slice A3 ys.length q3], [ys], k3, c3, rfl, H3.out.below Hal.out, ⟨F3.out.then (Fr.of_below Hal.out), ?_, ?_⟩, by simp, by simp [totX]; omega, ?_, fun h => noalt_seq (Hr3.out.2 h), fun h0 ys' hd hn => by obtain ⟨_, l, hs, _⟩ := Hr3.out.1 h0; rw [hd] at hs; exact noalt_more hs hn⟩
   ·exact ownsRow_lit (n := 1) (cur := #[.slice A3 ys.length q3]) (heap_alloc_new _ _) F3.out.size (by unfold maxLen; omega) rfl
   ·exact (All2.nil _).snoc (Hel.out.below Hal.out)
   ·intro h0
    obtain ⟨hkk, l, hs, hy⟩ := Hr3.out.1 h0
    have h1 := hs.tot
    simp only [List.length_drop] at h1
    refine ⟨[joinR .cat l], by rw [hy]; rfl, ?_, hkk, fun hn => AltL.one hs hn, fun ys m zs hd hm => ?_⟩
    ·have := cat_le2 l
     rw [tot_cons, show tot [] = 0 from rfl]; omega
    ·rw [hd] at hs; exact AltL.more hs hm)
  clear Hel Hr3 F3
  go_wp2_with fail
  go_loopw [3, 4, 5] (fun s3 _ _ wr => AlRel xs rb k w s3 wr) (fun _ _ _ wr => rdMu xs.length rb wr)
  case atStart => exact Hst.out
  case round =>
   obtain ⟨A, q, us, Ls, k2, c9, rfl, hr, hls, hA, htot, hok, hno, hnx⟩ := hrel
   have Hno := Lib.hid hno
   have Hnx := Lib.hid hnx
   clear hno hnx
   have Hr := Lib.hid hr
   have Hls := Lib.hid hls
   have HA := Lib.hid hA
   have Hok := Lib.hid hok
   have Hf := Lib.hid hls.1
   have hk2 := hr.le
   have hul : us.length ≤ 4000 := by have h1 := len_tot Ls; have h2 := hls.2.2.1; omega
   obtain ⟨pbr, capr, -, c0r, c1r, c2r, f1r⟩ := hr.cells
   clear hr hls hA hok
   go_wp2_with fail
   (with_reducible refine (good_any Hr.out).mono ?_)
   rintro e w' ⟨rfl, rfl⟩
   by_cases hq : c9 = 0
   case neg =>
    have hq' : decide (c9 = 0) = false := by simpa using hq
    have Hq := Lib.hid hq
    clear hq
    go_wp2_with fail
    go_meet
    case rel => exact ⟨A, q, us, Ls, k2, c9, rfl, Hr.out, Hls.out, HA.out, by omega, fun e => absurd e Hq.out, fun h => Hno.out h⟩
   subst hq
   have Hnxx := Lib.hid (Hnx.out rfl)
   clear Hno Hnx
   obtain ⟨l, rfl, htl, hkk, hdn, hmo⟩ := Hok.out rfl
   have htot2 := htot
   rw [totX_flat] at htot2
   have Hdn := Lib.hid hdn
   have Hmo := Lib.hid hmo
   clear hdn hmo Hok
   go_wp2_with fail
   (with_reducible refine (lookz_any Hr.out _ (k2) (by omega) (by omega)).mono ?_)
   rintro e w2 ⟨rfl, hb⟩
   have Hls2 := Lib.hid (Hls.out.below hb)
   have F2 := Lib.hid (Hf.out.then (Fr.of_below hb))
   have h2 := Hr.out.below hb
   clear hb c0r c1r c2r f1r
   obtain ⟨pb2, cap2, -, c02, c12, c22, f12⟩ := h2.cells
   have H2 := Lib.hid h2
   obtain ⟨c, hc⟩ : ∃ c, nx (xs.drop (k2)) = c := ⟨_, rfl⟩
   rw [hc]
   have hbc := nx_le (xs.drop (k2))
   rw [hc] at hbc
   obtain ⟨hbc1, hbc2⟩ := hbc
   obtain ⟨nc, hnc⟩ : ∃ n : Int, ((nl (xs.drop (k2)) : Nat) : Int) = n := ⟨_, rfl⟩
   rw [hnc]
   have Hc := Lib.hid hc
   have Hnc := Lib.hid hnc
   clear h2 hc hnc
   by_cases e124 : c = 124
   case neg =>
    have n124 : (c != 124) = true := by simpa using e124
    have Hdone := Lib.hid (Hdn.out (by rw [Hc.out]; exact e124))
    clear e124
    go_wp2_with fail
    go_meet
    case rel => exact ⟨A, q, us, _, k2, 0, rfl, H2.out, Hls2.out, HA.out, htot, fun _ => ⟨l, rfl, Hdone.out⟩, fun e => absurd rfl e⟩
   subst e124
   have hd := nx_drop Hc.out (by omega) (by omega)
   have hk3 : k2 + 1 ≤ xs.length := by have := hd.1; omega
   have Hdd := Lib.hid (show xs.drop k2 = 124 :: xs.drop (k2 + 1) from hd.2.2)
   clear hd
   obtain ⟨wz, hwz⟩ : ∃ wz, w2.setCell ⟨rb, 1, none⟩ (.int .i64 ((k2 : Int) + 1)) = wz := ⟨_, rfl⟩
   have hz := H2.out.setz (z := (k2 : Int) + 1) (m := k2 + 1) (by omega) (by omega)
   have fz2 := Fr.set rb 1 w2 (.int .i64 ((k2 : Int) + 1))
   rw [hwz] at hz fz2
   have Hlsz := Lib.hid (Hls2.out.rd fz2 H2.out.typed)
   have Hz := Lib.hid hz
   have Hwz := Lib.hid hwz
   clear hz hwz fz2
   go_wp2_with fail
   rw [Hwz.out]
   (with_reducible refine (rseq_any (k := k2 + 1) Hz.out hl (Ha.out.mono (by omega))).mono ?_)
   rintro e w3 ⟨A3, q3, ys, k3, c3, rfl, h3, hf3, hx3, hok3, hl3, hr3⟩
   have H3 := Lib.hid h3
   have Hls3 := Lib.hid (Hlsz.out.rd hf3 Hz.out.typed)
   have Hel := Lib.hid (show ElP w3 (.slice A3 ys.length q3) ys from ⟨hx3, hok3⟩)
   have Hr3 := Lib.hid hr3
   clear h3 hf3 hx3 hok3 hr3 c02 c12 c22 f12
   have Hal := Lib.hid (alloc_below w3 (.cells #[.slice A3 ys.length q3] 26))
   have Hcn := Lib.hid (cells_new w3 [.slice A3 ys.length q3] 26)
   have Hlsa := Lib.hid (Hls3.out.below Hal.out)
   have Hoa := Lib.hid Hlsa.out.2.1
   have hsa : w.heap.size ≤ (w3.alloc (.cells #[.slice A3 ys.length q3] 26)).heap.size := Hlsa.out.1.size
   go_wp2_with (at_builtin; refine wpList_append_k elExs rfl (.tmp 30) (.tmp 33) rfl w.heap.size (.slice A us.length q) us.length w3.heap.size 1 1 us [.slice A3 ys.length q3] (by simp [Act.eval]) Hoa.out (by simp [Act.eval]) rfl Hcn.out (by simp [Value.oneCell']) (by unfold maxLen; omega) (by omega) hsa ?_; intro v' w4 h1 h2 h3; have Hp := Lib.hid h1; have Hg := Lib.hid h2; clear h1 h2 h3)
   obtain ⟨A4, q4, rfl, -, -, -⟩ := ownsRow_slice Hp.out
   have hr4 := (H3.out.below Hal.out).own Hoa.out (by decide) (fun h0 => by have := HA.out; omega) (us_u8 Hlsa.out.2.2) Hg.out
   have hls4 := Hlsa.out.snoc (Hel.out.below Hal.out) Hp.out Hg.out
   refine ⟨⟨A4, q4, us ++ [.slice A3 ys.length q3], _, k3, c3, by simp, hr4, hls4, by simp, ?_, ?_, fun h => Hnxx.out _ Hdd.out (noalt_seq (Hr3.out.2 h)), fun h0 ys' hd hn => by obtain ⟨_, ln, hs, _⟩ := Hr3.out.1 h0; rw [hd] at hs; exact Hnxx.out _ Hdd.out (noalt_more hs hn)⟩, ?_⟩
   ·rw [totX_append, totX_flat, totX_cons]; simp [totX]; omega
   ·intro h0
    obtain ⟨hk4, ln, hs, hy⟩ := Hr3.out.1 h0
    have h1 := hs.tot
    simp only [List.length_drop] at h1
    refine ⟨l ++ [joinR .cat ln], by rw [hy]; simp, ?_, by omega, fun hn => ?_, fun ys m zs hd hm => ?_⟩
    ·have := cat_le2 ln
     rw [tot_append, tot_cons, show tot [] = 0 from rfl]; omega
    ·exact Hmo.out _ _ _ Hdd.out (AltL.one hs hn)
    ·rw [hd] at hs; rw [List.append_assoc]; exact Hmo.out _ _ _ Hdd.out (AltL.more hs hm)
   ·rw [hr4.mu, Hr.out.mu]
    have hk3l := hr4.le
    by_cases h0 : c3 = 0
    ·obtain ⟨hk4, _⟩ := Hr3.out.1 h0
     rw [if_pos h0, if_pos rfl]; omega
    ·rw [if_neg h0, if_pos rfl]; omega
 case rest =>
  obtain ⟨A, q, us, Ls, k2, c9, rfl, hr, hls, hpos, htot, hok, hno⟩ := hcut
  have Hno := Lib.hid hno
  clear hno
  have Hr := Lib.hid hr
  have Hls := Lib.hid hls
  have Hok := Lib.hid hok
  have hne : Ls ≠ [] := by intro e; have h1 := hls.2.2.1; rw [e] at h1; simp at h1; rw [h1] at hpos; simp at hpos
  clear hr hls hok
  have hgl := grpX_len 8 Ls hne
  have Hne := Lib.hid hne
  clear hne
  go_wp2_with fail
  (with_reducible refine (grouped_any 8 Hls.out.rows Hne.out (by omega)).mono ?_)
  rintro e w2 ⟨A2, q2, rfl, hb2, hx2⟩
  have Hb2 := Lib.hid hb2
  have Hx2 := Lib.hid hx2
  clear hb2 hx2
  go_wp2_with fail
  go_ret
  refine ⟨A2, q2, grpX 8 Ls, k2, c9, rfl, Hr.out.below Hb2.out, Hls.out.1.then (Fr.of_below Hb2.out), Hx2.out, grpX_ok 8 Ls Hls.out.ok, fun e => ?_, Hno.out⟩
  obtain ⟨l, rfl, h3⟩ := Hok.out e
  exact ⟨l, h3, grpX_flat 8 .alt (fun a b => two_flat.2) l (fun e => by subst e; exact Hne.out rfl)⟩
theorem alt_at {xs : List UInt8} (hl : xs.length ≤ 400) : ∀ n K : Nat, xs.length + 2 ≤ K + n → AltAt xs K
 | 0, K, h => fun rb k w hk hr => by have := hr.le; omega
 | n + 1, K, h => fun rb k w hk hr => ralt_step hr hl ((alt_at hl n (K + 1) (by omega)).mono (by omega))
theorem ralt_any {xs : List UInt8} {rb k : Nat} {w : World} (h : Rd xs rb w k 0) (hl : xs.length ≤ 400) : Calls Tryz.prog 59 #[.pointer (some ⟨rb, 0, none⟩)] w fun e w' => AltP xs rb k w e w' := alt_at hl (xs.length + 2) 0 (by omega) rb k w (Nat.zero_le _) h
theorem results_tc {fn : Func} {p q : Tmp} (h : fn.results = #[.tmp p, .cell q 52]) (tmps : Array Value) (w : World) (g : Nat) (t : TypeId) (c0 c1 c2 c3 : Value) (fr : Nat × Nat)
  (hp : tmps.getD q undef = .pointer (some ⟨g, 0, none⟩)) (hg : w.heap[g]? = some (.cells #[c0, c1, c2, c3] t fr)) :
  (results fn tmps).run Tryz.prog w = .ok (.tuple #[tmps.getD p undef, .agg #[c0, c1, c2, c3]]) w := by
 have hp' : tmps[q]?.getD undef = .pointer (some ⟨g, 0, none⟩) := by simpa using hp
 have hl := run_loadVar_row (P := Tryz.prog) w g t 52 #[c0, c1, c2, c3] fr _ hg Tryz.underlying52 rfl infoFault
 simp [results, h, hp', asAddr, hl]
theorem step_store_row {ops : Array Oper} {o : Oper} {a : Act} {w : World} {K : Act → World → Prop} {Q : Exit → Act → World → Prop} {E : Prop} (hgd : o.guard = none) (ty : TypeId) (x y : Operand) (ho : o.op = .store ty x y)
  (g : Nat) (cells : Array Value) (hx : a.eval x = .pointer (some ⟨g, 0, none⟩)) (hy : a.eval y = .agg cells)
  (t : TypeId) (old : Array Value) (hg : w.heap[g]? = some (.cells old t (0, 0))) (hi : (Tryz.prog.info? ty).map (·.size) = some cells.size)
  (hold : old.size = cells.size) (h1 : cells.all (·.oneCell') = true)
  (h : K (a.put o.dst undef) (w.setRow g cells)) : if Region.wanted o (yielded ops a.tmps) = true then Oper.wp Tryz.prog o a w K Q else E := by
 have hw : Region.wanted o (yielded ops a.tmps) = true := by simp [Region.wanted, hgd]
 rw [if_pos hw]
 exact wp_store_row ty x y ho g cells hx hy t old hg hi hold h1 h
theorem bytes_of (w : World) (s : ByteArray) (hs : s.size ≤ 1000000) : ∃ (cap : Nat) (w' : World), (convert 9 54 (.string s)).run Tryz.prog w = .ok (.slice (some ⟨w.heap.size, 0, none⟩) s.data.toList.length cap) w' ∧ Below w.heap.size w w' ∧ w'.heap.size = w.heap.size + 1 ∧ Bs w' (.slice (some ⟨w.heap.size, 0, none⟩) s.data.toList.length cap) s.data.toList := by
 have hl : s.data.toList.length = s.size := by rw [Array.length_toList]; rfl
 refine ⟨grownCap w s.size 0 5, Lib.bytesWorld w 5 s, ?_, Lib.bytesWorld_below w _ s, Lib.bytesWorld_size w _ s, ?_⟩
 ·rw [hl]; exact Lib.run_convert_string_bytes w 9 54 5 s Tryz.underlying9 Tryz.underlying54 Tryz.underlying5
 ·rw [hl]
  refine ⟨by omega, some ⟨w.heap.size, 0, none⟩, _, by rw [hl], by rw [hl]; exact grownCap_ge w s.size 0 _, fun _ => ⟨w.heap.size, 0, rfl, fun i hi => ?_⟩⟩
  rw [hl] at hi
  rw [Nat.zero_add, Lib.bytesWorld_cell w _ s i hi]
  rfl
def ParseP (s : ByteArray) (w : World) (e : Ending) (w' : World) : Prop := ∃ (A : Option Addr) (n q : Nat) (c hh ll : Int) (fA : Option Addr) (fn fq : Nat), e = .returned (.tuple #[.slice A n q, fltV c hh ll (.slice fA fn fq)]) ∧ Below w.heap.size w w' ∧ (c = 0 → ∃ r, Parsed s.data.toList r ∧ XRow w' 0 (.slice A n q) (r.flat 0)) ∧ (c ≠ 0 → ∀ r, ¬ Parsed s.data.toList r)
set_option maxHeartbeats 16000000 in
set_option maxRecDepth 100000 in
theorem rparse_any {w : World} {s : ByteArray} (hs : s.size ≤ 400) : Calls Tryz.prog 36 #[.string s] w fun e w' => ParseP s w e w' := by
 have hl : s.data.toList.length ≤ 400 := by rw [Array.length_toList]; exact hs
 have hal := alloc_below w (.cells #[.int .i64 0, .int .i64 0, .int .i64 0, .slice none 0 0] 52)
 have hbx := heap_alloc_new w (.cells #[.int .i64 0, .int .i64 0, .int .i64 0, .slice none 0 0] 52)
 have hz0 : (w.alloc (.cells #[.int .i64 0, .int .i64 0, .int .i64 0, .slice none 0 0] 52)).heap.size = w.heap.size + 1 := by simp
 obtain ⟨cap, w1, hcv, hb1, hz1, hbs⟩ := bytes_of (w.alloc (.cells #[.int .i64 0, .int .i64 0, .int .i64 0, .slice none 0 0] 52)) s (by omega)
 have hbx1 := (hb1.block _ (lt_of_heap hbx)).trans hbx
 rw [hz0] at hz1
 simp only [World.size_alloc] at hcv hbs
 have Hb1 := Lib.hid (hal.trans (hb1.mono hal.size))
 have Hbx1 := Lib.hid hbx1
 have Hz1 := Lib.hid hz1
 have Hbs := Lib.hid hbs
 obtain ⟨xs, hxs⟩ : ∃ xs, s.data.toList = xs := ⟨_, rfl⟩
 rw [hxs] at hl hcv Hbs
 clear hal hbx hz0 hb1 hbx1 hz1 hbs
 go_enter Tryz.func36, Tryz.ntmps36
 go_wp2_with fail
 clear hcv
 (with_reducible refine (refbare_any 0 w1).mono ?_)
 rintro e w2 ⟨fh, fl, A2, n2, q2, rfl, hb2⟩
 have hs2 := hb2.size
 have Hbx2 := Lib.hid ((hb2.block _ (lt_of_heap Hbx1.out)).trans Hbx1.out)
 have Hb2 := Lib.hid (Hb1.out.trans (hb2.mono Hb1.out.size))
 have Hbs2 := Lib.hid (Hbs.out.below hb2)
 have hz1 := Hz1.out
 unfold fltV
 clear hb2
 go_wp2_with fail
 have H3 : Hid (Rd xs w2.heap.size (w2.alloc (.cells #[.slice (some ⟨w.heap.size + 1, 0, none⟩) xs.length cap, .int .i64 0, .int .i64 0, .int .i64 fh, .int .i64 fl, .slice A2 n2 q2] 98)) 0 0) := Lib.hid
  ⟨w.heap.size + 1, cap, fh, fl, A2, n2, q2, by omega, Nat.zero_le _, Hbs2.out.below (alloc_below _ _), heap_alloc_new _ _⟩
 have hal3 := alloc_below w2 (.cells #[.slice (some ⟨w.heap.size + 1, 0, none⟩) xs.length cap, .int .i64 0, .int .i64 0, .int .i64 fh, .int .i64 fl, .slice A2 n2 q2] 98)
 have Hbx3 := Lib.hid ((hal3.block _ (lt_of_heap Hbx2.out)).trans Hbx2.out)
 have Hb3 := Lib.hid (Hb2.out.trans (hal3.mono Hb2.out.size))
 have Hn := Lib.hid (show ¬ some w2.heap.size = some w.heap.size from fun e => by injection e with e; omega)
 have hn2 : w.heap.size ≤ w2.heap.size := Hb2.out.size
 clear hal3
 generalize (w2.alloc (.cells #[.slice (some ⟨w.heap.size + 1, 0, none⟩) xs.length cap, .int .i64 0, .int .i64 0, .int .i64 fh, .int .i64 fl, .slice A2 n2 q2] 98)) = w3 at *
 (with_reducible refine (ralt_any H3.out hl).mono ?_)
 rintro e w4 ⟨A, q, ys, k, c, rfl, h4, hf4, hx4, -, hd4⟩
 have H4 := Lib.hid h4
 have Hbx4 := Lib.hid ((hf4.block _ (lt_of_heap Hbx3.out) (fun e => Hn.out e.symm)).trans Hbx3.out)
 have Hb4 := Lib.hid (Hb3.out.grown hf4 Hb3.out.size (fun g e => by cases e; exact hn2))
 have Hx4 := Lib.hid hx4
 have Hd4 := Lib.hid hd4
 have Hgd := Lib.hid (fun n => (good_any (h4.below (blw_drewN (Below.refl _ _) n))).mono (fun e w' (h : GoodP c _ e w') => (⟨h.1, h.2.symm⟩ : e = .returned (.bool (decide (c = 0))) ∧ w' = _)))
 obtain ⟨pb4, cap4, -, c04, c14, c24, f14⟩ := h4.cells
 clear h4 hf4 hx4 hd4
 go_wp2_with fail
 by_cases hq : c = 0
 case neg =>
  have hq' : decide (c = 0) = false := by simpa using hq
  have Hq := Lib.hid hq
  have Hnp : Hid (∀ r, ¬ Parsed s.data.toList r) := Lib.hid (fun r => by
   rw [hxs]
   have h9 := Hd4.out.2 hq
   rw [List.drop_zero] at h9
   exact noparse_alt h9 r)
  rw [hq'] at Hgd
  clear hq hq'
  go_quiet ((go_at_call 60; exact Calls.quiet_of_same (Hgd.out _)))
  obtain ⟨w5, hw5⟩ : ∃ w5, w4.drewN nq = w5 := ⟨_, rfl⟩
  rw [hw5]
  have hb45 : Below w4.heap.size w4 w5 := by rw [← hw5]; exact blw_drewN (Below.refl _ _) _
  have H5 := Lib.hid (H4.out.below hb45)
  have hbx5 := (hb45.block _ (lt_of_heap Hbx4.out)).trans Hbx4.out
  have hb5 := Hb4.out.trans (hb45.mono Hb4.out.size)
  clear hb45 hw5 c04 c14 c24 f14
  go_wp2_with fail
  (with_reducible refine (good_any H5.out).mono ?_)
  rintro e w' ⟨rfl, rfl⟩
  have hq' : decide (c = 0) = false := by simpa using Hq.out
  obtain ⟨pb9, cap9, h9, l9, A9, n9, q9, -, -, -, hrow⟩ := H5.out
  have Hrow := Lib.hid hrow
  have Hbx5 := Lib.hid hbx5
  have Hb5 := Lib.hid hb5
  clear hrow hbx5 hb5
  go_wp2_with fail
  refine wp_region_noPanic ?_
  refine wp_region_held_drew (S := fun w' => w'.cell? ⟨w2.heap.size, 2, none⟩ = some (.int .i64 c) ∧ w'.cell? ⟨w2.heap.size, 3, none⟩ = some (.int .i64 h9) ∧ w'.cell? ⟨w2.heap.size, 4, none⟩ = some (.int .i64 l9) ∧ w'.cell? ⟨w2.heap.size, 5, none⟩ = some (.slice A9 n9 q9)) (by kernel_rfl) (⟨row_cell Hrow.out (j := 2) rfl, row_cell Hrow.out (j := 3) rfl, row_cell Hrow.out (j := 4) rfl, row_cell Hrow.out (j := 5) rfl⟩) (fun hHeld => ?_)
  refine tkH 0 (v := ?v0) (nth rfl) (by kernel_rfl) (by kernel_rfl) (by kernel_rfl) (fun _ _ _ h => h) (by rfl) hHeld ?y0 ?r0
  case y0 => (intro w hSw; (try dsimp only at hSw); go_simp; (try with_reducible rfl))
  try simp only [Act.put, pA, pB, pC]
  refine tkH 1 (v := ?v1) (nth rfl) (by kernel_rfl) (by kernel_rfl) (by kernel_rfl) (fun _ _ _ h => h) (by rfl) hHeld ?y1 ?r1
  case y1 => (intro w hSw; (try dsimp only at hSw); go_simp; (try with_reducible rfl))
  try simp only [Act.put, pA, pB, pC]
  refine tkH 2 (v := ?v2) (nth rfl) (by kernel_rfl) (by kernel_rfl) (by kernel_rfl) (fun _ _ _ h => h) (by rfl) hHeld ?y2 ?r2
  case y2 => (intro w hSw; (try dsimp only at hSw); go_simp; (try with_reducible rfl))
  try simp only [Act.put, pA, pB, pC]
  refine tkH 3 (v := ?v3) (nth rfl) (by kernel_rfl) (by kernel_rfl) (by kernel_rfl) (fun _ _ _ h => h) (by rfl) hHeld ?y3 ?r3
  case y3 => (intro w hSw; (try dsimp only at hSw); go_simp; (try with_reducible rfl))
  try simp only [Act.put, pA, pB, pC]
  refine tkH 4 (v := ?v4) (nth rfl) (by kernel_rfl) (by kernel_rfl) (by kernel_rfl) (fun _ _ _ h => h) (by rfl) hHeld ?y4 ?r4
  case y4 => (intro w hSw; (try dsimp only at hSw); go_simp; (try with_reducible rfl))
  try simp only [Act.put, pA, pB, pC]
  refine wpAnyH_ready (rs := [5]) (by kernel_rfl) (by simp) ?_
  refine AllReadyH.cons (nth rfl) (fun K hK => ?_) AllReadyH.nil
  refine step_store_row rfl 52 (.tmp 3) (.tmp 39) rfl w.heap.size #[.int .i64 c, .int .i64 h9, .int .i64 l9, .slice A9 n9 q9] (by simp [Act.eval]) (by simp [Act.eval]) 52 _ (show w5.drew.heap[w.heap.size]? = _ from Hbx5.out) infoFault rfl (flt_one _ _ _ rfl) ?_
  refine hK.out _ _ (⟨(setRow_grown _ _ _).cell hHeld.1 (fun e => Hn.out e), (setRow_grown _ _ _).cell hHeld.2.1 (fun e => Hn.out e), (setRow_grown _ _ _).cell hHeld.2.2.1 (fun e => Hn.out e), (setRow_grown _ _ _).cell hHeld.2.2.2 (fun e => Hn.out e)⟩) (fun hHeld => ?_)
  clear hK K
  try simp only [Act.put, pA, pB, pC]
  refine wpAnyH_done (by kernel_rfl) (NoPanic.normal ?_) _
  clear hHeld
  go_wp2_with fail
  exact bodyPost_ret (results_tc Tryz.results36 _ _ w.heap.size 52 _ _ _ _ (0, 0) rfl (setRow_heap _ _ _ _ _ _ (show w5.drew.heap[w.heap.size]? = _ from Hbx5.out))) rfl ⟨none, 0, 0, c, h9, l9, _, _, _, rfl, (Hb5.out.drew).grown (setRow_grown _ _ _) Hb5.out.drew.size (fun g e => by cases e; exact Nat.le_refl _), fun e => absurd e Hq.out, fun _ => Hnp.out⟩
 subst hq
 obtain ⟨l4, hal4, hys4⟩ := Hd4.out.1 rfl
 have Hal4 := Lib.hid hal4
 have Hys4 := Lib.hid hys4
 clear hal4 hys4 Hd4
 rw [show decide ((0 : Int) = 0) = true from rfl] at Hgd
 by_cases hlt : k < xs.length
 case pos =>
  have hlt' : (k : Int) < (xs.length : Int) := by omega
  have Hnp : Hid (∀ r, ¬ Parsed s.data.toList r) := Lib.hid (fun r => by
   rw [hxs]
   have h9 := Hal4.out
   rw [List.drop_zero] at h9
   exact noparse_left h9 (fun e => by have := congrArg List.length e; simp at this; omega) r)
  go_quiet ((go_at_call 60; exact Calls.quiet_of_same (Hgd.out _)))
  obtain ⟨w5, hw5⟩ : ∃ w5, w4.drewN nq = w5 := ⟨_, rfl⟩
  rw [hw5]
  have hb45 : Below w4.heap.size w4 w5 := by rw [← hw5]; exact blw_drewN (Below.refl _ _) _
  have H5a := Lib.hid (H4.out.below hb45)
  have Hbx5a := Lib.hid ((hb45.block _ (lt_of_heap Hbx4.out)).trans Hbx4.out)
  have Hb5a := Lib.hid (Hb4.out.trans (hb45.mono Hb4.out.size))
  obtain ⟨pb5, cap5, -, c05, c15, c25, f15⟩ := H5a.out.cells
  clear hb45 hw5 c04 c14 c24 f14
  go_wp2_with fail
  (with_reducible refine (wrongz_any H5a.out _ k (by omega) (by omega)).mono ?_)
  rintro e w6 ⟨rfl, c6, hq6, h6, hf6⟩
  have H5 := Lib.hid h6
  have Hq := Lib.hid hq6
  have hbx5 := (hf6.block _ (lt_of_heap Hbx5a.out) (fun e => Hn.out e.symm)).trans Hbx5a.out
  have hb5 := Hb5a.out.grown hf6 Hb5a.out.size (fun g e => by cases e; exact hn2)
  clear h6 hf6 hq6 c05 c15 c25 f15
  go_wp2_with fail
  (with_reducible refine (good_any H5.out).mono ?_)
  rintro e w' ⟨rfl, rfl⟩
  have hq' : decide (c6 = 0) = false := by simpa using Hq.out
  obtain ⟨pb9, cap9, h9, l9, A9, n9, q9, -, -, -, hrow⟩ := H5.out
  have Hrow := Lib.hid hrow
  have Hbx5 := Lib.hid hbx5
  have Hb5 := Lib.hid hb5
  clear hrow hbx5 hb5
  go_wp2_with fail
  refine wp_region_noPanic ?_
  refine wp_region_held_drew (S := fun w' => w'.cell? ⟨w2.heap.size, 2, none⟩ = some (.int .i64 c6) ∧ w'.cell? ⟨w2.heap.size, 3, none⟩ = some (.int .i64 h9) ∧ w'.cell? ⟨w2.heap.size, 4, none⟩ = some (.int .i64 l9) ∧ w'.cell? ⟨w2.heap.size, 5, none⟩ = some (.slice A9 n9 q9)) (by kernel_rfl) (⟨row_cell Hrow.out (j := 2) rfl, row_cell Hrow.out (j := 3) rfl, row_cell Hrow.out (j := 4) rfl, row_cell Hrow.out (j := 5) rfl⟩) (fun hHeld => ?_)
  refine tkH 0 (v := ?v5) (nth rfl) (by kernel_rfl) (by kernel_rfl) (by kernel_rfl) (fun _ _ _ h => h) (by rfl) hHeld ?y5 ?r5
  case y5 => (intro w hSw; (try dsimp only at hSw); go_simp; (try with_reducible rfl))
  try simp only [Act.put, pA, pB, pC]
  refine tkH 1 (v := ?v6) (nth rfl) (by kernel_rfl) (by kernel_rfl) (by kernel_rfl) (fun _ _ _ h => h) (by rfl) hHeld ?y6 ?r6
  case y6 => (intro w hSw; (try dsimp only at hSw); go_simp; (try with_reducible rfl))
  try simp only [Act.put, pA, pB, pC]
  refine tkH 2 (v := ?v7) (nth rfl) (by kernel_rfl) (by kernel_rfl) (by kernel_rfl) (fun _ _ _ h => h) (by rfl) hHeld ?y7 ?r7
  case y7 => (intro w hSw; (try dsimp only at hSw); go_simp; (try with_reducible rfl))
  try simp only [Act.put, pA, pB, pC]
  refine tkH 3 (v := ?v8) (nth rfl) (by kernel_rfl) (by kernel_rfl) (by kernel_rfl) (fun _ _ _ h => h) (by rfl) hHeld ?y8 ?r8
  case y8 => (intro w hSw; (try dsimp only at hSw); go_simp; (try with_reducible rfl))
  try simp only [Act.put, pA, pB, pC]
  refine tkH 4 (v := ?v9) (nth rfl) (by kernel_rfl) (by kernel_rfl) (by kernel_rfl) (fun _ _ _ h => h) (by rfl) hHeld ?y9 ?r9
  case y9 => (intro w hSw; (try dsimp only at hSw); go_simp; (try with_reducible rfl))
  try simp only [Act.put, pA, pB, pC]
  refine wpAnyH_ready (rs := [5]) (by kernel_rfl) (by simp) ?_
  refine AllReadyH.cons (nth rfl) (fun K hK => ?_) AllReadyH.nil
  refine step_store_row rfl 52 (.tmp 3) (.tmp 39) rfl w.heap.size #[.int .i64 c6, .int .i64 h9, .int .i64 l9, .slice A9 n9 q9] (by simp [Act.eval]) (by simp [Act.eval]) 52 _ (show w6.drew.heap[w.heap.size]? = _ from Hbx5.out) infoFault rfl (flt_one _ _ _ rfl) ?_
  refine hK.out _ _ (⟨(setRow_grown _ _ _).cell hHeld.1 (fun e => Hn.out e), (setRow_grown _ _ _).cell hHeld.2.1 (fun e => Hn.out e), (setRow_grown _ _ _).cell hHeld.2.2.1 (fun e => Hn.out e), (setRow_grown _ _ _).cell hHeld.2.2.2 (fun e => Hn.out e)⟩) (fun hHeld => ?_)
  clear hK K
  try simp only [Act.put, pA, pB, pC]
  refine wpAnyH_done (by kernel_rfl) (NoPanic.normal ?_) _
  clear hHeld
  go_wp2_with fail
  exact bodyPost_ret (results_tc Tryz.results36 _ _ w.heap.size 52 _ _ _ _ (0, 0) rfl (setRow_heap _ _ _ _ _ _ (show w6.drew.heap[w.heap.size]? = _ from Hbx5.out))) rfl ⟨none, 0, 0, c6, h9, l9, _, _, _, rfl, (Hb5.out.drew).grown (setRow_grown _ _ _) Hb5.out.drew.size (fun g e => by cases e; exact Nat.le_refl _), fun e => absurd e Hq.out, fun _ => Hnp.out⟩
 have hlt' : ¬ (k : Int) < (xs.length : Int) := by omega
 go_quiet ((go_at_call 60; exact Calls.quiet_of_same (Hgd.out _)))
 obtain ⟨w5, hw5⟩ : ∃ w5, w4.drewN nq = w5 := ⟨_, rfl⟩
 rw [hw5]
 have hb45 : Below w4.heap.size w4 w5 := by rw [← hw5]; exact blw_drewN (Below.refl _ _) _
 have H5 := Lib.hid (H4.out.below hb45)
 have Hr : Hid (∃ r, Parsed s.data.toList r ∧ XRow w5 0 (.slice A ys.length q) (r.flat 0)) := Lib.hid (by
  have hal := Hal4.out
  have hys := Hys4.out
  refine ⟨_, ⟨l4, ?_, rfl⟩, by rw [← hys]; exact Hx4.out.below hb45⟩
  rw [hxs]
  rw [List.drop_zero, List.drop_of_length_le (by omega : xs.length ≤ k)] at hal
  exact hal)
 have hbx5 := (hb45.block _ (lt_of_heap Hbx4.out)).trans Hbx4.out
 have hb5 := Hb4.out.trans (hb45.mono Hb4.out.size)
 clear hb45 hw5 c04 c14 c24 f14
 go_wp2_with fail
 (with_reducible refine (good_any H5.out).mono ?_)
 rintro e w' ⟨rfl, rfl⟩
 obtain ⟨pb9, cap9, h9, l9, A9, n9, q9, -, -, -, hrow⟩ := H5.out
 have Hrow := Lib.hid hrow
 have Hbx5 := Lib.hid hbx5
 have Hb5 := Lib.hid hb5
 clear hrow hbx5 hb5
 go_wp2_with fail
 refine wp_region_noPanic ?_
 refine wp_region_held_drew (S := fun w' => w'.cell? ⟨w2.heap.size, 2, none⟩ = some (.int .i64 0) ∧ w'.cell? ⟨w2.heap.size, 3, none⟩ = some (.int .i64 h9) ∧ w'.cell? ⟨w2.heap.size, 4, none⟩ = some (.int .i64 l9) ∧ w'.cell? ⟨w2.heap.size, 5, none⟩ = some (.slice A9 n9 q9)) (by kernel_rfl) (⟨row_cell Hrow.out (j := 2) rfl, row_cell Hrow.out (j := 3) rfl, row_cell Hrow.out (j := 4) rfl, row_cell Hrow.out (j := 5) rfl⟩) (fun hHeld => ?_)
 refine tkH 0 (v := ?va) (nth rfl) (by kernel_rfl) (by kernel_rfl) (by kernel_rfl) (fun _ _ _ h => h) (by rfl) hHeld ?ya ?ra
 case ya => (intro w hSw; (try dsimp only at hSw); go_simp; (try with_reducible rfl))
 try simp only [Act.put, pA, pB, pC]
 refine tkH 1 (v := ?vb) (nth rfl) (by kernel_rfl) (by kernel_rfl) (by kernel_rfl) (fun _ _ _ h => h) (by rfl) hHeld ?yb ?rb
 case yb => (intro w hSw; (try dsimp only at hSw); go_simp; (try with_reducible rfl))
 try simp only [Act.put, pA, pB, pC]
 refine tkH 2 (v := ?vc) (nth rfl) (by kernel_rfl) (by kernel_rfl) (by kernel_rfl) (fun _ _ _ h => h) (by rfl) hHeld ?yc ?rc
 case yc => (intro w hSw; (try dsimp only at hSw); go_simp; (try with_reducible rfl))
 try simp only [Act.put, pA, pB, pC]
 refine tkH 3 (v := ?vd) (nth rfl) (by kernel_rfl) (by kernel_rfl) (by kernel_rfl) (fun _ _ _ h => h) (by rfl) hHeld ?yd ?rd
 case yd => (intro w hSw; (try dsimp only at hSw); go_simp; (try with_reducible rfl))
 try simp only [Act.put, pA, pB, pC]
 refine tkH 4 (v := ?ve) (nth rfl) (by kernel_rfl) (by kernel_rfl) (by kernel_rfl) (fun _ _ _ h => h) (by rfl) hHeld ?ye ?re
 case ye => (intro w hSw; (try dsimp only at hSw); go_simp; (try with_reducible rfl))
 try simp only [Act.put, pA, pB, pC]
 refine tkH 5 (v := ?vf) (nth rfl) (by kernel_rfl) (by kernel_rfl) (by kernel_rfl) (fun _ _ _ h => h) (by rfl) hHeld ?yf ?rf
 case yf => (intro w hSw; (try dsimp only at hSw); go_simp; (try with_reducible rfl))
 try simp only [Act.put, pA, pB, pC]
 refine wpAnyH_ready (rs := [6]) (by kernel_rfl) (by simp) ?_
 refine AllReadyH.cons (nth rfl) (fun K hK => ?_) AllReadyH.nil
 refine step_store_row rfl 52 (.tmp 3) (.tmp 44) rfl w.heap.size #[.int .i64 0, .int .i64 h9, .int .i64 l9, .slice A9 n9 q9] (by simp [Act.eval]) (by simp [Act.eval]) 52 _ (show w5.drew.heap[w.heap.size]? = _ from Hbx5.out) infoFault rfl (flt_one _ _ _ rfl) ?_
 refine hK.out _ _ (⟨(setRow_grown _ _ _).cell hHeld.1 (fun e => Hn.out e), (setRow_grown _ _ _).cell hHeld.2.1 (fun e => Hn.out e), (setRow_grown _ _ _).cell hHeld.2.2.1 (fun e => Hn.out e), (setRow_grown _ _ _).cell hHeld.2.2.2 (fun e => Hn.out e)⟩) (fun hHeld => ?_)
 clear hK K
 try simp only [Act.put, pA, pB, pC]
 refine wpAnyH_done (by kernel_rfl) (NoPanic.normal ?_) _
 clear hHeld
 go_wp2_with fail
 refine bodyPost_ret (results_tc Tryz.results36 _ _ w.heap.size 52 _ _ _ _ (0, 0) rfl (setRow_heap _ _ _ _ _ _ (show w5.drew.heap[w.heap.size]? = _ from Hbx5.out))) rfl ⟨A, _, q, 0, h9, l9, _, _, _, rfl, (Hb5.out.drew).grown (setRow_grown _ _ _) Hb5.out.drew.size (fun g e => by cases e; exact Nat.le_refl _), fun _ => ?_, fun e => absurd rfl e⟩
 obtain ⟨r, hr, hx⟩ := Hr.out
 refine ⟨r, hr, ?_⟩
 have k1 : Keeps (fun e => e = 52) w5.drew (w5.drew.setRow w.heap.size #[.int .i64 0, .int .i64 h9, .int .i64 l9, .slice A9 n9 q9]) := Keeps.of_grown (setRow_grown _ _ _) (fun g e cs t z hh => by cases e; have h1' : w5.drew.heap[w.heap.size]? = _ := Hbx5.out; rw [h1'] at hh; injection hh with hh; injection hh with _ hh; exact hh.symm)
 exact ownsRow_keeps (hx.below ((Below.refl _ _).drew)) k1 (by decide)
end Go.Proofs.YthhnmpkgleelfaaGreatDoor
