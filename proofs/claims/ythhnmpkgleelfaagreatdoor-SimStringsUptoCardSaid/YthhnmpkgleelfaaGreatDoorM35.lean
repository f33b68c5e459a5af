import Derived.Test.YthhnmpkgleelfaaGreatDoorM23
import Derived.Test.YthhnmpkgleelfaaGreatDoorM6
set_option linter.unusedVariables false
set_option linter.unusedSimpArgs false
namespace Go.Proofs.YthhnmpkgleelfaaGreatDoor
open Go.RowKit
def OkU (xs : List UInt8) : Prop := ∃ cs : List Int, (∀ c ∈ cs, isR c = true) ∧ xs = cs.flatMap frm
theorem OkU.nil : OkU [] := ⟨[], fun _ h => (by cases h), rfl⟩
theorem OkU.next {xs : List UInt8} {k : Nat} (h : OkU (xs.take k)) (hd : (dec (xs.drop k)).2.2 = 0) : OkU (xs.take (k + (dec (xs.drop k)).2.1)) := by
 obtain ⟨cs, h1, h2⟩ := h
 obtain ⟨h3, h4⟩ := dec_frm hd
 refine ⟨cs ++ [((dec (xs.drop k)).1 : Int)], fun c hc => ?_, ?_⟩
 ·rcases List.mem_append.1 hc with hc | hc
  ·exact h1 c hc
  ·rw [List.mem_singleton.1 hc]; exact h4
 ·rw [List.take_add, h2, ← h3, List.flatMap_append]
  simp
theorem results_ttc {fn : Func} {p u q : Tmp} (h : fn.results = #[.tmp p, .tmp u, .cell q 52]) (tmps : Array Value) (w : World) (g : Nat) (t : TypeId) (c0 c1 c2 c3 : Value) (fr : Nat × Nat)
  (hp : tmps.getD q undef = .pointer (some ⟨g, 0, none⟩)) (hg : w.heap[g]? = some (.cells #[c0, c1, c2, c3] t fr)) :
  (results fn tmps).run Tryz.prog w = .ok (.tuple #[tmps.getD p undef, tmps.getD u undef, .agg #[c0, c1, c2, c3]]) w := by
 have hp' : tmps[q]?.getD undef = .pointer (some ⟨g, 0, none⟩) := by simpa using hp
 have hl := run_loadVar_row (P := Tryz.prog) w g t 52 #[c0, c1, c2, c3] fr _ hg Tryz.underlying52 rfl infoFault
 simp [results, h, hp', asAddr, hl]
def ChsP (xs : List UInt8) (w : World) (e : Ending) (w' : World) : Prop := ∃ (v1 v2 : Value) (c h l : Int) (A : Option Addr) (n q : Nat), e = .returned (.tuple #[v1, v2, fltV c h l (.slice A n q)]) ∧ (c = 0 → OkU xs) ∧ Below w.heap.size w w'
def ChsR (xs : List UInt8) (w0 : World) (s5 s6 s7 : Value) (wr : World) : Prop := ∃ (k m : Nat) (us vs : List Value), m ≤ k ∧ k ≤ xs.length ∧ s7 = .int .i64 k ∧ OkU (xs.take k) ∧ wr.ownsRow w0.heap.size 3 1 s5 m us ∧ wr.ownsRow w0.heap.size 21 1 s6 m vs ∧ Below w0.heap.size w0 wr
theorem own_ne2 {w : World} {b1 b2 n1 n2 k1 k2 : Nat} {e1 e2 : TypeId} {v u : Value} {us vs : List Value} (h : w.ownsRow b1 e1 k1 v n1 us) (k : w.ownsRow b2 e2 k2 u n2 vs) (he : e1 ≠ e2) : ∀ g, v.ownBlock = some g → u.ownBlock ≠ some g := by
 intro g h1 h2
 obtain ⟨_, c1, h3⟩ := ownsRow_block h h1
 obtain ⟨_, c2, h4⟩ := ownsRow_block k h2
 rw [h3] at h4
 injection h4 with h4
 injection h4 with _ h4 _
 exact he h4
set_option maxRecDepth 100000 in
set_option maxHeartbeats 8000000 in
theorem refchs_any {w : World} {v : Value} {xs : List UInt8} (hb : Bs w v xs) (hlen : xs.length ≤ 2000000) : Calls Tryz.prog 55 #[v] w fun e w' => ChsP xs w e w' := by
 obtain ⟨hm, A, cap, rfl, hcap, hcell⟩ := id hb
 have hb1 := alloc_below w (.cells #[.int .i64 0, .int .i64 0, .int .i64 0, .slice none 0 0] 52)
 have hbox := heap_alloc_new w (.cells #[.int .i64 0, .int .i64 0, .int .i64 0, .slice none 0 0] 52)
 have hsz1 : (w.alloc (.cells #[.int .i64 0, .int .i64 0, .int .i64 0, .slice none 0 0] 52)).heap.size = w.heap.size + 1 := by simp
 have Hb := Lib.hid (hb.below hb1)
 have Hb1 := Lib.hid hb1
 have Hbox := Lib.hid hbox
 have Hsz := Lib.hid hsz1
 clear hb hcell hb1 hbox hsz1
 go_enter Tryz.func55, Tryz.ntmps55
 go_wp2_with fail
 generalize (w.alloc (.cells #[.int .i64 0, .int .i64 0, .int .i64 0, .slice none 0 0] 52)) = w0 at *
 go_loopw [5, 6, 7, 8, 9, 10] (fun s5 s6 s7 _ _ _ wr => ChsR xs w0 s5 s6 s7 wr) (fun _ _ i _ _ _ _ => xs.length - (intOf i).toNat)
 case atStart => exact ⟨0, 0, [], [], Nat.le_refl _, Nat.zero_le _, rfl, by rw [List.take_zero]; exact OkU.nil, World.ownsRow_nil _ _ _ _, World.ownsRow_nil _ _ _ _, Below.refl _ _⟩
 case round =>
  obtain ⟨k, m, us, vs, hmk, hk, rfl, hok, ho5, ho6, hbr⟩ := hrel
  have Hok := Lib.hid hok
  have Ho5 := Lib.hid ho5
  have Ho6 := Lib.hid ho6
  have Hbr := Lib.hid hbr
  clear hok ho5 ho6 hbr
  have Hbw := Lib.hid (Hb.out.below Hbr.out)
  have Hboxr := Lib.hid ((Hbr.out.block w.heap.size (by rw [Hsz.out]; omega)).trans Hbox.out)
  by_cases hlt : k < xs.length
  ·obtain ⟨-, A', c', e', -, hcl⟩ := id Hbw.out
   injection e' with e1 e2 e3
   subst e1 e3
   obtain ⟨b0, o0, rfl, -⟩ := hcl (by omega)
   have hck : ¬ cap = k := by omega
   have hcut := Lib.hid (Hbw.out.cut hk)
   have hle := dec_drop_le xs k hk
   clear hcl e2
   go_wp2_with fail
   refine (refdec_any hcut.out).mono ?_
   rintro e w2 ⟨⟨code, rfl, hcode⟩, hb2⟩
   have Hb2 := Lib.hid hb2
   clear hb2
   by_cases hz : (dec (xs.drop k)).2.2 = 0
   ·have hc0 : code = 0 := hcode.2 hz
    subst hc0
    clear hcode
    have hp := dec_pos hz
    have Hnx := Lib.hid (Hok.out.next hz)
    generalize (dec (xs.drop k)).1 = cc at *
    generalize (dec (xs.drop k)).2.1 = nn at *
    clear hz
    have hsz0 : w0.heap.size ≤ w2.heap.size := Nat.le_trans Hbr.out.size Hb2.out.size
    have Hoa := Lib.hid (ownsRow_below (ownsRow_below Ho5.out Hb2.out (Nat.le_refl _)) (alloc_below w2 (.cells #[.int .i64 (k : Int)] 3)) (Nat.le_refl _))
    have Hcn := Lib.hid (cells_new w2 [.int .i64 (k : Int)] 3)
    have Hba := Lib.hid ((Hbr.out.trans (Hb2.out.mono Hbr.out.size)).alloc hsz0 (.cells #[.int .i64 (k : Int)] 3))
    have Ho6a := Lib.hid (ownsRow_below (ownsRow_below Ho6.out Hb2.out (Nat.le_refl _)) (alloc_below w2 (.cells #[.int .i64 (k : Int)] 3)) (Nat.le_refl _))
    have Hne := Lib.hid (own_ne2 Hoa.out Ho6a.out (by decide))
    go_upto_region 9 with (at_builtin; refine wpList_append_k elInt rfl (.tmp 30) (.tmp 32) rfl w0.heap.size u5 m w2.heap.size 1 1 us [.int .i64 (k : Int)] (by simp [Act.eval]) Hoa.out (by simp [Act.eval]) rfl Hcn.out (by simp [Value.oneCell']) (by unfold maxLen; omega) (by omega) (by simp; omega) ?_; intro v5 w5 h1 h2 h3; have Hp5 := Lib.hid h1; have Hg5 := Lib.hid h2; clear h1 h2 h3)
    have Ho6b := Lib.hid (World.ownsRow.kept Ho6a.out Hg5.out (by
     by_cases he : u6.ownBlock = none
     ·exact .inl he
     ·obtain ⟨g6, hg6⟩ := Option.ne_none_iff_exists'.1 he
      exact .inr (fun e => Hne.out g6 (by rw [← e]; exact hg6) hg6)))
    have Hb5 := Lib.hid (own_below Hba.out Hoa.out Hba.out.size Hg5.out)
    have hs5 := Hb5.out.size
    have Hoc := Lib.hid (ownsRow_below Ho6b.out (alloc_below w5 (.cells #[.int .i32 (cc : Int)] 21)) (Nat.le_refl _))
    have Hcd := Lib.hid (cells_new w5 [.int .i32 (cc : Int)] 21)
    have Hbd := Lib.hid (Hb5.out.alloc hs5 (.cells #[.int .i32 (cc : Int)] 21))
    have Ho5d := Lib.hid (ownsRow_below Hp5.out (alloc_below w5 (.cells #[.int .i32 (cc : Int)] 21)) (Nat.le_refl _))
    have Hnf := Lib.hid (own_ne2 Ho5d.out Hoc.out (by decide))
    go_wp2_with (at_builtin; refine wpList_append_k elRune rfl (.tmp 34) (.tmp 36) rfl w0.heap.size u6 m w5.heap.size 1 1 vs [.int .i32 (cc : Int)] (by simp [Act.eval]) Hoc.out (by simp [Act.eval]) rfl Hcd.out (by simp [Value.oneCell']) (by unfold maxLen; omega) (by omega) (by simp; omega) ?_; intro v6 w6 h1 h2 h3; have Hp6 := Lib.hid h1; have Hg6 := Lib.hid h2; clear h1 h2 h3)
    have ho5e := World.ownsRow.kept Ho5d.out Hg6.out (by
     by_cases he : v5.ownBlock = none
     ·exact .inl he
     ·obtain ⟨g5, hg5⟩ := Option.ne_none_iff_exists'.1 he
      exact .inr (fun e => Hnf.out g5 hg5 (by rw [← e]; exact hg5)))
    exact ⟨⟨k + nn, m + 1, _, _, by omega, by omega, by go_num, Hnx.out, ho5e, Hp6.out, own_below Hbd.out Hoc.out Hbd.out.size Hg6.out⟩, by simp [intOf]; omega⟩
   ·have hc0 : (code != 0) = true := by
     have : code ≠ 0 := fun h => hz (hcode.1 h)
     simpa using this
    have Hcz := Lib.hid (show code ≠ 0 from fun h => hz (hcode.1 h))
    clear hcode hz
    go_wp2_with fail
    refine (refplaced_any code k w2).mono ?_
    rintro e w3 ⟨hh, ll, fA, fn, fq, rfl, hb3⟩
    unfold fltV
    have Hb3 := Lib.hid hb3
    have Hbox3 := Lib.hid (((bthen Hb2.out hb3).block w.heap.size (lt_of_heap Hboxr.out)).trans Hboxr.out)
    clear hb3
    go_wp2_with (refine wpList_store_rowTo rfl 52 (.tmp 4) (.tmp 29) rfl rfl w.heap.size #[.int .i64 code, .int .i64 hh, .int .i64 ll, .slice fA fn fq] (by simp [Act.eval]) (by simp [Act.eval]) 52 _ Hbox3.out infoFault rfl (flt_one code hh ll rfl) ?_)
    exact bodyPost_ret (results_ttc Tryz.results55 _ _ w.heap.size 52 _ _ _ _ (0, 0) (by simp) (setRow_heap _ _ _ _ _ _ Hbox3.out)) rfl ⟨u5, u6, code, hh, ll, fA, fn, fq, rfl, fun e => absurd e Hcz.out, below_setRow (bthen Hb1.out (bthen Hbr.out (bthen Hb2.out Hb3.out))) (Nat.le_refl _) _⟩
  ·obtain hkn : k = xs.length := by omega
   subst hkn
   have Hok2 := Lib.hid (show OkU xs by have h := Hok.out; rwa [List.take_length] at h)
   go_wp2_with fail
   refine (refbare_any 0 wr).mono ?_
   rintro e w3 ⟨hh, ll, fA, fn, fq, rfl, hb3⟩
   unfold fltV
   have Hb3 := Lib.hid hb3
   have Hbox3 := Lib.hid ((hb3.block w.heap.size (lt_of_heap Hboxr.out)).trans Hboxr.out)
   clear hb3
   go_wp2_with (refine wpList_store_rowTo rfl 52 (.tmp 4) (.tmp 43) rfl rfl w.heap.size #[.int .i64 0, .int .i64 hh, .int .i64 ll, .slice fA fn fq] (by simp [Act.eval]) (by simp [Act.eval]) 52 _ Hbox3.out infoFault rfl (flt_one 0 hh ll rfl) ?_)
   exact bodyPost_ret (results_ttc Tryz.results55 _ _ w.heap.size 52 _ _ _ _ (0, 0) (by simp) (setRow_heap _ _ _ _ _ _ Hbox3.out)) rfl ⟨u5, u6, 0, hh, ll, fA, fn, fq, rfl, fun _ => Hok2.out, below_setRow (bthen Hb1.out (bthen Hbr.out Hb3.out)) (Nat.le_refl _) _⟩
end Go.Proofs.YthhnmpkgleelfaaGreatDoor
