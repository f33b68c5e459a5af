import Derived.Test.YtjnpfpaigedpbaaDoorH2
import Derived.Laws.CopyOwn
import Derived.Great.BuildSlice
namespace Go.Proofs.YtjnpfpaigedpbaaDoor
open Go.RowKit

/-- The call's own row of one-cell values. -/
def OwnV (w : World) (base : Nat) (e : TypeId) (v : Value) (us : List Value) : Prop := w.ownsRow base e 1 v us.length us
structure ElemOk (t e : TypeId) (z : Value) (B : Nat) : Prop where
  ht : Tryd.prog.underlying t = some (.slice e)
  hi : (Tryd.prog.info? e).map (fun i => (i.zero, i.size, i.bytes)) = some (some z, 1, B)
  hz : z.cells.size = 1
theorem el25 : ElemOk 25 3 (.int .i64 0) 8 := ⟨Tryd.underlying25, by kernel_rfl, rfl⟩
theorem el26 : ElemOk 26 21 (.int .i32 0) 4 := ⟨Tryd.underlying26, by kernel_rfl, rfl⟩
theorem OwnV.nil (w : World) (base : Nat) (e : TypeId) : OwnV w base e (.slice none 0 0) [] := ⟨rfl, .inl ⟨rfl, rfl⟩⟩
theorem OwnV.below {w w' : World} {base B : Nat} {e : TypeId} {v : Value} {ys : List Value} (h : OwnV w base e v ys) (hb : Below B w w') (hB : w.heap.size ≤ B) : OwnV w' base e v ys := by
  obtain ⟨h1, ⟨rfl, h0⟩ | ⟨g, cap, cur, rfl, hbg, hg, r⟩⟩ := h
  · exact ⟨h1, .inl ⟨rfl, h0⟩⟩
  · exact ⟨h1, .inr ⟨g, cap, cur, rfl, hbg, (hb.block g (Nat.lt_of_lt_of_le (lt_of_heap hg) hB)).trans hg, r⟩⟩
theorem OwnV.grown {w w' : World} {base : Nat} {e : TypeId} {v : Value} {ys : List Value} {row : Option Nat} (h : OwnV w base e v ys) (hg : w.grownBy w' row) (hr : ∀ g, v.ownBlock = some g → row ≠ some g) : OwnV w' base e v ys := by
  obtain ⟨h1, ⟨rfl, h0⟩ | ⟨g, cap, cur, rfl, hbg, hh, r⟩⟩ := h
  · exact ⟨h1, .inl ⟨rfl, h0⟩⟩
  · exact ⟨h1, .inr ⟨g, cap, cur, rfl, hbg, (hg.block g (lt_of_heap hh) (fun e => hr g rfl e.symm)).trans hh, r⟩⟩
theorem OwnV.blk {w : World} {base : Nat} {e : TypeId} {v : Value} {ys : List Value} (h : OwnV w base e v ys) {g : Nat} (h2 : v.ownBlock = some g) : base ≤ g ∧ g < w.heap.size := by
  obtain ⟨_, ⟨rfl, _⟩ | ⟨g', cap, cur, rfl, hb, hg, _⟩⟩ := h
  · simp [Value.ownBlock] at h2
  · simp [Value.ownBlock] at h2; subst h2; exact ⟨hb, lt_of_heap hg⟩

theorem wpList_append_one {t e : TypeId} {z : Value} {B : Nat} (E : ElemOk t e z B) {ops : Array Oper} {rest : List Oper} {o : Oper} {a : Act} {Q : Exit → Act → World → Prop} {w : World} (hgd : o.guard = none) (s x : Operand)
    (ho : o.op = .call { callee := .builtin .append, args := #[s, x], argTypes := #[t, t] })
    (base : Nat) (v u : Value) (g c : Nat) (us : List Value) (hs : a.eval s = v) (hown : OwnV w base e v us) (hx : a.eval x = .slice (some ⟨g, 0, none⟩) 1 c) (hg : w.cell? ⟨g, 0, none⟩ = some u) (h1 : u.oneCell' = true)
    (hlen : us.length + 1 ≤ maxLen) (hby : (us.length + 1) * B ≤ 140737488355328) (hbase : base ≤ w.heap.size)
    (h : ∀ v' w', OwnV w' base e v' (us ++ [u]) → w.grownBy w' v.ownBlock → (v'.ownBlock = v.ownBlock ∨ v'.ownBlock = some w.heap.size) → wpList Tryd.prog ops Q rest (a.put o.dst v') w') : wpList Tryd.prog ops Q (o :: rest) a w :=
  wpList_plain hgd fun _ hK => by
    obtain ⟨i0, hi, hz0, hz1, hz2⟩ := info_parts E.hi
    obtain ⟨v', w', hrun, h2, h3, _, h5⟩ := run_append_own_at (P := Tryd.prog) w base t o.type e i0 z 1 B E.ht hi hz0 hz1 hz2 E.hz (by decide) v us.length us hown ⟨g, 0, none⟩ 1 c [u]
      (by simp) (fun j y hy => by
        have : j = 0 := by have := (List.getElem?_eq_some_iff.1 hy).1; simp at this; omega
        subst this
        simp at hy; subst hy
        simpa [Addr.add] using hg) (fun y hy => by simp at hy; subst hy; exact h1) hlen hby hbase
    unfold Oper.wp execOp
    simp only [ho, resolve, invoke, builtin, Sem.run_bind, Sem.run_pure, Result.andThen_ok, List.map_toArray, List.map_cons, List.map_nil, hs, hx, hrun]
    refine hK _ _ (h v' w' ?_ h3 h5)
    unfold OwnV
    rw [List.length_append]
    exact h2

def faultV (c : Int) (s : Value) : Value := .agg #[.int .i64 c, .int .i64 0, .int .i64 0, s]
def FaultP (w : World) (e : Ending) (w' : World) : Prop := (∃ c s, e = .returned (faultV c s) ∧ ∃ B n k, s = .slice B n k) ∧ Below w.heap.size w w'
theorem info29 : (Tryd.prog.info? 29).map (·.size) = some 4 := by kernel_rfl
theorem results_ttc {fn : Func} {p u q : Tmp} (h : fn.results = #[.tmp p, .tmp u, .cell q 29]) (tmps : Array Value) (w : World) (g : Nat) (t : TypeId) (c0 c1 c2 c3 : Value) (fr : Nat × Nat)
    (hp : tmps.getD q undef = .pointer (some ⟨g, 0, none⟩)) (hg : w.heap[g]? = some (.cells #[c0, c1, c2, c3] t fr)) :
    (results fn tmps).run Tryd.prog w = .ok (.tuple #[tmps.getD p undef, tmps.getD u undef, .agg #[c0, c1, c2, c3]]) w := by
  have hp' : tmps[q]?.getD undef = .pointer (some ⟨g, 0, none⟩) := by simpa using hp
  have hl := run_loadVar_row (P := Tryd.prog) w g t 29 #[c0, c1, c2, c3] fr _ hg Tryd.underlying29 rfl info29
  simp [results, h, hp', asAddr, hl]
theorem cells4_one (c : Int) (s : Value) (h : s.oneCell' = true) : (#[.int .i64 c, .int .i64 0, .int .i64 0, s] : Array Value).all (·.oneCell') = true := by
  simp [h, show ∀ n, (Value.int .i64 n).oneCell' = true from fun _ => rfl]
theorem setRow_grown (w : World) (g : Nat) (cs : Array Value) : w.grownBy (w.setRow g cs) (some g) :=
  ⟨rfl, rfl, rfl, by simp, fun k _ hk => setRow_other w g k cs (fun e => hk (by simp [e]))⟩
theorem placed_any (c p : Int) (w : World) : Calls Tryd.prog 28 #[.int .i64 c, .int .i64 p] w fun e w' => FaultP w e w' := by
  go_enter Tryd.func28, Tryd.ntmps28
  go_wp2
  refine bodyPost_ret (results_cell_row Tryd.results28 _ _ w.heap.size 29 #[.int .i64 c, .int .i64 0, .int .i64 0, .slice (some ⟨w.heap.size + 1, 0, none⟩) 1 1] (0, 0) _ (by simp) ?_ Tryd.underlying29 rfl info29) rfl ⟨⟨_, _, rfl, _, _, _, rfl⟩, ?_⟩
  · exact (Below.heap_alloc _ _ _ (by simp)).trans (heap_alloc_new w _)
  · exact ((Below.refl _ _).alloc (Nat.le_refl _) _).alloc (by simp) _
theorem bare_any (c : Int) (w : World) : Calls Tryd.prog 29 #[.int .i64 c] w fun e w' => FaultP w e w' := by
  go_enter Tryd.func29, Tryd.ntmps29
  go_wp2
  refine bodyPost_ret (results_cell_row Tryd.results29 _ _ w.heap.size 29 #[.int .i64 c, .int .i64 0, .int .i64 0, .slice none 0 0] (0, 0) _ (by simp) ?_ Tryd.underlying29 rfl info29) rfl ⟨⟨_, _, rfl, _, _, _, rfl⟩, ?_⟩
  · exact heap_alloc_new w _
  · exact alloc_below _ _

/-- wicketref2.Chars: the places and the characters, in rows of the call's own. -/
def posV (x : Nat × Nat) : Value := .int .i64 (x.1 : Int)
def chV (x : Nat × Nat) : Value := .int .i32 (x.2 : Int)
def CharsP (xs : List UInt8) (w : World) (e : Ending) (w' : World) : Prop :=
  ∃ v1 v2 c s, e = .returned (.tuple #[v1, v2, faultV c s]) ∧ (∃ B n k, s = .slice B n k) ∧ OwnV w' (w.heap.size + 1) 3 v1 ((each xs).map posV) ∧ OwnV w' (w.heap.size + 1) 21 v2 ((each xs).map chV) ∧ (∀ g, v1.ownBlock = some g → v2.ownBlock ≠ some g) ∧ Below w.heap.size w w'
def ChRel (xs : List UInt8) (w0 : World) (s5 s6 s7 s8 s9 s10 : Value) (wr : World) : Prop :=
  ∃ (k : Nat) (pre : List (Nat × Nat)) (f : Nat), s7 = .int .i64 k ∧ each xs = pre ++ eachF xs f k ∧ xs.length < f + k ∧ k ≤ xs.length ∧ OwnV wr w0.heap.size 3 s5 (pre.map posV) ∧ OwnV wr w0.heap.size 21 s6 (pre.map chV) ∧ (∀ g, s5.ownBlock = some g → s6.ownBlock ≠ some g) ∧ Below w0.heap.size w0 wr
theorem chars_end {xs : List UInt8} {w w0 wr w3 : World} {u5 u6 : Value} {pre : List (Nat × Nat)} (hb1 : Below w.heap.size w w0) (hsz : w0.heap.size = w.heap.size + 1) (hbr : Below w0.heap.size w0 wr) (h3 : Below wr.heap.size wr w3)
    (h5 : OwnV wr w0.heap.size 3 u5 (pre.map posV)) (h6 : OwnV wr w0.heap.size 21 u6 (pre.map chV)) (hne : ∀ g, u5.ownBlock = some g → u6.ownBlock ≠ some g) (he : each xs = pre) (cs : Array Value) :
    OwnV (w3.setRow w.heap.size cs) (w.heap.size + 1) 3 u5 ((each xs).map posV) ∧ OwnV (w3.setRow w.heap.size cs) (w.heap.size + 1) 21 u6 ((each xs).map chV) ∧ (∀ g, u5.ownBlock = some g → u6.ownBlock ≠ some g) ∧ Below w.heap.size w (w3.setRow w.heap.size cs) := by
  rw [he, ← hsz]
  refine ⟨(h5.below h3 (Nat.le_refl _)).grown (setRow_grown _ _ _) (fun g h e => ?_), (h6.below h3 (Nat.le_refl _)).grown (setRow_grown _ _ _) (fun g h e => ?_), hne, below_setRow ?_ (Nat.le_refl _) _⟩
  · have := (h5.blk h).1; injection e with e; omega
  · have := (h6.blk h).1; injection e with e; omega
  · exact bthen hb1 (bthen hbr h3)
theorem eachF_end (xs : List UInt8) (f : Nat) : eachF xs f xs.length = [] := eachF_rest (by rw [List.drop_eq_nil_of_le (Nat.le_refl _)]; simp [dec])
set_option maxRecDepth 100000 in
set_option maxHeartbeats 2000000 in
theorem refchars_any {w : World} {v : Value} {xs : List UInt8} (hb : Bs w v xs) (hlen : xs.length ≤ 5000) : Calls Tryd.prog 12 #[v] w fun e w' => CharsP xs w e w' := by
  obtain ⟨hm, A, cap, rfl, hcap, hcell⟩ := id hb
  have hb1 := alloc_below w (.cells #[.int .i64 0, .int .i64 0, .int .i64 0, .slice none 0 0] 29)
  have hbox := heap_alloc_new w (.cells #[.int .i64 0, .int .i64 0, .int .i64 0, .slice none 0 0] 29)
  have hsz1 : (w.alloc (.cells #[.int .i64 0, .int .i64 0, .int .i64 0, .slice none 0 0] 29)).heap.size = w.heap.size + 1 := by simp
  have Hb := Lib.hid (hb.below hb1)
  have Hb1 := Lib.hid hb1
  have Hbox := Lib.hid hbox
  have Hsz := Lib.hid hsz1
  clear hb hcell hb1 hbox hsz1
  go_enter Tryd.func12, Tryd.ntmps12
  go_wp2_with fail
  generalize (w.alloc (.cells #[.int .i64 0, .int .i64 0, .int .i64 0, .slice none 0 0] 29)) = w0 at *
  go_loopw [5, 6, 7, 8, 9, 10] (ChRel xs w0) (fun _ _ i _ _ _ _ => xs.length - (intOf i).toNat)
  case atStart => exact ⟨0, [], xs.length + 1, rfl, rfl, by omega, by omega, OwnV.nil _ _ _, OwnV.nil _ _ _, fun _ h => by simp [Value.ownBlock] at h, Below.refl _ _⟩
  case round =>
    obtain ⟨k, pre, f, rfl, he, hf, hk, ho5, ho6, hne, hbr⟩ := hrel
    have He := Lib.hid he
    have Ho5 := Lib.hid ho5
    have Ho6 := Lib.hid ho6
    have Hne := Lib.hid hne
    have Hbr := Lib.hid hbr
    clear he ho5 ho6 hne hbr
    have Hbw := Lib.hid (Hb.out.below Hbr.out)
    have Hboxr := Lib.hid ((Hbr.out.block w.heap.size (by rw [Hsz.out]; omega)).trans Hbox.out)
    by_cases hlt : k < xs.length
    · obtain ⟨-, A', c', e', -, hcl⟩ := id Hbw.out
      injection e' with e1 e2 e3
      subst e1 e3
      obtain ⟨b0, o0, rfl, -⟩ := hcl (by omega)
      have hck : ¬ cap = k := by omega
      have hcut := Lib.hid (Hbw.out.cut hk)
      have hle := dec_drop_le xs k hk
      clear hcl e2
      go_wp2_with fail
      refine (refdec_any hcut.out).mono ?_
      rintro e w2 ⟨⟨code, rfl, hcode⟩, hb2⟩
      have Hb2 := Lib.hid hb2
      clear hb2
      by_cases hz : (dec (xs.drop k)).2.2 = 0
      · have hc0 : code = 0 := hcode.2 hz
        subst hc0
        clear hcode
        have hp := dec_pos hz
        obtain ⟨f', rfl⟩ : ∃ f', f = f' + 1 := ⟨f - 1, by omega⟩
        have He' := Lib.hid (show each xs = (pre ++ [(k, (dec (xs.drop k)).1)]) ++ eachF xs f' (k + (dec (xs.drop k)).2.1) by rw [He.out, eachF_more hz]; simp)
        have Hlp := Lib.hid (show pre.length + 1 ≤ 5000 by have h1 := congrArg List.length He'.out; have h2 := each_len xs; simp at h1; omega)
        generalize (dec (xs.drop k)).1 = cc at *
        generalize (dec (xs.drop k)).2.1 = nn at *
        clear hz
        have hsz0 : w0.heap.size ≤ w2.heap.size := Nat.le_trans Hbr.out.size Hb2.out.size
        have Hlm := Lib.hid (show ∀ (h : (Nat × Nat) → Value), (pre.map h).length + 1 ≤ maxLen ∧ ((pre.map h).length + 1) * 8 ≤ 140737488355328 ∧ ((pre.map h).length + 1) * 4 ≤ 140737488355328 from fun h => by have := Hlp.out; rw [List.length_map]; unfold maxLen; omega)
        go_wp2_with (first
          | (at_builtin; refine wpList_append_one el25 rfl (.tmp 30) (.tmp 32) rfl w0.heap.size u5 (.int .i64 (k : Int)) w2.heap.size 1 (pre.map posV) (by simp [Act.eval]) ((Ho5.out.below Hb2.out (Nat.le_refl _)).below (alloc_below _ _) (Nat.le_refl _)) (by simp [Act.eval]) (Bx.new w2 3 (.int .i64 (k : Int))).cell rfl (Hlm.out posV).1 (Hlm.out posV).2.1 (Nat.le_trans hsz0 (by simp)) ?_; intro v5 w5 h1 h2 h3; have Hp5 := Lib.hid h1; have Hg5 := Lib.hid h2; have Hv5 := Lib.hid h3; clear h1 h2 h3)
          | (at_builtin; refine wpList_append_one el26 rfl (.tmp 34) (.tmp 36) rfl w0.heap.size u6 (.int .i32 (cc : Int)) w5.heap.size 1 (pre.map chV) (by simp [Act.eval]) ((((Ho6.out.below Hb2.out (Nat.le_refl _)).below (alloc_below _ _) (Nat.le_refl _)).grown Hg5.out (fun g h1 h2 => Hne.out g h2 h1)).below (alloc_below _ _) (Nat.le_refl _)) (by simp [Act.eval]) (Bx.new w5 21 (.int .i32 (cc : Int))).cell rfl (Hlm.out chV).1 (Hlm.out chV).2.2 (Nat.le_trans hsz0 (Nat.le_trans (by simp) (Nat.le_trans Hg5.out.size (by simp)))) ?_; intro v6 w6 h1 h2 h3; have Hp6 := Lib.hid h1; have Hg6 := Lib.hid h2; have Hv6 := Lib.hid h3; clear h1 h2 h3))
        have hb4 : Below w0.heap.size w0 w5 := (((Hbr.out.trans (Hb2.out.mono Hbr.out.size)).alloc hsz0 _)).grown Hg5.out (Nat.le_trans hsz0 (by simp)) (fun g e => (Ho5.out.blk e).1)
        have hb5 : Below w0.heap.size w0 w6 := (hb4.alloc hb4.size _).grown Hg6.out (Nat.le_trans hb4.size (by simp)) (fun g e => (Ho6.out.blk e).1)
        have hs5 := Hg5.out.size
        have hs6 := Hb2.out.size
        have ho5b := fun g (e : u5.ownBlock = some g) => (Ho5.out.blk e).2
        have ho6b := fun g (e : u6.ownBlock = some g) => (Ho6.out.blk e).2
        have hsa : (w2.alloc (.cells #[.int .i64 (k : Int)] 3)).heap.size = w2.heap.size + 1 := by simp
        have hsb : (w5.alloc (.cells #[.int .i32 (cc : Int)] 21)).heap.size = w5.heap.size + 1 := by simp
        rw [hsa] at hs5
        refine ⟨⟨k + nn, pre ++ [(k, cc)], f', by go_num, He'.out, by omega, by omega, ?_, ?_, ?_, hb5⟩, by simp [intOf]; omega⟩
        · rw [List.map_append]
          refine (Hp5.out.below (alloc_below _ _) (Nat.le_refl _)).grown Hg6.out (fun g h1 h2 => ?_)
          rcases Hv5.out with h | h
          · exact Hne.out g (by rw [← h]; exact h1) h2
          · rw [hsa] at h; have := ho6b g h2; rw [h1] at h; injection h with h; omega
        · rw [List.map_append]
          exact Hp6.out
        · intro g h1 h2
          rcases Hv5.out with h | h
          · rcases Hv6.out with h' | h'
            · exact Hne.out g (by rw [← h]; exact h1) (by rw [← h']; exact h2)
            · rw [hsb, h2] at h'; rw [h1] at h; have := ho5b g h.symm; injection h' with h'; omega
          · rw [hsa, h1] at h
            injection h with h
            rcases Hv6.out with h' | h'
            · rw [h2] at h'; have := ho6b g h'.symm; omega
            · rw [hsb, h2] at h'; injection h' with h'; omega
      · have hc0 : (code == 0) = false := beq_eq_false_iff_ne.2 (fun h => hz (hcode.1 h))
        have He' := Lib.hid (show each xs = pre by rw [He.out, eachF_rest hz, List.append_nil])
        clear hcode
        go_wp2_with fail
        refine (placed_any code k w2).mono ?_
        rintro e w3 ⟨⟨pc, ps, rfl, hsh⟩, hb3⟩
        have hps : ps.oneCell' = true := by obtain ⟨B, n', k', rfl⟩ := hsh; rfl
        have Hsh := Lib.hid hsh
        clear hsh
        rw [show faultV pc ps = .agg #[.int .i64 pc, .int .i64 0, .int .i64 0, ps] from rfl]
        have Hb3 := Lib.hid hb3
        have Hbox3 := Lib.hid (((bthen Hb2.out hb3).block w.heap.size (lt_of_heap Hboxr.out)).trans Hboxr.out)
        clear hb3
        go_wp2_with (refine wpList_store_rowTo rfl 29 (.tmp 4) (.tmp 29) rfl rfl w.heap.size #[.int .i64 pc, .int .i64 0, .int .i64 0, ps] (by simp [Act.eval]) (by simp [Act.eval]) 29 _ Hbox3.out info29 rfl (cells4_one pc ps hps) ?_)
        exact bodyPost_ret (results_ttc Tryd.results12 _ _ w.heap.size 29 _ _ _ _ (0, 0) (by simp) (setRow_heap _ _ _ _ _ _ Hbox3.out)) rfl ⟨u5, u6, pc, ps, rfl, Hsh.out, chars_end Hb1.out Hsz.out Hbr.out (bthen Hb2.out Hb3.out) Ho5.out Ho6.out Hne.out He'.out _⟩
    · obtain hkn : k = xs.length := by omega
      subst hkn
      go_wp2_with fail
      refine (bare_any 0 wr).mono ?_
      rintro e w3 ⟨⟨pc, ps, rfl, hsh⟩, hb3⟩
      have hps : ps.oneCell' = true := by obtain ⟨B, n', k', rfl⟩ := hsh; rfl
      have Hsh := Lib.hid hsh
      clear hsh
      rw [show faultV pc ps = .agg #[.int .i64 pc, .int .i64 0, .int .i64 0, ps] from rfl]
      have Hb3 := Lib.hid hb3
      have Hbox3 := Lib.hid ((hb3.block w.heap.size (lt_of_heap Hboxr.out)).trans Hboxr.out)
      clear hb3
      go_wp2_with (refine wpList_store_rowTo rfl 29 (.tmp 4) (.tmp 43) rfl rfl w.heap.size #[.int .i64 pc, .int .i64 0, .int .i64 0, ps] (by simp [Act.eval]) (by simp [Act.eval]) 29 _ Hbox3.out info29 rfl (cells4_one pc ps hps) ?_)
      exact bodyPost_ret (results_ttc Tryd.results12 _ _ w.heap.size 29 _ _ _ _ (0, 0) (by simp) (setRow_heap _ _ _ _ _ _ Hbox3.out)) rfl ⟨u5, u6, pc, ps, rfl, Hsh.out, chars_end Hb1.out Hsz.out Hbr.out Hb3.out Ho5.out Ho6.out Hne.out (by rw [He.out, eachF_end, List.append_nil]) _⟩
end Go.Proofs.YtjnpfpaigedpbaaDoor
