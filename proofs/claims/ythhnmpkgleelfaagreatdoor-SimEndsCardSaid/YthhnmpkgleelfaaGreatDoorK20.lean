import Derived.Test.YthhnmpkgleelfaaGreatDoorK19
import Derived.Test.YthhnmpkgleelfaaGreatDoorK5
set_option linter.unusedVariables false
set_option linter.unusedSimpArgs false
namespace Go.Proofs.YthhnmpkgleelfaaGreatDoor
open Go.RowKit
theorem wpList_append_slo {t e : TypeId} {z : Value} {k B : Nat} (E : ElemK t e z k B) {ops : Array Oper} {rest : List Oper} {o : Oper} {a : Act} {Q : Exit → Act → World → Prop} {w : World} (hgd : o.guard = none) (s x : Operand)
  (ho : o.op = .call { callee := .builtin .append, args := #[s, x], argTypes := #[t, t] })
  (base : Nat) (v : Value) (n : Nat) (A : Option Addr) (c m : Nat) (us news : List Value) (hs : a.eval s = v) (hown : w.ownsRow base e k v n us) (hx : a.eval x = .slice A m c) (hsl : SlK k w (.slice A m c) m news)
  (h1 : ∀ u ∈ news, u.oneCell' = true) (hlen : n + m ≤ maxLen) (hby : (n + m) * B ≤ 140737488355328) (hbase : base ≤ w.heap.size)
  (h : ∀ v' w', w'.ownsRow base e k v' (n + m) (us ++ news) → w.grownBy w' v.ownBlock → (v'.ownBlock = v.ownBlock ∨ v'.ownBlock = some w.heap.size) → wpList Tryz.prog ops Q rest (a.put o.dst v') w') : wpList Tryz.prog ops Q (o :: rest) a w := by
 cases A with
 | some ad => exact wpList_append_sl E hgd s x ho base v n ad c m us news hs hown hx hsl h1 hlen hby hbase h
 | none =>
  have hm : m = 0 := by
   obtain ⟨_, _, A, c', e', _, hA⟩ := hsl
   rcases Nat.eq_zero_or_pos m with h0 | h0
   ·exact h0
   ·obtain ⟨g, o, e, _⟩ := hA h0
    exact absurd ((Value.slice.inj e').1.trans e) (fun h => by cases h)
  subst hm
  have hn : news = [] := List.eq_nil_of_length_eq_zero (by have := hsl.1; simpa using this)
  subst hn
  refine wpList_append_none E hgd s x ho base v n us hs hown c hx ?_
  refine h v w ?_ (World.grownBy.refl w _) (.inl rfl)
  rw [Nat.add_zero, List.append_nil]; exact hown
def OkX (ys : List Ex) : Prop := ∀ x ∈ ys, 0 ≤ x.a ∧ x.a ≤ ys.length ∧ 0 ≤ x.b ∧ x.b ≤ ys.length
theorem OkX.nil : OkX [] := by simp [OkX]
theorem OkX.flat (r : Rx) : OkX (r.flat 0) := by
 intro x hx
 have := flat_bd r 0 x hx
 rw [r.flat_len]
 simpa using this
theorem shift_bd {x : Ex} {d n : Int} (h : 0 ≤ x.a ∧ x.a ≤ n ∧ 0 ≤ x.b ∧ x.b ≤ n) (hd : 0 ≤ d) : 0 ≤ (x.shift d).a ∧ (x.shift d).a ≤ n + d ∧ 0 ≤ (x.shift d).b ∧ (x.shift d).b ≤ n + d := by
 unfold Ex.shift
 split
 ·simp only; omega
 ·split
  ·simp only; omega
  ·omega
theorem OkX.two {kd : Int} {xs ys : List Ex} (h : OkX xs) (k : OkX ys) : OkX (twoX kd xs ys) := by
 intro x hx
 have hl : ((twoX kd xs ys).length : Int) = 1 + xs.length + ys.length := by simp [twoX]; omega
 rw [hl]
 unfold twoX at hx
 rcases List.mem_cons.1 hx with rfl | hx
 ·simp only; omega
 ·rcases List.mem_append.1 hx with hx | hx
  ·obtain ⟨y, hy, rfl⟩ := List.mem_map.1 hx
   have := shift_bd (d := 1) (h y hy) (by omega)
   omega
  ·obtain ⟨y, hy, rfl⟩ := List.mem_map.1 hx
   have := shift_bd (d := 1 + xs.length) (k y hy) (by omega)
   omega
theorem OkX.many {xs : List Ex} {mn mx : Int} (h : OkX xs) : OkX (manyX xs mn mx) := by
 intro x hx
 have hl : ((manyX xs mn mx).length : Int) = 1 + xs.length := by simp [manyX]; omega
 rw [hl]
 unfold manyX at hx
 rcases List.mem_cons.1 hx with rfl | hx
 ·simp only; omega
 ·obtain ⟨y, hy, rfl⟩ := List.mem_map.1 hx
  have := shift_bd (d := 1) (h y hy) (by omega)
  omega
theorem OkX.bd {ys : List Ex} (h : OkX ys) (hl : ys.length ≤ 1000000) : ∀ x ∈ ys, 0 ≤ x.a ∧ x.a ≤ 1000000 ∧ 0 ≤ x.b ∧ x.b ≤ 1000000 := by
 intro x hx
 have := h x hx
 omega
set_option maxRecDepth 100000 in
set_option maxHeartbeats 4000000 in
theorem two_all {w : World} {v u : Value} {xs ys : List Ex} (kd : Int) (h : XRow w 0 v xs) (k : XRow w 0 u ys) (hbd : ∀ x ∈ xs, 0 ≤ x.a ∧ x.a ≤ 1000000 ∧ 0 ≤ x.b ∧ x.b ≤ 1000000) (kbd : ∀ x ∈ ys, 0 ≤ x.a ∧ x.a ≤ 1000000 ∧ 0 ≤ x.b ∧ x.b ≤ 1000000)
  (hl : xs.length ≤ 100000) (kl : ys.length ≤ 100000) : Calls Tryz.prog 101 #[.int .i64 kd, v, u] w fun e w' => RowP w (twoX kd xs ys) e w' := by
 have H := Lib.hid h
 have K := Lib.hid k
 have Hbd := Lib.hid hbd
 have Kbd := Lib.hid kbd
 obtain ⟨Av, qv, rfl, -⟩ := h.form
 clear h hbd k kbd
 go_enter Tryz.func101, Tryz.ntmps101
 go_wp2_with fail
 have hal := alloc_below w (.cells #[.int .i64 kd, .int .i32 0, .string noB, .int .i64 1, .int .i64 (1 + xs.length), .int .i64 0, .int .i64 0] 60)
 have hown : XRow (w.alloc (.cells #[.int .i64 kd, .int .i32 0, .string noB, .int .i64 1, .int .i64 (1 + xs.length), .int .i64 0, .int .i64 0] 60)) w.heap.size (.slice (some ⟨w.heap.size, 0, none⟩) 1 1) [⟨kd, 0, noB, 1, 1 + xs.length, 0, 0⟩] := row_lit (heap_alloc_new w _) (Nat.le_refl _)
 have Hal := Lib.hid hal
 have Hown := Lib.hid hown
 have hsz := hal.size
 clear hal hown
 (with_reducible refine (moved_any (H.out.below Hal.out) Hbd.out (d := 1) (by omega) (by omega)).mono ?_)
 rintro e w1 ⟨A, n, q, rfl, hb1, hx1⟩
 have Hb1 := Lib.hid (Hal.out.trans (hb1.mono hsz))
 have Ho1 := Lib.hid (Hown.out.below hb1)
 have K1 := Lib.hid ((K.out.below Hal.out).below hb1)
 have hlm : (xs.map (Ex.shift 1)).length = xs.length := List.length_map _
 have hn : n = xs.length := by obtain ⟨_, _, e, _⟩ := hx1.form; have e := (Value.slice.inj e).2.1; rw [e, hlm]
 subst hn
 obtain ⟨A', q', e, -, -, hA⟩ := hx1.form
 clear e hA
 have hsl := hx1.sl
 rw [hlm] at hsl
 have Hsl := Lib.hid hsl
 have Hlm := Lib.hid hlm
 have hs1 := Hb1.out.size
 clear hb1 hx1 hlm hsl
 go_wp2_with (at_builtin; refine wpList_append_slo elEx rfl (.tmp 14) (.tmp 16) rfl w.heap.size (.slice (some ⟨w.heap.size, 0, none⟩) 1 1) 1 A q xs.length _ ((xs.map (Ex.shift 1)).flatMap exC) (by simp [Act.eval]) Ho1.out (by simp [Act.eval]) Hsl.out (exC_one _) (by unfold maxLen; omega) (by omega) hs1 ?_; intro v' w2 h1 h2 h3; have Hp := Lib.hid h1; have Hg := Lib.hid h2; clear h1 h2 h3)
 have hb2 := own_below Hb1.out Ho1.out hs1 Hg.out
 have hk2 : XRow w2 0 u ys := by
  refine World.ownsRow.kept K1.out Hg.out ?_
  cases hb : u.ownBlock with
  | none => exact .inl rfl
  | some g' =>
   refine .inr (fun e' => ?_)
   injection e' with e'
   have hg' := ownsRow_block K.out hb
   obtain ⟨_, cur, hc⟩ := hg'
   have h9 := lt_of_heap hc
   have e2 : g' = w.heap.size := e'
   omega
 have Hb2 := Lib.hid hb2
 have K2 := Lib.hid hk2
 clear hb2 hk2
 (with_reducible refine (moved_any K2.out Kbd.out (d := 1 + xs.length) (by omega) (by omega)).mono ?_)
 rintro e w3 ⟨A, n, q3, rfl, hb3, hx3⟩
 have Hb3 := Lib.hid (Hb2.out.trans (hb3.mono Hb2.out.size))
 have Ho3 := Lib.hid (ownsRow_below Hp.out hb3 (Nat.le_refl _))
 have hlm : (ys.map (Ex.shift (1 + xs.length))).length = ys.length := List.length_map _
 have hn : n = ys.length := by obtain ⟨_, _, e, _⟩ := hx3.form; have e := (Value.slice.inj e).2.1; rw [e, hlm]
 subst hn
 obtain ⟨A', q', e, -, -, hA⟩ := hx3.form
 clear e hA
 have hsl := hx3.sl
 rw [hlm] at hsl
 have Hsl3 := Lib.hid hsl
 have Hlm3 := Lib.hid hlm
 have hs3 := Hb3.out.size
 clear hb3 hx3 hlm hsl
 go_wp2_with (at_builtin; refine wpList_append_slo elEx rfl (.tmp 18) (.tmp 23) rfl w.heap.size _ (1 + xs.length) A q3 ys.length _ ((ys.map (Ex.shift (1 + xs.length))).flatMap exC) (by simp [Act.eval]) Ho3.out (by simp [Act.eval]) Hsl3.out (exC_one _) (by unfold maxLen; omega) (by omega) hs3 ?_; intro v5 w5 h1 h2 h3; have Hp5 := Lib.hid h1; have Hg5 := Lib.hid h2; clear h1 h2 h3)
 obtain ⟨A5, q5, rfl, -, -, -⟩ := ownsRow_slice Hp5.out
 go_ret
 refine ⟨A5, _, q5, rfl, own_below Hb3.out Ho3.out hs3 Hg5.out, ?_⟩
 have := XRow.app (xs := ⟨kd, 0, noB, 1, 1 + xs.length, 0, 0⟩ :: xs.map (Ex.shift 1)) (ys := ys.map (Ex.shift (1 + xs.length))) Hp5.out (by rw [Hlm3.out, List.length_cons, Hlm.out]; omega) rfl
 exact this
def ElP (w : World) (u : Value) (ys : List Ex) : Prop := XRow w 0 u ys ∧ OkX ys
def XRows (w : World) (base : Nat) (v : Value) (us : List Value) (Ls : List (List Ex)) : Prop := w.ownsRow base 26 1 v us.length us ∧ All2 (ElP w) us Ls
theorem ElP.below {w w' : World} {u : Value} {ys : List Ex} (h : ElP w u ys) (hb : Below w.heap.size w w') : ElP w' u ys := ⟨h.1.below hb, h.2⟩
theorem XRows.below {w w' : World} {base : Nat} {v : Value} {us : List Value} {Ls : List (List Ex)} (h : XRows w base v us Ls) (hb : Below w.heap.size w w') : XRows w' base v us Ls := ⟨ownsRow_below h.1 hb (Nat.le_refl _), h.2.mono fun _ _ x => x.below hb⟩
theorem XRows.low {w : World} {base b : Nat} {v : Value} {us : List Value} {Ls : List (List Ex)} (h : XRows w base v us Ls) (hb : b ≤ base) : XRows w b v us Ls := ⟨ownsRow_low h.1 hb, h.2⟩
def totX (l : List (List Ex)) : Nat := (l.map fun r => r.length + 1).sum
theorem totX_cons (x : List Ex) (l : List (List Ex)) : totX (x :: l) = x.length + 1 + totX l := by simp [totX]
theorem totX_append (l m : List (List Ex)) : totX (l ++ m) = totX l + totX m := by simp [totX]
theorem totX_drop (l : List (List Ex)) (j : Nat) : totX (l.drop j) ≤ totX l := by
 conv => rhs; rw [← List.take_append_drop j l, totX_append]
 omega
def grpX (kd : Int) : List (List Ex) → List Ex
 | [] => []
 | [x] => x
 | x :: l => twoX kd x (grpX kd l)
theorem grpX_cons (kd : Int) (x : List Ex) {l : List (List Ex)} (h : l ≠ []) : grpX kd (x :: l) = twoX kd x (grpX kd l) := by
 cases l with
 | nil => exact absurd rfl h
 | cons y l => rfl
theorem grpX_len (kd : Int) : ∀ (l : List (List Ex)), l ≠ [] → (grpX kd l).length + 1 = totX l
 | [], h => absurd rfl h
 | [x], _ => by simp [grpX, totX]
 | x :: y :: l, _ => by
  rw [grpX_cons kd x (by simp), totX_cons]
  have := grpX_len kd (y :: l) (by simp)
  simp only [twoX, List.length_cons, List.length_append, List.length_map] at this ⊢
  omega
theorem grpX_ok (kd : Int) : ∀ (l : List (List Ex)), (∀ x ∈ l, OkX x) → OkX (grpX kd l)
 | [], _ => OkX.nil
 | [x], h => h x (by simp)
 | x :: y :: l, h => by
  rw [grpX_cons kd x (by simp)]
  exact OkX.two (h x (by simp)) (grpX_ok kd (y :: l) (fun z hz => h z (List.mem_cons_of_mem _ hz)))
theorem grpX_flat (kd : Int) (op : Rx → Rx → Rx) (hop : ∀ a b, twoX kd (a.flat 0) (b.flat 0) = (op a b).flat 0) : ∀ (l : List Rx), l ≠ [] → grpX kd (l.map fun r => r.flat 0) = (joinR op l).flat 0
 | [], h => absurd rfl h
 | [x], _ => rfl
 | x :: y :: l, _ => by
  rw [List.map_cons, grpX_cons kd _ (by simp), grpX_flat kd op hop (y :: l) (by simp), joinR_cons op x (by simp), hop]
def AnyRow (w : World) (xs : List Ex) (e : Ending) (w' : World) : Prop := ∃ (A : Option Addr) (q : Nat), e = .returned (.slice A xs.length q) ∧ Below w.heap.size w w' ∧ XRow w' 0 (.slice A xs.length q) xs
def GrRel (w : World) (kd : Int) (Ls : List (List Ex)) (s5 s6 : Value) (wr : World) : Prop := ∃ j : Nat, j < Ls.length ∧ s6 = .int .i64 ((j : Int) - 1) ∧ Below w.heap.size w wr ∧ XRow wr 0 s5 (grpX kd (Ls.drop j))
theorem drop_at {α : Type} {l : List α} {i : Nat} {a : α} (h : l[i]? = some a) : l.drop i = a :: l.drop (i + 1) := by
 obtain ⟨hh, e⟩ := List.getElem?_eq_some_iff.1 h
 rw [List.drop_eq_getElem_cons hh, e]
set_option maxHeartbeats 2000000 in
set_option maxRecDepth 100000 in
theorem grouped_any {w : World} {v : Value} {us : List Value} {Ls : List (List Ex)} (kd : Int) (h : XRows w 0 v us Ls) (h0 : Ls ≠ []) (hl : totX Ls ≤ 100000) : Calls Tryz.prog 88 #[.int .i64 kd, v] w fun e w' => AnyRow w (grpX kd Ls) e w' := by
 obtain ⟨A, q, rfl, -, hm, hA⟩ := ownsRow_slice h.1
 have hlen : us.length = Ls.length := h.2.1
 have hpos : 0 < Ls.length := List.length_pos_iff.2 h0
 obtain ⟨g, rfl⟩ := hA (by omega)
 have H := Lib.hid h
 have Hcell : Hid (∀ (j : Nat) (ys : List Ex), Ls[j]? = some ys → ∃ u : Value, w.cell? ⟨g, j, none⟩ = some u ∧ ElP w u ys) := Lib.hid (fun j ys hy => by
  obtain ⟨u, hu, hr⟩ := h.2.get hy
  refine ⟨u, ?_, hr⟩
  rw [ownsRow_cell h.1 rfl j (by have := (List.getElem?_eq_some_iff.1 hu).1; omega), hu])
 unfold maxLen at hm
 rw [hlen] at hm ⊢
 clear h hA
 obtain ⟨yl, hyl⟩ : ∃ y, Ls[Ls.length - 1]? = some y := ⟨_, List.getElem?_eq_getElem (by omega)⟩
 obtain ⟨ul, hul, hrl⟩ := Hcell.out _ _ hyl
 have hd := drop_at hyl
 rw [show Ls.length - 1 + 1 = Ls.length by omega, List.drop_length] at hd
 have Hd := Lib.hid hd
 have Hrl := Lib.hid hrl
 clear hyl hd hrl
 go_enter Tryz.func88, Tryz.ntmps88
 have hw1 : IntKind.i64.wrap ((Ls.length : Int) - 1) = (Ls.length : Int) - 1 := IntWalk.i64_in _ (by omega)
 have hw2 : ((Ls.length : Int) - 1).toNat = Ls.length - 1 := by omega
 go_wp2_with fail
 go_loopw [5, 6] (fun s5 s6 wr => GrRel w kd Ls s5 s6 wr) (fun _ v _ => (intOf v + 1).toNat)
 case atStart => exact ⟨Ls.length - 1, by omega, by go_num, Below.refl _ _, by rw [Hd.out]; exact Hrl.out.1⟩
 case round =>
  obtain ⟨j, hj, rfl, hb, hx⟩ := hrel
  have Hb := Lib.hid hb
  have hbs := hb.size
  by_cases hj0 : j = 0
  ·subst hj0
   rw [List.drop_zero] at hx
   obtain ⟨A5, q5, rfl, -, -, -⟩ := hx.form
   have Hx := Lib.hid hx
   clear hb hx
   go_wp2_with fail
   go_ret
   exact ⟨A5, q5, rfl, Hb.out, Hx.out⟩
  ·obtain ⟨i, rfl⟩ : ∃ i, j = i + 1 := ⟨j - 1, by omega⟩
   obtain ⟨y, hy⟩ : ∃ y, Ls[i]? = some y := ⟨_, List.getElem?_eq_getElem (by omega)⟩
   obtain ⟨u, hu, hr⟩ := Hcell.out _ _ hy
   have hu := cell_later hb hu
   have hne : Ls.drop (i + 1) ≠ [] := by intro e; have := congrArg List.length e; simp at this; omega
   have hl1 := grpX_len kd _ hne
   have hl2 := totX_drop Ls (i + 1)
   have hl3 := totX_drop Ls i
   rw [drop_at hy, totX_cons] at hl3
   have hok : OkX (grpX kd (Ls.drop (i + 1))) := grpX_ok kd _ (fun x hx => by
    obtain ⟨k, hk⟩ := List.getElem?_of_mem (List.mem_of_mem_drop hx)
    obtain ⟨_, _, hr⟩ := Hcell.out _ _ hk
    exact hr.2)
   have Hok := Lib.hid hok
   have Hx := Lib.hid hx
   have Hr1 := Lib.hid (hr.below hb).1
   have Hr2 := Lib.hid ((hr.below hb).2.bd (by omega))
   have Hok2 := Lib.hid (hok.bd (by omega))
   have Hst := Lib.hid (show grpX kd (Ls.drop i) = twoX kd y (grpX kd (Ls.drop (i + 1))) by rw [drop_at hy, grpX_cons kd y hne])
   generalize hG : grpX kd (Ls.drop (i + 1)) = G at *
   have hji : ((i + 1 : Nat) : Int) - 1 = i := by omega
   have hil : (i : Int) < (Ls.length : Int) := by omega
   clear hb hx hy hr hok hne hG
   rw [hji]
   go_wp2_with fail
   (with_reducible refine (two_all kd Hr1.out Hx.out Hr2.out Hok2.out (by omega) (by omega)).mono ?_)
   rintro e w2 ⟨A2, n2, q2, rfl, hb2, hx2⟩
   have Hb2 := Lib.hid (Hb.out.trans (hb2.mono hbs))
   have Hx2 := Lib.hid (hx2.low (Nat.zero_le _))
   clear hb2 hx2
   go_wp2_with fail
   exact ⟨⟨i, by omega, by go_num, Hb2.out, by rw [Hst.out]; exact Hx2.out⟩, by simp [intOf]⟩
def BrP (xs : List UInt8) (rb k : Nat) (w : World) (X : List Ex) (e : Ending) (w' : World) : Prop := ∃ (A : Option Addr) (q : Nat) (ys : List Ex) (k' : Nat) (c : Int), e = .returned (.slice A ys.length q) ∧ Rd xs rb w' k' c ∧ Fr rb w w' ∧ XRow w' 0 (.slice A ys.length q) ys ∧ (c ≠ 0 → ys = X) ∧ (c = 0 → ∃ n m : Int, Braces (xs.drop (k + 1)) n m (xs.drop k') ∧ ys = manyX X n m) ∧ (c ≠ 0 → NoBr (xs.drop (k + 1)))
set_option maxHeartbeats 16000000 in
set_option maxRecDepth 100000 in
theorem rbraces_any {xs : List UInt8} {rb k : Nat} {w : World} {A : Option Addr} {q : Nat} {X : List Ex} (h : Rd xs rb w k 0) (hk : k + 1 ≤ xs.length) (hl : xs.length ≤ 1000000) (hx : XRow w 0 (.slice A X.length q) X) (h0 : X ≠ []) (hok : OkX X) (hX : X.length ≤ 1000000) : Calls Tryz.prog 108 #[.pointer (some ⟨rb, 0, none⟩), .slice A X.length q] w fun e w' => BrP xs rb k w X e w' := by
 have Hbd := Lib.hid (hok.bd hX)
 have HX := Lib.hid (fun (w' : World) (hf : Fr rb w w') => hx.rd hf h.typed)
 have H0 := Lib.hid h0
 have Hs := Lib.hid (h.setz (z := (k : Int) + 1) (m := k + 1) (by omega) (by omega))
 have F0 := Lib.hid (Fr.set rb 1 w (.int .i64 ((k : Int) + 1)))
 obtain ⟨pb, cap, -, c0, c1, c2, f1⟩ := h.cells
 clear h hx hok h0
 go_enter Tryz.func108, Tryz.ntmps108
 go_wp2_with fail
 (with_reducible refine (rnumber_any (k := k + 1) Hs.out hl).mono ?_)
 rintro e w1 ⟨k1, n, rfl, ⟨hn1, hn2⟩, hk1, h1, hf, he⟩
 have F1 := Lib.hid (F0.out.then hf)
 have E1 := Lib.hid he
 have hkl1 := h1.le
 obtain ⟨b1, hb⟩ : ∃ b, hasDig (xs.drop (k + 1)) = b := ⟨_, rfl⟩
 rw [hb]
 have Hb1 := Lib.hid hb
 clear hf he hb c0 c1 c2 f1
 obtain ⟨pb1, cap1, -, c01, c11, c21, f11⟩ := h1.cells
 have H1 := Lib.hid h1
 clear h1
 cases b1
 case false =>
  go_wp2_with fail
  (with_reducible refine (wrongz_any H1.out _ (k1) (by omega) (by omega)).mono ?_)
  rintro e wx ⟨rfl, qx, hq, hx, hf⟩
  have Hx := Lib.hid (And.intro hq (And.intro hx (F1.out.then hf)))
  clear hq hx hf c01 c11 c21 f11
  go_wp2_with fail
  go_ret
  exact ⟨A, q, X, _, _, rfl, Hx.out.2.1, Hx.out.2.2, HX.out _ Hx.out.2.2, fun _ => rfl, fun e => absurd e Hx.out.1, fun _ => nobr_dig Hb1.out⟩
 go_wp2_with fail
 (with_reducible refine (lookz_any H1.out _ (k1) (by omega) (by omega)).mono ?_)
 rintro e w2 ⟨rfl, hb⟩
 have F2 := Lib.hid (F1.out.then (Fr.of_below hb))
 have h2 := H1.out.below hb
 clear hb c01 c11 c21 f11
 obtain ⟨pb2, cap2, -, c02, c12, c22, f12⟩ := h2.cells
 have H2 := Lib.hid h2
 obtain ⟨c, hc⟩ : ∃ c, nx (xs.drop (k1)) = c := ⟨_, rfl⟩
 rw [hc]
 have hbc := nx_le (xs.drop (k1))
 rw [hc] at hbc
 obtain ⟨hbc1, hbc2⟩ := hbc
 obtain ⟨nc, hnc⟩ : ∃ n : Int, ((nl (xs.drop (k1)) : Nat) : Int) = n := ⟨_, rfl⟩
 rw [hnc]
 have Hc := Lib.hid hc
 have Hnc := Lib.hid hnc
 clear h2 hc hnc
 by_cases e44 : c = 44
 case neg =>
  have n44 : (c == 44) = false := by simpa using e44
  by_cases e125 : c = 125
  case neg =>
   have n125 : (c != 125) = true := by simpa using e125
   go_wp2_with fail
   (with_reducible refine (wrongz_any H2.out _ (k1) (by omega) (by omega)).mono ?_)
   rintro e wx ⟨rfl, qx, hq, hx, hf⟩
   have Hx := Lib.hid (And.intro hq (And.intro hx (F2.out.then hf)))
   clear hq hx hf c02 c12 c22 f12
   go_wp2_with fail
   go_ret
   exact ⟨A, q, X, _, _, rfl, Hx.out.2.1, Hx.out.2.2, HX.out _ Hx.out.2.2, fun _ => rfl, fun e => absurd e Hx.out.1, fun _ => nobr_one E1.out (by rw [Hc.out]; exact e44) (.inl (by rw [Hc.out]; exact e125))⟩
  subst e125
  have hd := nx_drop Hc.out (by omega) (by omega)
  have hkd : k1 + 1 ≤ xs.length := by have := hd.1; omega
  have Hd := Lib.hid hd.2.2
  clear hd
  obtain ⟨wz, hwz⟩ : ∃ wz, w2.setCell ⟨rb, 1, none⟩ (.int .i64 ((k1 : Int) + 1)) = wz := ⟨_, rfl⟩
  have hz := H2.out.setz (z := (k1 : Int) + 1) (m := k1 + 1) (by omega) (by omega)
  have fz := F2.out.then (Fr.set rb 1 w2 (.int .i64 ((k1 : Int) + 1)))
  rw [hwz] at hz fz
  have Hz := Lib.hid hz
  have Fz := Lib.hid fz
  have Hwz := Lib.hid hwz
  clear hz fz hwz
  by_cases b1 : 1000 < n
  ·skip
   go_wp2_with fail
   rw [Hwz.out]
   (with_reducible refine (refplaced_any 119 k wz).mono ?_)
   rintro e wf ⟨hh, ll, Af, nf, qf, rfl, hbf⟩
   obtain ⟨old, new, g1, g2, g3, g4, g5⟩ := (Hz.out.below hbf).flt 119 hh ll Af nf qf
   have G1 := Lib.hid g1
   have G2 := Lib.hid g2
   have G3 := Lib.hid g3
   have G4 := Lib.hid g4
   have G5 := Lib.hid ((Fz.out.then (Fr.of_below hbf)).then g5)
   clear g1 g2 g3 g4 g5 hbf
   unfold fltV
   go_wp2_with (refine wpList_store_tail rfl 52 (.tmp 109) (.tmp 107) rfl rfl rb 2 #[.int .i64 119, .int .i64 hh, .int .i64 ll, .slice Af nf qf] new (by simp [Act.eval]) (by simp [Act.eval]) 98 old G1.out infoFault G2.out (flt_one 119 hh ll rfl) G3.out ?_)
   go_ret
   exact ⟨A, q, X, _, 119, rfl, G4.out, G5.out, HX.out _ G5.out, fun _ => rfl, fun e => (by cases e), fun _ => nobr_one E1.out (by rw [Hc.out]; exact e44) (.inr b1)⟩
  have Hbr := Lib.hid (show Braces (xs.drop (k + 1)) n n (xs.drop (k1 + 1)) from Braces.same Hb1.out (by rw [E1.out, Hd.out]; rfl) (by omega))
  go_wp2_with fail
  rw [Hwz.out]
  (with_reducible refine (many_any (HX.out _ Fz.out) H0.out Hbd.out hX n n).mono ?_)
  rintro e wm ⟨Am, nm, qm, rfl, hbm, hxm⟩
  obtain rfl : nm = (manyX X n n).length := by obtain ⟨_, _, e, _⟩ := hxm.form; exact (Value.slice.inj e).2.1
  have Hbm := Lib.hid hbm
  have Hxm := Lib.hid hxm
  clear hbm hxm
  go_wp2_with fail
  go_ret
  exact ⟨Am, qm, manyX X n n, _, 0, rfl, Hz.out.below Hbm.out, Fz.out.then (Fr.of_below Hbm.out), Hxm.out.low (Nat.zero_le _), fun e => absurd rfl e, fun _ => ⟨n, n, Hbr.out, rfl⟩, fun e => absurd rfl e⟩
 subst e44
 have hd1 := nx_drop Hc.out (by omega) (by omega)
 have hk1l : k1 + 1 ≤ xs.length := by have := hd1.1; omega
 have Hd1 := Lib.hid hd1.2.2
 clear hd1
 have Ht := Lib.hid (H2.out.setz (z := (k1 : Int) + 1) (m := k1 + 1) (by omega) (by omega))
 have Ft := Lib.hid (F2.out.then (Fr.set rb 1 w2 (.int .i64 ((k1 : Int) + 1))))
 go_wp2_with fail
 (with_reducible refine (rnumber_any (k := k1 + 1) Ht.out hl).mono ?_)
 rintro e w3 ⟨k3, m, rfl, ⟨hm1, hm2⟩, hk3, h3, hf, he⟩
 have F3 := Lib.hid (Ft.out.then hf)
 have E3 := Lib.hid he
 have hkl3 := h3.le
 obtain ⟨b3, hb⟩ : ∃ b, hasDig (xs.drop (k1 + 1)) = b := ⟨_, rfl⟩
 rw [hb]
 have Hb3 := Lib.hid hb
 clear hf he hb c02 c12 c22 f12
 obtain ⟨pb3, cap3, -, c03, c13, c23, f13⟩ := h3.cells
 have H3 := Lib.hid h3
 clear h3
 cases b3
 case false =>
  go_wp2_with fail
  (with_reducible refine (lookz_any H3.out _ (k3) (by omega) (by omega)).mono ?_)
  rintro e w4 ⟨rfl, hb⟩
  have F4 := Lib.hid (F3.out.then (Fr.of_below hb))
  have h4 := H3.out.below hb
  clear hb c03 c13 c23 f13
  obtain ⟨pb4, cap4, -, c04, c14, c24, f14⟩ := h4.cells
  have H4 := Lib.hid h4
  obtain ⟨d, hd⟩ : ∃ c, nx (xs.drop (k3)) = c := ⟨_, rfl⟩
  rw [hd]
  have hbd := nx_le (xs.drop (k3))
  rw [hd] at hbd
  obtain ⟨hbd1, hbd2⟩ := hbd
  obtain ⟨nd, hnd⟩ : ∃ n : Int, ((nl (xs.drop (k3)) : Nat) : Int) = n := ⟨_, rfl⟩
  rw [hnd]
  have Hd := Lib.hid hd
  have Hnd := Lib.hid hnd
  clear h4 hd hnd
  by_cases e125 : d = 125
  case neg =>
   have n125 : (d != 125) = true := by simpa using e125
   go_wp2_with fail
   (with_reducible refine (wrongz_any H4.out _ (k3) (by omega) (by omega)).mono ?_)
   rintro e wx ⟨rfl, qx, hq, hx, hf⟩
   have Hx := Lib.hid (And.intro hq (And.intro hx (F4.out.then hf)))
   clear hq hx hf c04 c14 c24 f14
   go_wp2_with fail
   go_ret
   exact ⟨A, q, X, _, _, rfl, Hx.out.2.1, Hx.out.2.2, HX.out _ Hx.out.2.2, fun _ => rfl, fun e => absurd e Hx.out.1, fun _ => nobr_more (u := xs.drop (k1 + 1)) (by rw [E1.out, Hd1.out]; rfl) Hb3.out (.inl (by have h9 := E3.out; rw [numF_stop Hb3.out] at h9; rw [(Prod.mk.inj h9).2, Hd.out]; exact e125))⟩
  subst e125
  have hd := nx_drop Hd.out (by omega) (by omega)
  have hkd : k3 + 1 ≤ xs.length := by have := hd.1; omega
  have Hd := Lib.hid hd.2.2
  clear hd
  obtain ⟨wz, hwz⟩ : ∃ wz, w4.setCell ⟨rb, 1, none⟩ (.int .i64 ((k3 : Int) + 1)) = wz := ⟨_, rfl⟩
  have hz := H4.out.setz (z := (k3 : Int) + 1) (m := k3 + 1) (by omega) (by omega)
  have fz := F4.out.then (Fr.set rb 1 w4 (.int .i64 ((k3 : Int) + 1)))
  rw [hwz] at hz fz
  have Hz := Lib.hid hz
  have Fz := Lib.hid fz
  have Hwz := Lib.hid hwz
  clear hz fz hwz
  by_cases b1 : 1000 < n
  ·skip
   go_wp2_with fail
   rw [Hwz.out]
   (with_reducible refine (refplaced_any 119 k wz).mono ?_)
   rintro e wf ⟨hh, ll, Af, nf, qf, rfl, hbf⟩
   obtain ⟨old, new, g1, g2, g3, g4, g5⟩ := (Hz.out.below hbf).flt 119 hh ll Af nf qf
   have G1 := Lib.hid g1
   have G2 := Lib.hid g2
   have G3 := Lib.hid g3
   have G4 := Lib.hid g4
   have G5 := Lib.hid ((Fz.out.then (Fr.of_below hbf)).then g5)
   clear g1 g2 g3 g4 g5 hbf
   unfold fltV
   go_wp2_with (refine wpList_store_tail rfl 52 (.tmp 109) (.tmp 107) rfl rfl rb 2 #[.int .i64 119, .int .i64 hh, .int .i64 ll, .slice Af nf qf] new (by simp [Act.eval]) (by simp [Act.eval]) 98 old G1.out infoFault G2.out (flt_one 119 hh ll rfl) G3.out ?_)
   go_ret
   exact ⟨A, q, X, _, 119, rfl, G4.out, G5.out, HX.out _ G5.out, fun _ => rfl, fun e => (by cases e), fun _ => nobr_more (u := xs.drop (k1 + 1)) (by rw [E1.out, Hd1.out]; rfl) Hb3.out (.inr b1)⟩
  have Hbr := Lib.hid (show Braces (xs.drop (k + 1)) n (-1) (xs.drop (k3 + 1)) from Braces.more Hb1.out (by rw [E1.out, Hd1.out]; have h9 := E3.out; rw [numF_stop Hb3.out] at h9; have h9 := (Prod.mk.inj h9).2; rw [h9, Hd.out]; rfl) (by omega))
  go_wp2_with fail
  rw [Hwz.out]
  (with_reducible refine (many_any (HX.out _ Fz.out) H0.out Hbd.out hX n (-1)).mono ?_)
  rintro e wm ⟨Am, nm, qm, rfl, hbm, hxm⟩
  obtain rfl : nm = (manyX X n (-1)).length := by obtain ⟨_, _, e, _⟩ := hxm.form; exact (Value.slice.inj e).2.1
  have Hbm := Lib.hid hbm
  have Hxm := Lib.hid hxm
  clear hbm hxm
  go_wp2_with fail
  go_ret
  exact ⟨Am, qm, manyX X n (-1), _, 0, rfl, Hz.out.below Hbm.out, Fz.out.then (Fr.of_below Hbm.out), Hxm.out.low (Nat.zero_le _), fun e => absurd rfl e, fun _ => ⟨n, (-1), Hbr.out, rfl⟩, fun e => absurd rfl e⟩
 go_wp2_with fail
 (with_reducible refine (lookz_any H3.out _ (k3) (by omega) (by omega)).mono ?_)
 rintro e w4 ⟨rfl, hb⟩
 have F4 := Lib.hid (F3.out.then (Fr.of_below hb))
 have h4 := H3.out.below hb
 clear hb c03 c13 c23 f13
 obtain ⟨pb4, cap4, -, c04, c14, c24, f14⟩ := h4.cells
 have H4 := Lib.hid h4
 obtain ⟨d, hd⟩ : ∃ c, nx (xs.drop (k3)) = c := ⟨_, rfl⟩
 rw [hd]
 have hbd := nx_le (xs.drop (k3))
 rw [hd] at hbd
 obtain ⟨hbd1, hbd2⟩ := hbd
 obtain ⟨nd, hnd⟩ : ∃ n : Int, ((nl (xs.drop (k3)) : Nat) : Int) = n := ⟨_, rfl⟩
 rw [hnd]
 have Hd := Lib.hid hd
 have Hnd := Lib.hid hnd
 clear h4 hd hnd
 by_cases e125 : d = 125
 case neg =>
  have n125 : (d != 125) = true := by simpa using e125
  go_wp2_with fail
  (with_reducible refine (wrongz_any H4.out _ (k3) (by omega) (by omega)).mono ?_)
  rintro e wx ⟨rfl, qx, hq, hx, hf⟩
  have Hx := Lib.hid (And.intro hq (And.intro hx (F4.out.then hf)))
  clear hq hx hf c04 c14 c24 f14
  go_wp2_with fail
  go_ret
  exact ⟨A, q, X, _, _, rfl, Hx.out.2.1, Hx.out.2.2, HX.out _ Hx.out.2.2, fun _ => rfl, fun e => absurd e Hx.out.1, fun _ => nobr_upto (u := xs.drop (k1 + 1)) (by rw [E1.out, Hd1.out]; rfl) Hb3.out E3.out (.inl (by rw [Hd.out]; exact e125))⟩
 subst e125
 have hd := nx_drop Hd.out (by omega) (by omega)
 have hkd : k3 + 1 ≤ xs.length := by have := hd.1; omega
 have Hd := Lib.hid hd.2.2
 clear hd
 obtain ⟨wz, hwz⟩ : ∃ wz, w4.setCell ⟨rb, 1, none⟩ (.int .i64 ((k3 : Int) + 1)) = wz := ⟨_, rfl⟩
 have hz := H4.out.setz (z := (k3 : Int) + 1) (m := k3 + 1) (by omega) (by omega)
 have fz := F4.out.then (Fr.set rb 1 w4 (.int .i64 ((k3 : Int) + 1)))
 rw [hwz] at hz fz
 have Hz := Lib.hid hz
 have Fz := Lib.hid fz
 have Hwz := Lib.hid hwz
 clear hz fz hwz
 by_cases b1 : 1000 < n
 ·skip
  go_wp2_with fail
  rw [Hwz.out]
  (with_reducible refine (refplaced_any 119 k wz).mono ?_)
  rintro e wf ⟨hh, ll, Af, nf, qf, rfl, hbf⟩
  obtain ⟨old, new, g1, g2, g3, g4, g5⟩ := (Hz.out.below hbf).flt 119 hh ll Af nf qf
  have G1 := Lib.hid g1
  have G2 := Lib.hid g2
  have G3 := Lib.hid g3
  have G4 := Lib.hid g4
  have G5 := Lib.hid ((Fz.out.then (Fr.of_below hbf)).then g5)
  clear g1 g2 g3 g4 g5 hbf
  unfold fltV
  go_wp2_with (refine wpList_store_tail rfl 52 (.tmp 109) (.tmp 107) rfl rfl rb 2 #[.int .i64 119, .int .i64 hh, .int .i64 ll, .slice Af nf qf] new (by simp [Act.eval]) (by simp [Act.eval]) 98 old G1.out infoFault G2.out (flt_one 119 hh ll rfl) G3.out ?_)
  go_ret
  exact ⟨A, q, X, _, 119, rfl, G4.out, G5.out, HX.out _ G5.out, fun _ => rfl, fun e => (by cases e), fun _ => nobr_upto (u := xs.drop (k1 + 1)) (by rw [E1.out, Hd1.out]; rfl) Hb3.out E3.out (.inr (.inr (.inr b1)))⟩
 by_cases b2 : 1000 < m
 ·skip
  go_wp2_with fail
  rw [Hwz.out]
  (with_reducible refine (refplaced_any 119 k wz).mono ?_)
  rintro e wf ⟨hh, ll, Af, nf, qf, rfl, hbf⟩
  obtain ⟨old, new, g1, g2, g3, g4, g5⟩ := (Hz.out.below hbf).flt 119 hh ll Af nf qf
  have G1 := Lib.hid g1
  have G2 := Lib.hid g2
  have G3 := Lib.hid g3
  have G4 := Lib.hid g4
  have G5 := Lib.hid ((Fz.out.then (Fr.of_below hbf)).then g5)
  clear g1 g2 g3 g4 g5 hbf
  unfold fltV
  go_wp2_with (refine wpList_store_tail rfl 52 (.tmp 109) (.tmp 107) rfl rfl rb 2 #[.int .i64 119, .int .i64 hh, .int .i64 ll, .slice Af nf qf] new (by simp [Act.eval]) (by simp [Act.eval]) 98 old G1.out infoFault G2.out (flt_one 119 hh ll rfl) G3.out ?_)
  go_ret
  exact ⟨A, q, X, _, 119, rfl, G4.out, G5.out, HX.out _ G5.out, fun _ => rfl, fun e => (by cases e), fun _ => nobr_upto (u := xs.drop (k1 + 1)) (by rw [E1.out, Hd1.out]; rfl) Hb3.out E3.out (.inr (.inr (.inl b2)))⟩
 by_cases b4 : m < n
 ·skip
  go_wp2_with fail
  rw [Hwz.out]
  (with_reducible refine (refplaced_any 119 k wz).mono ?_)
  rintro e wf ⟨hh, ll, Af, nf, qf, rfl, hbf⟩
  obtain ⟨old, new, g1, g2, g3, g4, g5⟩ := (Hz.out.below hbf).flt 119 hh ll Af nf qf
  have G1 := Lib.hid g1
  have G2 := Lib.hid g2
  have G3 := Lib.hid g3
  have G4 := Lib.hid g4
  have G5 := Lib.hid ((Fz.out.then (Fr.of_below hbf)).then g5)
  clear g1 g2 g3 g4 g5 hbf
  unfold fltV
  go_wp2_with (refine wpList_store_tail rfl 52 (.tmp 109) (.tmp 107) rfl rfl rb 2 #[.int .i64 119, .int .i64 hh, .int .i64 ll, .slice Af nf qf] new (by simp [Act.eval]) (by simp [Act.eval]) 98 old G1.out infoFault G2.out (flt_one 119 hh ll rfl) G3.out ?_)
  go_ret
  exact ⟨A, q, X, _, 119, rfl, G4.out, G5.out, HX.out _ G5.out, fun _ => rfl, fun e => (by cases e), fun _ => nobr_upto (u := xs.drop (k1 + 1)) (by rw [E1.out, Hd1.out]; rfl) Hb3.out E3.out (.inr (.inl b4))⟩
 have Hbr := Lib.hid (show Braces (xs.drop (k + 1)) n m (xs.drop (k3 + 1)) from Braces.upto Hb1.out (by rw [E1.out, Hd1.out]; rfl) Hb3.out (by rw [E3.out, Hd.out]; rfl) (by omega) (by omega))
 go_wp2_with fail
 rw [Hwz.out]
 (with_reducible refine (many_any (HX.out _ Fz.out) H0.out Hbd.out hX n m).mono ?_)
 rintro e wm ⟨Am, nm, qm, rfl, hbm, hxm⟩
 obtain rfl : nm = (manyX X n m).length := by obtain ⟨_, _, e, _⟩ := hxm.form; exact (Value.slice.inj e).2.1
 have Hbm := Lib.hid hbm
 have Hxm := Lib.hid hxm
 clear hbm hxm
 go_wp2_with fail
 go_ret
 exact ⟨Am, qm, manyX X n m, _, 0, rfl, Hz.out.below Hbm.out, Fz.out.then (Fr.of_below Hbm.out), Hxm.out.low (Nat.zero_le _), fun e => absurd rfl e, fun _ => ⟨n, m, Hbr.out, rfl⟩, fun e => absurd rfl e⟩
end Go.Proofs.YthhnmpkgleelfaaGreatDoor
