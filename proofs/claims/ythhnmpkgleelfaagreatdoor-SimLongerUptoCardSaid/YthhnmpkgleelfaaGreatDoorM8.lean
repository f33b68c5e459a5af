import Derived.Test.YthhnmpkgleelfaaGreatDoorM1
import Derived.Test.YthhnmpkgleelfaaGreatDoorM3
import Derived.Lib.SliceRun
import Derived.Lib.Hide
import Derived.Test.YthhnmpkgleelfaaGreatDoorM2
import Derived.Deep.DeepCutAuto
set_option linter.unusedVariables false
set_option linter.unusedSimpArgs false
namespace Go.Proofs.YthhnmpkgleelfaaGreatDoor
open Go.RowKit
section
variable {w w' : World} {base : Nat} {e : TypeId} {k n : Nat} {v : Value} {xs : List Value}
theorem ownsRow_below {B : Nat} (h : w.ownsRow base e k v n xs) (hb : Below B w w') (hB : w.heap.size ≤ B) : w'.ownsRow base e k v n xs := by
 obtain ⟨h1, ⟨rfl, h0⟩ | ⟨g, cap, cur, rfl, hbg, hg, r⟩⟩ := h
 ·exact ⟨h1, .inl ⟨rfl, h0⟩⟩
 ·exact ⟨h1, .inr ⟨g, cap, cur, rfl, hbg, (hb.block g (Nat.lt_of_lt_of_le (lt_of_heap hg) hB)).trans hg, r⟩⟩
theorem ownsRow_low {base' : Nat} (h : w.ownsRow base e k v n xs) (hb : base' ≤ base) : w.ownsRow base' e k v n xs := by
 obtain ⟨h1, ⟨rfl, h0⟩ | ⟨g, cap, cur, rfl, hbg, r⟩⟩ := h
 ·exact ⟨h1, .inl ⟨rfl, h0⟩⟩
 ·exact ⟨h1, .inr ⟨g, cap, cur, rfl, Nat.le_trans hb hbg, r⟩⟩
theorem ownsRow_drewN (h : w.ownsRow base e k v n xs) (m : Nat) : (w.drewN m).ownsRow base e k v n xs := h
def Typed (w : World) (g : Nat) (e : TypeId) : Prop := ∃ cs z, w.heap[g]? = some (.cells cs e z)
def Keeps (T : TypeId → Prop) (w w' : World) : Prop := w.heap.size ≤ w'.heap.size ∧ ∀ (g : Nat) (cs : Array Value) (e : TypeId) (z : Nat × Nat), w.heap[g]? = some (.cells cs e z) → ¬ T e → w'.heap[g]? = some (.cells cs e z)
theorem Keeps.refl (T : TypeId → Prop) (w : World) : Keeps T w w := ⟨Nat.le_refl _, fun _ _ _ _ h _ => h⟩
theorem Keeps.trans {T : TypeId → Prop} {a b c : World} (h : Keeps T a b) (k : Keeps T b c) : Keeps T a c := ⟨Nat.le_trans h.1 k.1, fun g cs e z hg ht => k.2 g cs e z (h.2 g cs e z hg ht) ht⟩
theorem Keeps.of_below (T : TypeId → Prop) (h : Below w.heap.size w w') : Keeps T w w' := ⟨h.size, fun g cs e z hg _ => (h.block g (lt_of_heap hg)).trans hg⟩
theorem Keeps.of_grown {T : TypeId → Prop} {row : Option Nat} (hg : w.grownBy w' row) (ht : ∀ (g : Nat), row = some g → ∀ (cs : Array Value) (e : TypeId) (z : Nat × Nat), w.heap[g]? = some (.cells cs e z) → T e) : Keeps T w w' :=
 ⟨hg.size, fun g cs e z h hn => (hg.block g (lt_of_heap h) (fun eq => hn (ht g eq.symm cs e z h))).trans h⟩
theorem Keeps.setCell {T : TypeId → Prop} {p : Addr} (u : Value) (ht : ∀ (cs : Array Value) (e : TypeId) (z : Nat × Nat), w.heap[p.block]? = some (.cells cs e z) → T e) : Keeps T w (w.setCell p u) :=
 ⟨by simp, fun g cs e z h hn => (Below.heap_setCell w p u g (by rintro rfl; exact hn (ht cs e z h))).trans h⟩
theorem Keeps.drewN (T : TypeId → Prop) (m : Nat) : Keeps T w (w.drewN m) := ⟨Nat.le_refl _, fun _ _ _ _ h _ => h⟩
theorem ownsRow_keeps {T : TypeId → Prop} (h : w.ownsRow base e k v n xs) (hk : Keeps T w w') (he : ¬ T e) : w'.ownsRow base e k v n xs := by
 obtain ⟨h1, ⟨rfl, h0⟩ | ⟨g, cap, cur, rfl, hbg, hg, r⟩⟩ := h
 ·exact ⟨h1, .inl ⟨rfl, h0⟩⟩
 ·exact ⟨h1, .inr ⟨g, cap, cur, rfl, hbg, hk.2 g cur e _ hg he, r⟩⟩
theorem ownsRow_block (h : w.ownsRow base e k v n xs) {g : Nat} (hv : v.ownBlock = some g) : base ≤ g ∧ ∃ cur, w.heap[g]? = some (.cells cur e (0, 0)) := by
 obtain ⟨h1, ⟨rfl, h0⟩ | ⟨g', cap, cur, rfl, hbg, hg, r⟩⟩ := h
 ·simp [Value.ownBlock] at hv
 ·simp [Value.ownBlock] at hv; subst hv; exact ⟨hbg, cur, hg⟩
theorem ownsRow_form (h : w.ownsRow base e k v n xs) : (v = .slice none 0 0 ∧ n = 0 ∧ xs = []) ∨ ∃ g cap, v = .slice (some ⟨g, 0, none⟩) n cap ∧ base ≤ g ∧ n ≤ cap ∧ n ≤ maxLen := by
 obtain ⟨h1, ⟨rfl, h0⟩ | ⟨g, cap, cur, rfl, hbg, hg, h2, h3, r⟩⟩ := h
 ·subst h0; exact .inl ⟨rfl, rfl, List.eq_nil_of_length_eq_zero (by omega)⟩
 ·exact .inr ⟨g, cap, rfl, hbg, h2, Nat.le_trans h2 h3⟩
theorem ownsRow_slice (h : w.ownsRow base e k v n xs) : ∃ A cap, v = .slice A n cap ∧ n ≤ cap ∧ n ≤ maxLen ∧ (0 < n → ∃ g, A = some ⟨g, 0, none⟩) := by
 rcases ownsRow_form h with ⟨rfl, rfl, _⟩ | ⟨g, cap, rfl, _, h1, h2⟩
 ·exact ⟨none, 0, rfl, Nat.le_refl _, Nat.zero_le _, fun h => by omega⟩
 ·exact ⟨_, cap, rfl, h1, h2, fun _ => ⟨g, rfl⟩⟩
theorem ownsRow_cell {A : Option Addr} {cap g : Nat} (h : w.ownsRow base e k (.slice A n cap) n xs) (hA : A = some ⟨g, 0, none⟩) (j : Nat) (hj : j < n * k) : w.cell? ⟨g, j, none⟩ = xs[j]? := by
 subst hA; exact World.ownsRow.cellAt h j hj
end
structure ElemK (t e : TypeId) (z : Value) (k B : Nat) : Prop where
 ht : Tryz.prog.underlying t = some (.slice e)
 hi : (Tryz.prog.info? e).map (fun i => (i.zero, i.size, i.bytes)) = some (some z, k, B)
 hz : z.cells.size = k
 h0 : 0 < k
theorem ownsRow_made {w : World} {base g cap k : Nat} {e : TypeId} {cur : Array Value} (hg : w.heap[g]? = some (.cells cur e (0, 0))) (hb : base ≤ g) (hc : cap ≤ maxLen) (hs : cur.size = cap * k) : w.ownsRow base e k (.slice (some ⟨g, 0, none⟩) 0 cap) 0 [] :=
 ⟨by rw [Nat.zero_mul]; rfl, .inr ⟨g, cap, cur, rfl, hb, hg, Nat.zero_le _, hc, hs, by rw [Nat.zero_mul]; rfl⟩⟩
theorem ownsRow_lit {w : World} {base g n k : Nat} {e : TypeId} {cur : Array Value} (hg : w.heap[g]? = some (.cells cur e (0, 0))) (hb : base ≤ g) (hc : n ≤ maxLen) (hs : cur.size = n * k) : w.ownsRow base e k (.slice (some ⟨g, 0, none⟩) n n) n cur.toList :=
 ⟨by rw [Array.length_toList, hs], .inr ⟨g, n, cur, rfl, hb, hg, Nat.le_refl _, hc, hs, List.take_of_length_le (by rw [Array.length_toList, hs]; exact Nat.le_refl _)⟩⟩
theorem wp_append_k {t e : TypeId} {z : Value} {k B : Nat} (E : ElemK t e z k B) {o : Oper} {a : Act} {K : Act → World → Prop} {Q : Exit → Act → World → Prop} {w : World} (s x : Operand)
  (ho : o.op = .call { callee := .builtin .append, args := #[s, x], argTypes := #[t, t] })
  (base : Nat) (v : Value) (n g c m : Nat) (us news : List Value) (hs : a.eval s = v) (hown : w.ownsRow base e k v n us) (hx : a.eval x = .slice (some ⟨g, 0, none⟩) m c) (hl : news.length = m * k)
  (hg : ∀ j u, news[j]? = some u → w.cell? ⟨g, j, none⟩ = some u) (h1 : ∀ u ∈ news, u.oneCell' = true)
  (hlen : n + m ≤ maxLen) (hby : (n + m) * B ≤ 140737488355328) (hbase : base ≤ w.heap.size)
  (h : ∀ v' w', w'.ownsRow base e k v' (n + m) (us ++ news) → w.grownBy w' v.ownBlock → (v'.ownBlock = v.ownBlock ∨ v'.ownBlock = some w.heap.size) → K (a.put o.dst v') w') : o.wp Tryz.prog a w K Q := by
 obtain ⟨i0, hi, hz0, hz1, hz2⟩ := info_parts E.hi
 obtain ⟨v', w', hrun, h2, h3, _, h5⟩ := run_append_own_at (P := Tryz.prog) w base t o.type e i0 z k B E.ht hi hz0 hz1 hz2 E.hz E.h0 v n us hown ⟨g, 0, none⟩ m c news
  hl (fun j y hy => by
   have := hg j y hy
   unfold Addr.add
   split
   ·rename_i h0; subst h0; exact this
   ·simpa using this) h1 hlen hby hbase
 unfold Oper.wp execOp
 simp only [ho, resolve, invoke, builtin, Sem.run_bind, Sem.run_pure, Result.andThen_ok, List.map_toArray, List.map_cons, List.map_nil, hs, hx, hrun]
 exact h v' w' h2 h3 h5
theorem wpList_append_k {t e : TypeId} {z : Value} {k B : Nat} (E : ElemK t e z k B) {ops : Array Oper} {rest : List Oper} {o : Oper} {a : Act} {Q : Exit → Act → World → Prop} {w : World} (hgd : o.guard = none) (s x : Operand)
  (ho : o.op = .call { callee := .builtin .append, args := #[s, x], argTypes := #[t, t] })
  (base : Nat) (v : Value) (n g c m : Nat) (us news : List Value) (hs : a.eval s = v) (hown : w.ownsRow base e k v n us) (hx : a.eval x = .slice (some ⟨g, 0, none⟩) m c) (hl : news.length = m * k)
  (hg : ∀ j u, news[j]? = some u → w.cell? ⟨g, j, none⟩ = some u) (h1 : ∀ u ∈ news, u.oneCell' = true)
  (hlen : n + m ≤ maxLen) (hby : (n + m) * B ≤ 140737488355328) (hbase : base ≤ w.heap.size)
  (h : ∀ v' w', w'.ownsRow base e k v' (n + m) (us ++ news) → w.grownBy w' v.ownBlock → (v'.ownBlock = v.ownBlock ∨ v'.ownBlock = some w.heap.size) → wpList Tryz.prog ops Q rest (a.put o.dst v') w') : wpList Tryz.prog ops Q (o :: rest) a w :=
 wpList_plain hgd fun _ hK => wp_append_k E s x ho base v n g c m us news hs hown hx hl hg h1 hlen hby hbase fun v' w' h2 h3 h4 => hK _ _ (h v' w' h2 h3 h4)
theorem step_append_k {t e : TypeId} {z : Value} {k B : Nat} (E : ElemK t e z k B) {ops : Array Oper} {o : Oper} {a : Act} {K : Act → World → Prop} {Q : Exit → Act → World → Prop} {E' : Prop} {w : World} (hgd : o.guard = none) (s x : Operand)
  (ho : o.op = .call { callee := .builtin .append, args := #[s, x], argTypes := #[t, t] })
  (base : Nat) (v : Value) (n g c m : Nat) (us news : List Value) (hs : a.eval s = v) (hown : w.ownsRow base e k v n us) (hx : a.eval x = .slice (some ⟨g, 0, none⟩) m c) (hl : news.length = m * k)
  (hg : ∀ j u, news[j]? = some u → w.cell? ⟨g, j, none⟩ = some u) (h1 : ∀ u ∈ news, u.oneCell' = true)
  (hlen : n + m ≤ maxLen) (hby : (n + m) * B ≤ 140737488355328) (hbase : base ≤ w.heap.size)
  (h : ∀ v' w', w'.ownsRow base e k v' (n + m) (us ++ news) → w.grownBy w' v.ownBlock → (v'.ownBlock = v.ownBlock ∨ v'.ownBlock = some w.heap.size) → K (a.put o.dst v') w') :
  if Region.wanted o (yielded ops a.tmps) = true then Oper.wp Tryz.prog o a w K Q else E' := by
 have hw : Region.wanted o (yielded ops a.tmps) = true := by simp [Region.wanted, hgd]
 rw [if_pos hw]
 exact wp_append_k E s x ho base v n g c m us news hs hown hx hl hg h1 hlen hby hbase h
theorem cells_new (w : World) (cs : List Value) (t : TypeId) : ∀ j u, cs[j]? = some u → (w.alloc (.cells cs.toArray t)).cell? ⟨w.heap.size, j, none⟩ = some u := by
 intro j u hu
 have := heap_alloc_new w (.cells cs.toArray t)
 unfold World.cell?
 simp only [this]
 simpa using hu
theorem own_below {w0 w w' : World} {base : Nat} {e : TypeId} {k n : Nat} {v : Value} {us : List Value} (hb : Below base w0 w) (h : w.ownsRow base e k v n us) (hle : base ≤ w.heap.size) (hg : w.grownBy w' v.ownBlock) : Below base w0 w' :=
 hb.grown hg hle (fun g e' => (ownsRow_block h e').1)
def Sl (w : World) (v : Value) (us : List Value) : Prop := us.length ≤ 9223372036854775807 ∧ ∃ A c, v = .slice A us.length c ∧ us.length ≤ c ∧ (0 < us.length → ∃ g o, A = some ⟨g, o, none⟩ ∧ ∀ i u, us[i]? = some u → w.cell? ⟨g, o + i, none⟩ = some u)
theorem Sl.of_own {w : World} {base n : Nat} {e : TypeId} {v : Value} {us : List Value} (h : w.ownsRow base e 1 v n us) : Sl w v us := by
 have hl : us.length = n := by have := h.1; omega
 subst hl
 obtain ⟨A, c, rfl, hc, hm, hA⟩ := ownsRow_slice h
 refine ⟨by unfold maxLen at hm; omega, A, c, rfl, hc, fun h0 => ?_⟩
 obtain ⟨g, rfl⟩ := hA h0
 refine ⟨g, 0, rfl, fun i u hu => ?_⟩
 have hi := (List.getElem?_eq_some_iff.1 hu).1
 rw [Nat.zero_add, World.ownsRow.cellAt h i (by omega)]
 exact hu
theorem Sl.below {w w' : World} {v : Value} {us : List Value} (h : Sl w v us) (hb : Below w.heap.size w w') : Sl w' v us := by
 obtain ⟨hm, A, c, e, hc, hA⟩ := h
 refine ⟨hm, A, c, e, hc, fun h0 => ?_⟩
 obtain ⟨g, o, e, hcl⟩ := hA h0
 exact ⟨g, o, e, fun i u hu => cell_later hb (hcl i u hu)⟩
theorem Sl.drewN {w : World} {v : Value} {us : List Value} (h : Sl w v us) (m : Nat) : Sl (w.drewN m) v us := h
def All2 {α β : Type} (R : α → β → Prop) (l : List α) (m : List β) : Prop := l.length = m.length ∧ ∀ (i : Nat) (a : α) (b : β), l[i]? = some a → m[i]? = some b → R a b
theorem All2.mono {α β : Type} {R S : α → β → Prop} {l : List α} {m : List β} (h : All2 R l m) (hs : ∀ a b, R a b → S a b) : All2 S l m := ⟨h.1, fun i a b h1 h2 => hs _ _ (h.2 i a b h1 h2)⟩
theorem All2.nil {α β : Type} (R : α → β → Prop) : All2 R [] [] := ⟨rfl, fun i a b h => by simp at h⟩
theorem All2.snoc {α β : Type} {R : α → β → Prop} {l : List α} {m : List β} {a : α} {b : β} (h : All2 R l m) (hr : R a b) : All2 R (l ++ [a]) (m ++ [b]) := by
 refine ⟨by simp [h.1], fun i x y h1 h2 => ?_⟩
 have hl := h.1
 by_cases hi : i < l.length
 ·rw [List.getElem?_append_left hi] at h1
  rw [List.getElem?_append_left (by omega)] at h2
  exact h.2 i x y h1 h2
 ·rw [List.getElem?_append_right (by omega)] at h1 h2
  rw [hl] at h1
  have hz : i - m.length = 0 := by have := (List.getElem?_eq_some_iff.1 h1).1; simp at this; omega
  rw [hz] at h1 h2
  simp at h1 h2
  subst h1 h2
  exact hr
theorem All2.get {α β : Type} {R : α → β → Prop} {l : List α} {m : List β} (h : All2 R l m) {i : Nat} {b : β} (hb : m[i]? = some b) : ∃ a, l[i]? = some a ∧ R a b := by
 have hi := (List.getElem?_eq_some_iff.1 hb).1
 rw [← h.1] at hi
 exact ⟨_, List.getElem?_eq_getElem hi, h.2 i _ _ (List.getElem?_eq_getElem hi) hb⟩
theorem All2.cons {α β : Type} {R : α → β → Prop} {l : List α} {m : List β} {a : α} {b : β} (hr : R a b) (h : All2 R l m) : All2 R (a :: l) (b :: m) := by
 refine ⟨by simp [h.1], fun i x y h1 h2 => ?_⟩
 cases i with
 | zero => simp at h1 h2; subst h1 h2; exact hr
 | succ i => simp at h1 h2; exact h.2 i x y h1 h2
def SlK (k : Nat) (w : World) (v : Value) (n : Nat) (us : List Value) : Prop := us.length = n * k ∧ n ≤ 9223372036854775807 ∧ ∃ A c, v = .slice A n c ∧ n ≤ c ∧ (0 < n → ∃ g o, A = some ⟨g, o, none⟩ ∧ ∀ i u, us[i]? = some u → w.cell? ⟨g, o + i, none⟩ = some u)
theorem Sl.k {w : World} {v : Value} {us : List Value} (h : Sl w v us) : SlK 1 w v us.length us := ⟨by omega, h.1, h.2⟩
theorem SlK.below {k n : Nat} {w w' : World} {v : Value} {us : List Value} (h : SlK k w v n us) (hb : Below w.heap.size w w') : SlK k w' v n us := by
 obtain ⟨h1, h2, A, c, e, hc, hA⟩ := h
 refine ⟨h1, h2, A, c, e, hc, fun h0 => ?_⟩
 obtain ⟨g, o, e, hcl⟩ := hA h0
 exact ⟨g, o, e, fun i u hu => cell_later hb (hcl i u hu)⟩
theorem SlK.of_own {k n base : Nat} {w : World} {e : TypeId} {v : Value} {us : List Value} (h : w.ownsRow base e k v n us) : SlK k w v n us := by
 obtain ⟨A, c, rfl, hc, hm, hA⟩ := ownsRow_slice h
 refine ⟨h.1, by unfold maxLen at hm; omega, A, c, rfl, hc, fun h0 => ?_⟩
 obtain ⟨g, rfl⟩ := hA h0
 refine ⟨g, 0, rfl, fun i u hu => ?_⟩
 have hi := (List.getElem?_eq_some_iff.1 hu).1
 rw [Nat.zero_add, World.ownsRow.cellAt h i (by rw [← h.1]; exact hi)]
 exact hu
theorem wpList_append_sl {t e : TypeId} {z : Value} {k B : Nat} (E : ElemK t e z k B) {ops : Array Oper} {rest : List Oper} {o : Oper} {a : Act} {Q : Exit → Act → World → Prop} {w : World} (hgd : o.guard = none) (s x : Operand)
  (ho : o.op = .call { callee := .builtin .append, args := #[s, x], argTypes := #[t, t] })
  (base : Nat) (v : Value) (n : Nat) (ad : Addr) (c m : Nat) (us news : List Value) (hs : a.eval s = v) (hown : w.ownsRow base e k v n us) (hx : a.eval x = .slice (some ad) m c) (hsl : SlK k w (.slice (some ad) m c) m news)
  (h1 : ∀ u ∈ news, u.oneCell' = true) (hlen : n + m ≤ maxLen) (hby : (n + m) * B ≤ 140737488355328) (hbase : base ≤ w.heap.size)
  (h : ∀ v' w', w'.ownsRow base e k v' (n + m) (us ++ news) → w.grownBy w' v.ownBlock → (v'.ownBlock = v.ownBlock ∨ v'.ownBlock = some w.heap.size) → wpList Tryz.prog ops Q rest (a.put o.dst v') w') : wpList Tryz.prog ops Q (o :: rest) a w := by
 refine wpList_plain hgd fun K hK => ?_
 obtain ⟨i0, hi, hz0, hz1, hz2⟩ := info_parts E.hi
 obtain ⟨hl, _, A, c', e', _, hA⟩ := hsl
 injection e' with e1 e2 e3
 subst e1
 obtain ⟨v', w', hrun, h2, h3, _, h5⟩ := run_append_own_at (P := Tryz.prog) w base t o.type e i0 z k B E.ht hi hz0 hz1 hz2 E.hz E.h0 v n us hown ad m c news
  hl (fun j y hy => by
   have hj := (List.getElem?_eq_some_iff.1 hy).1
   have hm : 0 < m := by rcases Nat.eq_zero_or_pos m with h0 | h0; (· subst h0; rw [hl] at hj; omega); exact h0
   obtain ⟨g, off, e', hcl⟩ := hA hm
   obtain rfl := Option.some.inj e'
   rw [Addr.add_lit]
   exact hcl j y hy) h1 hlen hby hbase
 unfold Oper.wp execOp
 simp only [ho, resolve, invoke, builtin, Sem.run_bind, Sem.run_pure, Result.andThen_ok, List.map_toArray, List.map_cons, List.map_nil, hs, hx, hrun]
 exact hK _ _ (h v' w' h2 h3 h5)
theorem row_cell {w : World} {g : Nat} {cs : Array Value} {t : TypeId} {z : Nat × Nat} (h : w.heap[g]? = some (.cells cs t z)) {j : Nat} {u : Value} (hu : cs[j]? = some u) : w.cell? ⟨g, j, none⟩ = some u := by
 unfold World.cell?; simp only [h]; simpa using hu
theorem row_frozen {w : World} {g : Nat} {cs : Array Value} {t : TypeId} (h : w.heap[g]? = some (.cells cs t (0, 0))) (j : Nat) : w.frozen? ⟨g, j, none⟩ = false := by
 unfold World.frozen?; simp [h]
theorem row_set {w : World} {g : Nat} {cs : Array Value} {t : TypeId} {z : Nat × Nat} (h : w.heap[g]? = some (.cells cs t z)) (j : Nat) (u : Value) : (w.setCell ⟨g, j, none⟩ u).heap[g]? = some (.cells (cs.setIfInBounds j u) t z) := by
 have hlt := lt_of_heap h
 have h' : w.heap[g] = .cells cs t z := by simpa [Array.getElem?_eq_getElem hlt] using h
 show (w.heap.modify g _)[g]? = _
 rw [Array.getElem?_eq_getElem (by simpa using hlt), Array.getElem_modify_self, h']
 rfl
theorem storeCells_off (g o : Nat) : ∀ (vs : List Value) (i : Nat), storeCells ⟨g, o, none⟩ vs i = storeCells ⟨g, 0, none⟩ vs (o + i)
 | [], _ => rfl
 | v :: vs, i => by
  have e : (⟨g, o, none⟩ : Addr).add i = (⟨g, 0, none⟩ : Addr).add (o + i) := by
   unfold Addr.add
   split <;> split <;> simp_all <;> omega
  unfold storeCells
  rw [e, storeCells_off g o vs (i + 1), Nat.add_assoc]
theorem wpList_store_tail {ops : Array Oper} {rest : List Oper} {o : Oper} {a : Act} {w : World} {Q : Exit → Act → World → Prop} (hgd : o.guard = none) (ty : TypeId) (x y : Operand) (ho : o.op = .store ty x y)
  (hd : o.dst = none) (g p : Nat) (cells new : Array Value) (hx : a.eval x = .pointer (some ⟨g, p, none⟩)) (hy : a.eval y = .agg cells)
  (t : TypeId) (old : Array Value) (hg : w.heap[g]? = some (.cells old t (0, 0))) (hi : (Tryz.prog.info? ty).map (·.size) = some cells.size)
  (hold : p + cells.size = old.size) (h1 : cells.all (·.oneCell') = true) (hn : (old.toList.take p ++ cells.toList).toArray = new)
  (h : wpList Tryz.prog ops Q rest a (w.setRow g new)) : wpList Tryz.prog ops Q (o :: rest) a w := by
 have := run_storeCells_from (P := Tryz.prog) g t cells.toList p old w hg (by simpa using hold) (fun v hv => (Array.all_eq_true_iff_forall_mem.1 h1) v (by simpa using hv))
 have e := storeCells_off g p cells.toList 0
 rw [Nat.add_zero] at e
 rw [← e, hn] at this
 have hst : (storeVar ty ⟨g, p, none⟩ (.agg cells)).run Tryz.prog w = .ok () (w.setRow g new) := by
  cases hq : Tryz.prog.info? ty with
  | none => simp [hq] at hi
  | some i =>
   have hs : cells.size = i.size := by simp [hq] at hi; omega
   simp [storeVar, sizeOf, typeInfo, hq, Value.cells, hs, this]
 refine wpList_plain hgd fun _ hK => ?_
 unfold Oper.wp execOp
 simp only [ho, hx, hy, Instr.storeAt, Instr.sureAddr, Sem.run_bind, Sem.run_pure, Result.andThen_ok, hst]
 refine hK _ _ ?_
 rw [hd]; exact h
theorem Bs.grown {w w' : World} {pb n cap : Nat} {xs : List UInt8} {row : Option Nat} (h : Bs w (.slice (some ⟨pb, 0, none⟩) n cap) xs) (hg : w.grownBy w' row) (hr : row ≠ some pb) : Bs w' (.slice (some ⟨pb, 0, none⟩) n cap) xs := by
 obtain ⟨hm, A, c, e, hc, hcell⟩ := h
 refine ⟨hm, A, c, e, hc, fun h0 => ?_⟩
 obtain ⟨b, o, e', hcl⟩ := hcell h0
 injection e with e1
 rw [e'] at e1
 obtain ⟨rfl, rfl⟩ : pb = b ∧ 0 = o := by have := Option.some.inj e1; injection this with h1 h2; exact ⟨h1, h2⟩
 refine ⟨pb, 0, e', fun i hi => ?_⟩
 have hx := hcl i hi
 rw [World.cell?_of_block (a := ⟨pb, 0 + i, none⟩) (hg.block pb ?_ (Ne.symm hr))]
 ·exact hx
 ·unfold World.cell? at hx
  cases hb : w.heap[pb]? with
  | none => simp [hb] at hx
  | some _ => exact lt_of_heap hb
abbrev Fr (rb : Nat) (w w' : World) : Prop := w.grownBy w' (some rb)
theorem Fr.of_below {rb : Nat} {w w' : World} (h : Below w.heap.size w w') : Fr rb w w' := ⟨h.os, h.tape, h.output, h.size, fun k hk _ => h.block k hk⟩
theorem Fr.refl (rb : Nat) (w : World) : Fr rb w w := World.grownBy.refl w _
theorem Fr.then {rb : Nat} {a b c : World} (h : Fr rb a b) (k : Fr rb b c) : Fr rb a c := World.grownBy.trans h k
theorem Fr.set (rb j : Nat) (w : World) (u : Value) : Fr rb w (w.setCell ⟨rb, j, none⟩ u) := ⟨rfl, rfl, rfl, by simp, fun k _ hk => Below.heap_setCell w _ u k (fun e => hk (by rw [e]))⟩
theorem Fr.row (rb : Nat) (w : World) (cs : Array Value) : Fr rb w (w.setRow rb cs) := setRow_grown w rb cs
def rdC (pb n cap k : Nat) (c h l : Int) (s : Value) : Array Value := #[.slice (some ⟨pb, 0, none⟩) n cap, .int .i64 k, .int .i64 c, .int .i64 h, .int .i64 l, s]
def Rd (xs : List UInt8) (rb : Nat) (w : World) (k : Nat) (c : Int) : Prop := ∃ (pb cap : Nat) (h l : Int) (A : Option Addr) (n q : Nat), pb ≠ rb ∧ k ≤ xs.length + 1 ∧ Bs w (.slice (some ⟨pb, 0, none⟩) xs.length cap) xs ∧ w.heap[rb]? = some (.cells (rdC pb xs.length cap k c h l (.slice A n q)) 98 (0, 0))
section
variable {xs : List UInt8} {rb k : Nat} {w w' : World} {c : Int}
theorem Rd.lt (h : Rd xs rb w k c) : rb < w.heap.size := by obtain ⟨_, _, _, _, _, _, _, _, _, _, h⟩ := h; exact lt_of_heap h
theorem Rd.le (h : Rd xs rb w k c) : k ≤ xs.length + 1 := by obtain ⟨_, _, _, _, _, _, _, _, h, _⟩ := h; exact h
theorem Rd.below (h : Rd xs rb w k c) (hb : Below w.heap.size w w') : Rd xs rb w' k c := by
 have hlt := h.lt
 obtain ⟨a, b, d, e, f, g, i, h1, h2, h3, h4⟩ := h
 exact ⟨a, b, d, e, f, g, i, h1, h2, h3.below hb, (hb.block _ hlt).trans h4⟩
theorem Rd.setAt (h : Rd xs rb w k c) {m : Nat} (hm : m ≤ xs.length + 1) : Rd xs rb (w.setCell ⟨rb, 1, none⟩ (.int .i64 m)) m c := by
 obtain ⟨a, b, d, e, f, g, i, h1, h2, h3, h4⟩ := h
 exact ⟨a, b, d, e, f, g, i, h1, hm, h3.grown (Fr.set rb 1 w _) (fun e => h1 (Option.some.inj e).symm), row_set h4 1 _⟩
theorem Rd.cells (h : Rd xs rb w k c) : ∃ (pb cap : Nat), Bs w (.slice (some ⟨pb, 0, none⟩) xs.length cap) xs ∧ w.cell? ⟨rb, 0, none⟩ = some (.slice (some ⟨pb, 0, none⟩) xs.length cap) ∧ w.cell? ⟨rb, 1, none⟩ = some (.int .i64 k) ∧ w.cell? ⟨rb, 2, none⟩ = some (.int .i64 c) ∧ w.frozen? ⟨rb, 1, none⟩ = false := by
 obtain ⟨a, b, d, e, f, g, i, h1, h2, h3, h4⟩ := h
 exact ⟨a, b, h3, row_cell h4 rfl, row_cell h4 rfl, row_cell h4 rfl, row_frozen h4 1⟩
end
def fltV (c h l : Int) (s : Value) : Value := .agg #[.int .i64 c, .int .i64 h, .int .i64 l, s]
theorem infoFault : (Tryz.prog.info? 52).map (·.size) = some 4 := by kernel_rfl
def FltP (w : World) (c : Int) (e : Ending) (w' : World) : Prop := ∃ (h l : Int) (A : Option Addr) (n q : Nat), e = .returned (fltV c h l (.slice A n q)) ∧ Below w.heap.size w w'
theorem flt_one (c h l : Int) {s : Value} (hs : s.oneCell' = true) : (#[.int .i64 c, .int .i64 h, .int .i64 l, s] : Array Value).all (·.oneCell') = true := by
 simp [hs, show ∀ n, (Value.int .i64 n).oneCell' = true from fun _ => rfl]
theorem refplaced_any (c p : Int) (w : World) : Calls Tryz.prog 79 #[.int .i64 c, .int .i64 p] w fun e w' => FltP w c e w' := by
 go_enter Tryz.func79, Tryz.ntmps79
 go_wp2
 refine bodyPost_ret (results_cell_row Tryz.results79 _ _ w.heap.size 52 #[.int .i64 c, .int .i64 0, .int .i64 0, .slice (some ⟨w.heap.size + 1, 0, none⟩) 1 1] (0, 0) _ (by simp) ?_ Tryz.underlying52 rfl infoFault) rfl ⟨_, _, _, _, _, rfl, ?_⟩
 ·exact (Below.heap_alloc _ _ _ (by simp)).trans (heap_alloc_new w _)
 ·exact ((Below.refl _ _).alloc (Nat.le_refl _) _).alloc (by simp) _
theorem refbare_any (c : Int) (w : World) : Calls Tryz.prog 58 #[.int .i64 c] w fun e w' => FltP w c e w' := by
 go_enter Tryz.func58, Tryz.ntmps58
 go_wp2
 exact bodyPost_ret (results_cell_row Tryz.results58 _ _ w.heap.size 52 #[.int .i64 c, .int .i64 0, .int .i64 0, .slice none 0 0] (0, 0) _ (by simp) (heap_alloc_new w _) Tryz.underlying52 rfl infoFault) rfl ⟨_, _, _, _, _, rfl, alloc_below _ _⟩
section
variable {xs : List UInt8} {rb k : Nat} {w : World} {c : Int}
def GoodP (c : Int) (w : World) (e : Ending) (w' : World) : Prop := e = .returned (.bool (decide (c = 0))) ∧ w = w'
theorem good_any (h : Rd xs rb w k c) : Calls Tryz.prog 60 #[.pointer (some ⟨rb, 0, none⟩)] w fun e w' => GoodP c w e w' := by
 obtain ⟨pb, cap, -, h0, h1, h2, h3⟩ := h.cells
 clear h h0 h1 h3
 go_enter Tryz.func60, Tryz.ntmps60
 go_wp2
 go_ret
 exact ⟨by rfl, rfl⟩
def LookP (xs : List UInt8) (w : World) (e : Ending) (w' : World) : Prop := e = .returned (.tuple #[.int .i32 (nx xs), .int .i64 (nl xs)]) ∧ Below w.heap.size w w'
set_option maxHeartbeats 1000000 in
theorem look_any (h : Rd xs rb w k c) (m : Nat) (hm : m ≤ 1000000000) : Calls Tryz.prog 87 #[.pointer (some ⟨rb, 0, none⟩), .int .i64 m] w fun e w' => LookP (xs.drop m) w e w' := by
 obtain ⟨pb, cap, hb, h0, h1, h2, h3⟩ := h.cells
 have hlen := hb.1
 obtain ⟨-, A', c', e3, hcap, -⟩ := id hb
 obtain ⟨rfl, -, rfl⟩ := Value.slice.inj e3
 clear e3
 have Hb := Lib.hid hb
 clear h h1 h2 h3 hb
 go_enter Tryz.func87, Tryz.ntmps87
 by_cases hle : xs.length ≤ m
 ·have hlei : (xs.length : Int) ≤ m := by omega
  go_wp2_with fail
  go_ret2
  rw [LookP, List.drop_eq_nil_of_le hle]
  exact ⟨rfl, Below.refl _ _⟩
 ·have hlei : ¬ (xs.length : Int) ≤ m := by omega
  have Hc := Lib.hid (Hb.out.cut (k := m) (by omega))
  have hml : (m : Int) ≤ xs.length := by omega
  obtain ⟨r1, r2, r3, hr⟩ : ∃ r1 r2 r3, dec (xs.drop m) = (r1, r2, r3) := ⟨_, _, _, rfl⟩
  have Hr := Lib.hid hr
  have hne : xs.drop m ≠ [] := by intro e; have := congrArg List.length e; rw [List.length_drop] at this; simp at this; omega
  have Hne := Lib.hid hne
  have hadd : (⟨pb, 0, none⟩ : Addr).add m = ⟨pb, 0 + m, none⟩ := Addr.add_lit _ _ _
  have Hll := Lib.hid (show (xs.drop m).length = xs.length - m by rw [List.length_drop])
  clear hr hne
  go_wp2_with fail
  have hD := refdec_any (Hc.out)
  rw [Hr.out, Nat.zero_add] at hD
  (with_reducible refine hD.mono ?_)
  rintro e w1 ⟨⟨code, rfl, hcode⟩, hb1⟩
  have Hb1 := Lib.hid hb1
  have Hcode := Lib.hid hcode
  clear hD hb1 hcode
  by_cases h0 : code = 0
  ·subst h0
   go_wp2_with fail
   go_ret2
   refine ⟨?_, Hb1.out⟩
   have h3 := Hcode.out.1 (by trivial)
   unfold nx nl
   rw [if_neg Hne.out, if_neg Hne.out, Hr.out]
   simp only
   rw [if_pos h3, if_pos h3]
   rfl
  ·have h0' : (code != 0) = true := by simpa using h0
   go_wp2_with fail
   go_ret2
   refine ⟨?_, Hb1.out⟩
   have h3 := mt Hcode.out.2 h0
   unfold nx nl
   rw [if_neg Hne.out, if_neg Hne.out, Hr.out]
   simp only
   rw [if_neg h3, if_neg h3]
   rfl
end
def isIn (s : List UInt8) (c : Int) : Bool := s.any (fun x => decide ((x.toNat : Int) = c))
def IsInP (s : List UInt8) (c : Int) (w : World) (e : Ending) (w' : World) : Prop := e = .returned (.bool (isIn s c)) ∧ w = w'
def IsRel (s : ByteArray) (c : Int) (w : World) (s5 : Value) (wr : World) : Prop := ∃ k : Nat, k ≤ s.size ∧ s5 = .int .i64 k ∧ isIn (s.data.toList.take k) c = false ∧ w = wr
theorem isIn_next {s : ByteArray} {k : Nat} {c : Int} (h : k < s.size) : isIn (s.data.toList.take (k + 1)) c = (isIn (s.data.toList.take k) c || decide ((s[k].toNat : Int) = c)) := by
 rw [List.take_succ_eq_append_getElem (by simpa using h)]
 unfold isIn
 rw [List.any_append]
 simp
 rfl
theorem isIn_yes {s : ByteArray} {k : Nat} {c : Int} (h : k < s.size) (hc : (s[k].toNat : Int) = c) : isIn s.data.toList c = true := by
 unfold isIn
 rw [List.any_eq_true]
 exact ⟨s[k], List.getElem_mem (by simpa using h), by simpa using hc⟩
set_option maxHeartbeats 1000000 in
theorem is_any (s : ByteArray) (hs : s.size ≤ 1000000) (c : Int) (w : World) : Calls Tryz.prog 109 #[.string s, .int .i32 c] w fun e w' => IsInP s.data.toList c w e w' := by
 go_enter Tryz.func109, Tryz.ntmps109
 go_wp2_with fail
 go_loopw [5] (fun s5 wr => IsRel s c w s5 wr) (fun v _ => s.size - (intOf v).toNat)
 case atStart => exact ⟨0, Nat.zero_le _, rfl, rfl, rfl⟩
 case round =>
  obtain ⟨k, hk, rfl, hi, rfl⟩ := hrel
  have Hi := Lib.hid hi
  clear hi
  by_cases hlt : k < s.size
  ·have hb8 : s[k].toNat < 256 := s[k].toNat_lt
   by_cases hc : (s[k].toNat : Int) = c
   ·have hc1 : ((s[k].toNat : Int) == c) = true := by simpa using hc
    have Hc := Lib.hid (isIn_yes hlt hc)
    clear hc
    go_wp2_with fail
    go_ret
    exact ⟨by rw [Hc.out]; rfl, rfl⟩
   ·have hc1 : ((s[k].toNat : Int) == c) = false := by simpa using hc
    have Hn := Lib.hid (show isIn (s.data.toList.take (k + 1)) c = false by rw [isIn_next hlt, Hi.out]; simpa using hc)
    clear hc
    go_wp2_with fail
    exact ⟨⟨k + 1, by omega, by go_num, Hn.out, rfl⟩, by simp [intOf]; omega⟩
  ·obtain rfl : k = s.size := by omega
   go_wp2_with fail
   go_ret
   exact ⟨by have := Hi.out; rw [List.take_of_length_le (by simp)] at this; rw [this]; rfl, rfl⟩
section
variable {xs : List UInt8} {rb k : Nat} {w : World} {c : Int}
def WrongP (xs : List UInt8) (rb : Nat) (w : World) (k : Nat) (e : Ending) (w' : World) : Prop := e = .returned (.tuple #[]) ∧ ∃ c : Int, c ≠ 0 ∧ Rd xs rb w' k c ∧ Fr rb w w'
set_option maxHeartbeats 1000000 in
theorem wrong_any (h : Rd xs rb w k c) (m : Nat) (hm : m ≤ 1000000000) : Calls Tryz.prog 61 #[.pointer (some ⟨rb, 0, none⟩), .int .i64 m] w fun e w' => WrongP xs rb w k e w' := by
 have H := Lib.hid h
 clear h
 go_enter Tryz.func61, Tryz.ntmps61
 go_wp2_with fail
 (with_reducible refine (good_any H.out).mono ?_)
 rintro e w1 ⟨rfl, rfl⟩
 by_cases hc : c = 0
 ·subst hc
  go_wp2_with fail
  (with_reducible refine (look_any H.out m hm).mono ?_)
  rintro e w1 ⟨rfl, hb⟩
  have H1 := Lib.hid (H.out.below hb)
  have Hb := Lib.hid hb
  clear hb
  have key : ∀ (c' : Int) (w2 : World), c' ≠ 0 → Below w1.heap.size w1 w2 → ∀ (h l : Int) (A : Option Addr) (n q : Nat), ∃ old new : Array Value, w2.heap[rb]? = some (.cells old 98 (0, 0)) ∧ 2 + 4 = old.size ∧ (old.toList.take 2 ++ [Value.int .i64 c', Value.int .i64 h, Value.int .i64 l, Value.slice A n q]).toArray = new ∧ WrongP xs rb w k (.returned (.tuple #[])) (w2.setRow rb new) := by
   intro c' w2 hc' hb2 h l A n q
   have h2 := H1.out.below hb2
   obtain ⟨a, b, d, e, f, g, i, h1, h2, h3, h4⟩ := h2
   refine ⟨_, _, h4, rfl, rfl, rfl, c', hc', ⟨a, b, h, l, A, n, q, h1, h2, h3.grown (Fr.row _ _ _) (fun e => h1 (Option.some.inj e).symm), setRow_heap _ _ _ _ _ _ h4⟩, (Fr.of_below Hb.out).then ((Fr.of_below hb2).then (Fr.row _ _ _))⟩
  have Key := Lib.hid key
  clear key
  by_cases hx : nx (xs.drop m) = -2
  ·have hx1 : (nx (xs.drop m) == -2) = true := by simpa using hx
   have Hx := Lib.hid hx
   clear hx
   go_wp2_with fail
   (with_reducible refine (refplaced_any 101 m w1).mono ?_)
   rintro e w2 ⟨h, l, A, n, q, rfl, hb2⟩
   obtain ⟨old, new, h1, h2, h3, h4⟩ := Key.out 101 w2 (by decide) hb2 h l A n q
   have H2 := Lib.hid h1
   have H3 := Lib.hid h2
   have H4 := Lib.hid h3
   have H5 := Lib.hid h4
   clear h1 h2 h3 h4 hb2
   unfold fltV
   go_wp2_with (refine wpList_store_tail rfl 52 (.tmp 23) (.tmp 21) rfl rfl rb 2 #[.int .i64 101, .int .i64 h, .int .i64 l, .slice A n q] new (by simp [Act.eval]) (by simp [Act.eval]) 98 old H2.out infoFault H3.out (flt_one 101 h l rfl) H4.out ?_)
   go_end0
   exact H5.out
  ·have hx1 : (nx (xs.drop m) == -2) = false := by simpa using hx
   have Hx := Lib.hid hx
   clear hx
   go_wp2_with fail
   (with_reducible refine (refplaced_any 118 m w1).mono ?_)
   rintro e w2 ⟨h, l, A, n, q, rfl, hb2⟩
   obtain ⟨old, new, h1, h2, h3, h4⟩ := Key.out 118 w2 (by decide) hb2 h l A n q
   have H2 := Lib.hid h1
   have H3 := Lib.hid h2
   have H4 := Lib.hid h3
   have H5 := Lib.hid h4
   clear h1 h2 h3 h4 hb2
   unfold fltV
   go_wp2_with (refine wpList_store_tail rfl 52 (.tmp 23) (.tmp 21) rfl rfl rb 2 #[.int .i64 118, .int .i64 h, .int .i64 l, .slice A n q] new (by simp [Act.eval]) (by simp [Act.eval]) 98 old H2.out infoFault H3.out (flt_one 118 h l rfl) H4.out ?_)
   go_end0
   exact H5.out
 ·have hc' : decide (c = 0) = false := by simpa using hc
  go_wp2_with fail
  exact bodyPost_ret (results_none rfl _ _ _) rfl ⟨rfl, c, hc, H.out, Fr.refl _ _⟩
end
end Go.Proofs.YthhnmpkgleelfaaGreatDoor
