import Derived.Test.YthhnmpkgleelfaaGreatDoorK15
import Derived.Test.YthhnmpkgleelfaaGreatDoorK5
set_option linter.unusedVariables false
set_option linter.unusedSimpArgs false
namespace Go.Proofs.YthhnmpkgleelfaaGreatDoor
open Go.RowKit
theorem run_append_none {t e : TypeId} {z : Value} {k B : Nat} (E : ElemK t e z k B) (w : World) (base : Nat) (ty : TypeId) (v : Value) (n : Nat) (xs : List Value) (hown : w.ownsRow base e k v n xs) (c : Nat) :
  (Builtin.append_ #[t, t] ty #[v, .slice none 0 c]).run Tryz.prog w = .ok v w := by
 obtain ⟨i0, hi, hz0, hz1, hz2⟩ := info_parts E.hi
 rcases hown.2 with ⟨rfl, rfl⟩ | ⟨g, cap, cur, rfl, _, _, hnc, _⟩
 ·simp [Builtin.append_, run_underlying E.ht, sizeOf, typeInfo, hi, Builtin.lenOf, Builtin.firstCells]
 ·simp [Builtin.append_, run_underlying E.ht, sizeOf, typeInfo, hi, Builtin.lenOf, Builtin.firstCells, hnc, storeCells]
theorem wpList_append_none {t e : TypeId} {z : Value} {k B : Nat} (E : ElemK t e z k B) {ops : Array Oper} {rest : List Oper} {o : Oper} {a : Act} {Q : Exit → Act → World → Prop} {w : World} (hgd : o.guard = none) (s x : Operand)
  (ho : o.op = .call { callee := .builtin .append, args := #[s, x], argTypes := #[t, t] }) (base : Nat) (v : Value) (n : Nat) (us : List Value) (hs : a.eval s = v) (hown : w.ownsRow base e k v n us) (c : Nat) (hx : a.eval x = .slice none 0 c)
  (h : wpList Tryz.prog ops Q rest (a.put o.dst v) w) : wpList Tryz.prog ops Q (o :: rest) a w :=
 wpList_plain hgd fun _ hK => by
  unfold Oper.wp execOp
  simp only [ho, resolve, invoke, builtin, Sem.run_bind, Sem.run_pure, Result.andThen_ok, List.map_toArray, List.map_cons, List.map_nil, hs, hx, run_append_none E w base _ v n us hown c]
  exact hK _ _ h
theorem take_next {α : Type} {l : List α} {i : Nat} {a : α} (h : l[i]? = some a) : l.take (i + 1) = l.take i ++ [a] := by rw [List.take_add_one, h]; rfl
theorem Rns.slk {w : World} {base : Nat} {v : Value} {l : List Int} (h : Rns w base v l) : SlK 1 w v l.length (l.map runeV) := SlK.of_own h
theorem rns_take {w : World} {base g n q : Nat} {l : List Int} (h : Rns w base (.slice (some ⟨g, 0, none⟩) n q) l) (k : Nat) (hk : k ≤ l.length) (c : Nat) (hc : k ≤ c) : SlK 1 w (.slice (some ⟨g, 0, none⟩) k c) k ((l.take k).map runeV) := by
 obtain ⟨_, _, e, _, hm, _⟩ := ownsRow_slice h
 obtain ⟨_, rfl, _⟩ := Value.slice.inj e
 refine ⟨by simp; omega, by unfold maxLen at hm; omega, _, _, rfl, hc, fun _ => ⟨g, 0, rfl, fun i u hu => ?_⟩⟩
 have hi : i < k := by have := (List.getElem?_eq_some_iff.1 hu).1; simp at this; omega
 rw [Nat.zero_add, ownsRow_cell h rfl i (by omega)]
 rw [← hu, List.getElem?_map, List.getElem?_map, List.getElem?_take, if_pos hi]
theorem rns_drop {w : World} {base g n q : Nat} {l : List Int} (h : Rns w base (.slice (some ⟨g, 0, none⟩) n q) l) (k : Nat) (hk : k ≤ l.length) (c : Nat) (hc : l.length - k ≤ c) : SlK 1 w (.slice (some ⟨g, k, none⟩) (l.length - k) c) (l.length - k) ((l.drop k).map runeV) := by
 obtain ⟨_, _, e, _, hm, _⟩ := ownsRow_slice h
 obtain ⟨_, rfl, _⟩ := Value.slice.inj e
 refine ⟨by simp, by unfold maxLen at hm; omega, _, _, rfl, hc, fun _ => ⟨g, k, rfl, fun i u hu => ?_⟩⟩
 have hi : i < l.length - k := by have := (List.getElem?_eq_some_iff.1 hu).1; simp at this; omega
 rw [ownsRow_cell h rfl (k + i) (by omega)]
 rw [← hu, List.getElem?_map, List.getElem?_map, List.getElem?_drop]
theorem rns_empty (w : World) (ad : Addr) (c : Nat) : SlK 1 w (.slice (some ad) 0 c) 0 [] := ⟨rfl, Nat.zero_le _, _, _, rfl, Nat.zero_le _, fun h => by omega⟩
theorem flatS_take (L : Spans) (j : Nat) : flatS (L.take j) = (flatS L).take (2 * j) := by
 induction L generalizing j with
 | nil => simp [flatS]
 | cons x L ih =>
  obtain ⟨a, b⟩ := x
  cases j with
  | zero => simp [flatS]
  | succ j => rw [show 2 * (j + 1) = 2 * j + 1 + 1 by omega]; simp [flatS, ih]
theorem flatS_drop (L : Spans) (j : Nat) : flatS (L.drop j) = (flatS L).drop (2 * j) := by
 induction L generalizing j with
 | nil => simp [flatS]
 | cons x L ih =>
  obtain ⟨a, b⟩ := x
  cases j with
  | zero => simp
  | succ j => rw [show 2 * (j + 1) = 2 * j + 1 + 1 by omega]; simp [flatS, ih]
def PlP (w : World) (L : Spans) (a b : Int) (e : Ending) (w' : World) : Prop := ∃ j : Nat, j ≤ L.length ∧ (∀ p ∈ L.take j, p.1 < a) ∧ (∀ p, L[j]? = some p → a ≤ p.1) ∧ RnsP w (flatS (L.take j ++ (a, b) :: L.drop j)) e w'
def PlRel (w : World) (L : Spans) (a : Int) (s7 : Value) (wr : World) : Prop := ∃ j : Nat, j ≤ L.length ∧ s7 = .int .i64 ((2 * j : Nat) : Int) ∧ (∀ p ∈ L.take j, p.1 < a) ∧ w = wr
set_option maxHeartbeats 4000000 in
set_option maxRecDepth 100000 in
theorem rplaced_nil {w : World} (a b : Int) : Calls Tryz.prog 166 #[.slice none 0 0, .int .i32 a, .int .i32 b] w fun e w' => PlP w [] a b e w' := by
 go_enter Tryz.func166, Tryz.ntmps166
 go_wp2_with fail
 go_loopw [7] (fun s7 wr => s7 = .int .i64 0 ∧ w = wr) (fun _ _ => 0)
 case atStart => exact ⟨rfl, rfl⟩
 case round =>
  obtain ⟨rfl, rfl⟩ := hrel
  have Ho := Lib.hid (ownsRow_made (k := 1) (cap := 0) (heap_alloc_new w (.cells #[] 21)) (Nat.le_refl _) (by unfold maxLen; omega) (by rfl))
  have Hoa := Lib.hid (Ho.out.below' (alloc_below _ (.cells #[.int .i32 a, .int .i32 b] 21)))
  have Hcn := Lib.hid (cells_new (w.alloc (.cells #[] 21)) [.int .i32 a, .int .i32 b] 21)
  rw [World.size_alloc] at Hcn
  go_wp2_with (first
   | (at_builtin; refine wpList_append_k elRune rfl (.tmp 28) (.tmp 31) rfl w.heap.size (.slice (some ⟨w.heap.size, 0, none⟩) 0 0) 0 (w.heap.size + 1) 2 2 [] [.int .i32 a, .int .i32 b] (by simp [Act.eval]) Hoa.out (by simp [Act.eval]) rfl Hcn.out (by simp [Value.oneCell']) (by unfold maxLen; omega) (by omega) (by simp; omega) ?_; intro v' w5 h1 h2 h3; obtain ⟨A5, q5, rfl, -, -, hA5⟩ := ownsRow_slice h1; obtain ⟨g5, rfl⟩ := hA5 (by omega); clear hA5; have Hp := Lib.hid (show w5.ownsRow w.heap.size 21 1 (.slice (some ⟨g5, 0, none⟩) 2 q5) 2 ([] ++ [.int .i32 a, .int .i32 b]) from h1); have Hb5 : Hid (Below w.heap.size w w5) := Lib.hid (own_below (((Below.refl _ w).alloc (Nat.le_refl _) _).alloc (by simp) _) Hoa.out (by simp; omega) h2); clear h1 h2 h3)
   | (at_builtin; refine wpList_append_none elRune rfl (.tmp 33) (.tmp 36) rfl w.heap.size (.slice (some ⟨g5, 0, none⟩) 2 q5) 2 _ (by simp [Act.eval]) Hp.out 0 (by simp [Act.eval]) ?_))
  go_ret
  exact ⟨0, Nat.le_refl _, by simp, by simp, _, q5, rfl, Hb5.out, Hp.out⟩
set_option maxHeartbeats 8000000 in
set_option maxRecDepth 100000 in
theorem rplaced_some {w : World} {g q : Nat} {L : Spans} (h : Rns w 0 (.slice (some ⟨g, 0, none⟩) (2 * L.length) q) (flatS L)) (hl : L.length ≤ 100000) (a b : Int) (hb : ∀ p ∈ L, -10 ≤ p.1 ∧ p.1 ≤ 1114120) : Calls Tryz.prog 166 #[.slice (some ⟨g, 0, none⟩) ((2 * L.length : Nat)) q, .int .i32 a, .int .i32 b] w fun e w' => PlP w L a b e w' := by
 obtain ⟨_, _, e, hq, _, _⟩ := ownsRow_slice h
 obtain ⟨rfl, -, rfl⟩ := Value.slice.inj e
 rw [flatS_len] at hq
 have H := Lib.hid h
 have Hb := Lib.hid hb
 have hgw : g < w.heap.size := by obtain ⟨_, _, h2⟩ := ownsRow_block h (g := g) rfl; exact lt_of_heap h2
 clear h hb e
 go_enter Tryz.func166, Tryz.ntmps166
 go_wp2_with fail
 go_loopw [7] (fun s7 wr => PlRel w L a s7 wr) (fun v _ => 2 * L.length - (intOf v).toNat)
 case atStart => exact ⟨0, Nat.zero_le _, rfl, by simp, rfl⟩
 case round =>
  obtain ⟨j, hj, rfl, hlow, rfl⟩ := hrel
  have Hlow := Lib.hid hlow
  clear hlow
  have hend : (∀ p, L[j]? = some p → a ≤ p.1) → True := fun _ => trivial
  clear hend
  have hcond : (j < L.length ∧ (∃ x, L[j]? = some x ∧ x.1 < a)) ∨ (∀ p, L[j]? = some p → a ≤ p.1) := by
   cases hx : L[j]? with
   | none => exact .inr (by simp)
   | some x =>
    by_cases hxa : x.1 < a
    ·exact .inl ⟨(List.getElem?_eq_some_iff.1 hx).1, x, rfl, hxa⟩
    ·exact .inr (fun p hp => by cases hp; omega)
  rcases hcond with ⟨hlt, ⟨x1, x2⟩, hx, hxa⟩ | hge
  ·obtain ⟨ga, -⟩ := flatS_get L j x1 x2 hx
   have hrow := H.out
   unfold Rns at hrow
   rw [flatS_len] at hrow
   have ca := ownsRow_cell hrow rfl (2 * j) (by omega)
   rw [List.getElem?_map, ga] at ca
   simp only [Option.map_some, runeV] at ca
   have h2j : ((2 * j : Nat) : Int) < ((2 * L.length : Nat) : Int) := by omega
   have Hn := Lib.hid (show ∀ p ∈ L.take (j + 1), p.1 < a by rw [take_next hx]; intro p hp; rcases List.mem_append.1 hp with h | h; (· exact Hlow.out p h); (· simp at h; subst h; exact hxa))
   clear ga hrow hx
   go_wp2_with fail
   exact ⟨⟨j + 1, by omega, by go_num, Hn.out, rfl⟩, by simp [intOf]; omega⟩
  ·have Hge := Lib.hid hge
   clear hge
   have Ho := Lib.hid (ownsRow_made (k := 1) (cap := 0) (heap_alloc_new w (.cells #[] 21)) (Nat.le_refl _) (by unfold maxLen; omega) (by rfl))
   have hb1 := alloc_below w (.cells #[] 21)
   have Hs1 := Lib.hid (rns_take (H.out.below hb1) (2 * j) (by rw [flatS_len]; omega) q (by omega))
   have Htk := Lib.hid (flatS_take L j)
   have Hdr := Lib.hid (flatS_drop L j)
   have Hfl := Lib.hid (flatS_len L)
   have hjl : ((2 * j : Nat) : Int) ≤ ((2 * L.length : Nat) : Int) := by omega
   have hcnd : ((2 * j : Nat) : Int) < ((2 * L.length : Nat) : Int) → ∃ x : Int, w.cell? ⟨g, 2 * j, none⟩ = some (.int .i32 x) ∧ a ≤ x := by
    intro h
    obtain ⟨⟨x1, x2⟩, hx⟩ : ∃ x, L[j]? = some x := ⟨_, List.getElem?_eq_getElem (by omega)⟩
    obtain ⟨ga, -⟩ := flatS_get L j x1 x2 hx
    have hrow := H.out
    unfold Rns at hrow
    rw [flatS_len] at hrow
    have ca := ownsRow_cell hrow rfl (2 * j) (by omega)
    rw [List.getElem?_map, ga] at ca
    exact ⟨x1, ca, Hge.out _ hx⟩
   have Hcnd := Lib.hid hcnd
   clear hcnd hb1
   have fin : ∀ (ad : Addr) (cc : Nat), True := fun _ _ => trivial
   clear fin
   have HS2 : Hid (∀ w2, Below w.heap.size w w2 → SlK 1 w2 (.slice (some ⟨g, 2 * j, none⟩) (2 * L.length - 2 * j) (q - 2 * j)) (2 * L.length - 2 * j) (((flatS L).drop (2 * j)).map runeV)) := Lib.hid (by
    intro w2 hb2
    have := rns_drop (H.out.below hb2) (2 * j) (by rw [flatS_len]; omega) (q - 2 * j) (by rw [flatS_len]; omega)
    rw [flatS_len] at this
    exact this)
   by_cases hlt : ((2 * j : Nat) : Int) < ((2 * L.length : Nat) : Int)
   ·obtain ⟨x, hx, hax⟩ := Hcnd.out hlt
    have Hcn := Lib.hid (fun w3 => cells_new w3 [.int .i32 a, .int .i32 b] 21)
    go_wp2_with (first
     | (at_builtin; refine wpList_append_sl elRune rfl (.tmp 23) (.tmp 26) rfl w.heap.size (.slice (some ⟨w.heap.size, 0, none⟩) 0 0) 0 ⟨g, 0, none⟩ q (2 * j) [] (((flatS L).take (2 * j)).map runeV) (by simp [Act.eval]) Ho.out (by simp [Act.eval]) Hs1.out (runeVs_one _) (by unfold maxLen; omega) (by omega) (by simp) ?_; intro v1 w3 h1 h2 h3; rw [Nat.zero_add, List.nil_append] at h1; obtain ⟨A1, q1, rfl, -, -, -⟩ := ownsRow_slice h1; have hb3 := own_below (alloc_below w _) Ho.out (by simp) h2; have hsz3 := hb3.size; have Hb4 := Lib.hid (hb3.alloc hsz3 (.cells #[.int .i32 a, .int .i32 b] 21)); have Hoa := Lib.hid (h1.below' (alloc_below w3 (.cells #[.int .i32 a, .int .i32 b] 21))); clear h1 h2 h3 hb3)
     | (at_builtin; refine wpList_append_k elRune rfl (.tmp 28) (.tmp 31) rfl w.heap.size (.slice A1 (2 * j) q1) (2 * j) w3.heap.size 2 2 (((flatS L).take (2 * j)).map runeV) [.int .i32 a, .int .i32 b] (by simp [Act.eval]) Hoa.out (by simp [Act.eval]) rfl (Hcn.out w3) (by simp [Value.oneCell']) (by unfold maxLen; omega) (by omega) (by simp; omega) ?_; intro v5 w5 h1 h2 h3; obtain ⟨A5, q5, rfl, -, -, hA5⟩ := ownsRow_slice h1; obtain ⟨g5, rfl⟩ := hA5 (by omega); clear hA5; have hb5 := own_below Hb4.out Hoa.out Hb4.out.size h2; have hsz5 := hb5.size; have Hb5 := Lib.hid hb5; have Ho5 := Lib.hid h1; clear h1 h2 h3 hb5)
     | (at_builtin; refine wpList_append_sl elRune rfl (.tmp 33) (.tmp 36) rfl w.heap.size (.slice (some ⟨g5, 0, none⟩) (2 * j + 2) q5) (2 * j + 2) ⟨g, 2 * j, none⟩ (q - 2 * j) (2 * L.length - 2 * j) _ (((flatS L).drop (2 * j)).map runeV) (by simp [Act.eval]) Ho5.out (by simp [Act.eval]) (HS2.out _ Hb5.out) (runeVs_one _) (by unfold maxLen; omega) (by omega) hsz5 ?_; intro v7 w7 h1 h2 h3; obtain ⟨A7, q7, rfl, -, -, -⟩ := ownsRow_slice h1; have Hb7 := Lib.hid (own_below Hb5.out Ho5.out hsz5 h2); have Ho7 := Lib.hid h1; clear h1 h2 h3))
    go_ret
    have hlen : (flatS (L.take j ++ (a, b) :: L.drop j)).length = 2 * j + 2 + (2 * L.length - 2 * j) := by rw [flatS_len]; simp; omega
    refine ⟨j, hj, Hlow.out, Hge.out, ?_⟩
    unfold RnsP Rns
    rw [hlen]
    refine ⟨A7, q7, rfl, Hb7.out, ?_⟩
    rw [flatS_append, Htk.out, show flatS ((a, b) :: L.drop j) = [a, b] ++ flatS (L.drop j) from rfl, Hdr.out, List.map_append, List.map_append, ← List.append_assoc]
    exact Ho7.out
   ·have hjl2 : j = L.length := by omega
    subst hjl2
    have Hcn := Lib.hid (fun w3 => cells_new w3 [.int .i32 a, .int .i32 b] 21)
    by_cases hq2 : q = 2 * L.length
    ·subst hq2
     go_wp2_with (first
      | (at_builtin; refine wpList_append_sl elRune rfl (.tmp 23) (.tmp 26) rfl w.heap.size (.slice (some ⟨w.heap.size, 0, none⟩) 0 0) 0 ⟨g, 0, none⟩ (2 * L.length) (2 * L.length) [] (((flatS L).take (2 * L.length)).map runeV) (by simp [Act.eval]) Ho.out (by simp [Act.eval]) Hs1.out (runeVs_one _) (by unfold maxLen; omega) (by omega) (by simp) ?_; intro v1 w3 h1 h2 h3; rw [Nat.zero_add, List.nil_append] at h1; obtain ⟨A1, q1, rfl, -, -, -⟩ := ownsRow_slice h1; have hb3 := own_below (alloc_below w _) Ho.out (by simp) h2; have hsz3 := hb3.size; have Hb4 := Lib.hid (hb3.alloc hsz3 (.cells #[.int .i32 a, .int .i32 b] 21)); have Hoa := Lib.hid (h1.below' (alloc_below w3 (.cells #[.int .i32 a, .int .i32 b] 21))); clear h1 h2 h3 hb3)
      | (at_builtin; refine wpList_append_k elRune rfl (.tmp 28) (.tmp 31) rfl w.heap.size (.slice A1 (2 * L.length) q1) (2 * L.length) w3.heap.size 2 2 (((flatS L).take (2 * L.length)).map runeV) [.int .i32 a, .int .i32 b] (by simp [Act.eval]) Hoa.out (by simp [Act.eval]) rfl (Hcn.out w3) (by simp [Value.oneCell']) (by unfold maxLen; omega) (by omega) (by simp; omega) ?_; intro v5 w5 h1 h2 h3; obtain ⟨A5, q5, rfl, -, -, hA5⟩ := ownsRow_slice h1; obtain ⟨g5, rfl⟩ := hA5 (by omega); clear hA5; have hb5 := own_below Hb4.out Hoa.out Hb4.out.size h2; have hsz5 := hb5.size; have Hb5 := Lib.hid hb5; have Ho5 := Lib.hid h1; clear h1 h2 h3 hb5)
      | (at_builtin; refine wpList_append_sl elRune rfl (.tmp 33) (.tmp 36) rfl w.heap.size (.slice (some ⟨g5, 0, none⟩) (2 * L.length + 2) q5) (2 * L.length + 2) ⟨g, 0, none⟩ 0 0 _ [] (by simp [Act.eval]) Ho5.out (by simp [Act.eval]) (rns_empty _ _ _) (by simp) (by unfold maxLen; omega) (by omega) hsz5 ?_; intro v7 w7 h1 h2 h3; obtain ⟨A7, q7, rfl, -, -, -⟩ := ownsRow_slice h1; have Hb7 := Lib.hid (own_below Hb5.out Ho5.out hsz5 h2); have Ho7 := Lib.hid h1; clear h1 h2 h3))
     go_ret
     have hlen : (flatS (L.take L.length ++ (a, b) :: L.drop L.length)).length = 2 * L.length + 2 + 0 := by rw [flatS_len]; simp; omega
     refine ⟨L.length, hj, Hlow.out, Hge.out, ?_⟩
     unfold RnsP Rns
     rw [hlen]
     refine ⟨A7, q7, rfl, Hb7.out, ?_⟩
     rw [flatS_append, Htk.out, show flatS ((a, b) :: L.drop L.length) = [a, b] ++ flatS (L.drop L.length) from rfl, Hdr.out, List.map_append, List.map_append, ← List.append_assoc, List.drop_of_length_le (by rw [flatS_len]; omega)]
     exact Ho7.out
    ·skip
     go_wp2_with (first
      | (at_builtin; refine wpList_append_sl elRune rfl (.tmp 23) (.tmp 26) rfl w.heap.size (.slice (some ⟨w.heap.size, 0, none⟩) 0 0) 0 ⟨g, 0, none⟩ q (2 * L.length) [] (((flatS L).take (2 * L.length)).map runeV) (by simp [Act.eval]) Ho.out (by simp [Act.eval]) Hs1.out (runeVs_one _) (by unfold maxLen; omega) (by omega) (by simp) ?_; intro v1 w3 h1 h2 h3; rw [Nat.zero_add, List.nil_append] at h1; obtain ⟨A1, q1, rfl, -, -, -⟩ := ownsRow_slice h1; have hb3 := own_below (alloc_below w _) Ho.out (by simp) h2; have hsz3 := hb3.size; have Hb4 := Lib.hid (hb3.alloc hsz3 (.cells #[.int .i32 a, .int .i32 b] 21)); have Hoa := Lib.hid (h1.below' (alloc_below w3 (.cells #[.int .i32 a, .int .i32 b] 21))); clear h1 h2 h3 hb3)
      | (at_builtin; refine wpList_append_k elRune rfl (.tmp 28) (.tmp 31) rfl w.heap.size (.slice A1 (2 * L.length) q1) (2 * L.length) w3.heap.size 2 2 (((flatS L).take (2 * L.length)).map runeV) [.int .i32 a, .int .i32 b] (by simp [Act.eval]) Hoa.out (by simp [Act.eval]) rfl (Hcn.out w3) (by simp [Value.oneCell']) (by unfold maxLen; omega) (by omega) (by simp; omega) ?_; intro v5 w5 h1 h2 h3; obtain ⟨A5, q5, rfl, -, -, hA5⟩ := ownsRow_slice h1; obtain ⟨g5, rfl⟩ := hA5 (by omega); clear hA5; have hb5 := own_below Hb4.out Hoa.out Hb4.out.size h2; have hsz5 := hb5.size; have Hb5 := Lib.hid hb5; have Ho5 := Lib.hid h1; clear h1 h2 h3 hb5)
      | (at_builtin; refine wpList_append_sl elRune rfl (.tmp 33) (.tmp 36) rfl w.heap.size (.slice (some ⟨g5, 0, none⟩) (2 * L.length + 2) q5) (2 * L.length + 2) ⟨g, 2 * L.length, none⟩ (q - 2 * L.length) 0 _ [] (by simp [Act.eval]) Ho5.out (by simp [Act.eval]) (rns_empty _ _ _) (by simp) (by unfold maxLen; omega) (by omega) hsz5 ?_; intro v7 w7 h1 h2 h3; obtain ⟨A7, q7, rfl, -, -, -⟩ := ownsRow_slice h1; have Hb7 := Lib.hid (own_below Hb5.out Ho5.out hsz5 h2); have Ho7 := Lib.hid h1; clear h1 h2 h3))
     go_ret
     have hlen : (flatS (L.take L.length ++ (a, b) :: L.drop L.length)).length = 2 * L.length + 2 + 0 := by rw [flatS_len]; simp; omega
     refine ⟨L.length, hj, Hlow.out, Hge.out, ?_⟩
     unfold RnsP Rns
     rw [hlen]
     refine ⟨A7, q7, rfl, Hb7.out, ?_⟩
     rw [flatS_append, Htk.out, show flatS ((a, b) :: L.drop L.length) = [a, b] ++ flatS (L.drop L.length) from rfl, Hdr.out, List.map_append, List.map_append, ← List.append_assoc, List.drop_of_length_le (by rw [flatS_len]; omega)]
     exact Ho7.out
end Go.Proofs.YthhnmpkgleelfaaGreatDoor
