/- The tied card of wicketlaw12.SimOwn is proved: whatever the string and the two lists of characters, the call returns true, and they read afterwards as before. Condition: the listed package-level variables read as their text lays them (the card ties them). -/
import Derived.Test.YthhnmpkgleelfaaGreatDoorL44
import Derived.Test.YthhnmpkgleelfaaGreatDoorL38
import Derived.Test.YthhnmpkgleelfaaGreatDoorL37
import Derived.Test.YthhnmpkgleelfaaGreatDoorL36
import Derived.Test.YthhnmpkgleelfaaGreatDoorL35
import Derived.Test.YthhnmpkgleelfaaGreatDoorL34
import Derived.Test.YthhnmpkgleelfaaGreatDoorL33
import Derived.Test.YthhnmpkgleelfaaGreatDoorL32
import Derived.Test.YthhnmpkgleelfaaGreatDoorL31
import Derived.Test.YthhnmpkgleelfaaGreatDoorL29
import Derived.Test.YthhnmpkgleelfaaGreatDoorL28
import Derived.Test.YthhnmpkgleelfaaGreatDoorL27
import Derived.Test.YthhnmpkgleelfaaGreatDoorL26
import Derived.Test.YthhnmpkgleelfaaGreatDoorL25
import Derived.Test.YthhnmpkgleelfaaGreatDoorL24
import Derived.Test.YthhnmpkgleelfaaGreatDoorL23
import Derived.Test.YthhnmpkgleelfaaGreatDoorL22
import Derived.Test.YthhnmpkgleelfaaGreatDoorL21
import Derived.Test.YthhnmpkgleelfaaGreatDoorL20
import Derived.Test.YthhnmpkgleelfaaGreatDoorL19
import Derived.Test.YthhnmpkgleelfaaGreatDoorL18
import Derived.Test.YthhnmpkgleelfaaGreatDoorL17
import Derived.Test.YthhnmpkgleelfaaGreatDoorL16
import Derived.Test.YthhnmpkgleelfaaGreatDoorL12
import Derived.Test.YthhnmpkgleelfaaGreatDoorL11
import Derived.Test.YthhnmpkgleelfaaGreatDoorL10
import Derived.Test.YthhnmpkgleelfaaGreatDoorL9
import Derived.Test.YthhnmpkgleelfaaGreatDoorL8
import Derived.Test.YthhnmpkgleelfaaGreatDoorL1
import Derived.Test.YthhnmpkgleelfaaGreatDoorL3
import Derived.Test.YthhnmpkgleelfaaGreatDoorL2
import Derived.Test.YthhnmpkgleelfaaGreatDoorL4
import Derived.Test.YthhnmpkgleelfaaGreatDoorL15
import Derived.Test.YthhnmpkgleelfaaGreatDoorL13
import Derived.Test.YthhnmpkgleelfaaGreatDoorL14
import Derived.Test.YthhnmpkgleelfaaGreatDoorL6
import Derived.Test.YthhnmpkgleelfaaGreatDoorL5
import Derived.Test.YthhnmpkgleelfaaGreatDoorL30
import Derived.Test.YthhnmpkgleelfaaGreatDoorL7
import Derived.Test.YthhnmpkgleelfaaGreatDoorL43
import Derived.Test.YthhnmpkgleelfaaGreatDoorL42
import Derived.Test.YthhnmpkgleelfaaGreatDoorL41
import Derived.Test.YthhnmpkgleelfaaGreatDoorL40
import Derived.Test.YthhnmpkgleelfaaGreatDoorL39
import Derived.Test.YthhnmpkgleelfaaGreatDoorL45
set_option linter.unusedVariables false
set_option linter.unusedSimpArgs false
namespace Go.Proofs.YthhnmpkgleelfaaGreatDoor
open Go.RowKit Go.Shelf
theorem RunR.low {M : List St} {st mg B C g pg : Nat} {s : List Int} {E : Bool} {vs ve : Value} {w : World} (h : RunR M st mg C g pg s E vs ve w) (hm : MchB M st mg B w) (hb : B ≤ C) : RunR M st mg B g pg s E vs ve w := by
 obtain ⟨y, hy, h1⟩ := h.set
 obtain ⟨z, hz, h2⟩ := h.ends
 exact ⟨hm, Nat.le_trans hb h.gB, Nat.le_trans hb h.pB, h.row, h.cap, ⟨y, hy.low hb, h1⟩, ⟨z, hz.low hb, h2⟩, h.sep⟩
def Ap (F G : Nat → Prop) : Prop := ∀ k, F k → ¬ G k
theorem Ap.symm {F G : Nat → Prop} (h : Ap F G) : Ap G F := fun k h1 h2 => h k h2 h1
theorem Ap.next {F G F' : Nat → Prop} {n : Nat} (h : Ap F G) (hG : ∀ k, G k → k < n) (hF : ∀ k, F' k → F k ∨ n ≤ k) : Ap F' G := fun k h1 h2 => by
 rcases hF k h1 with h3 | h3
 ·exact h k h3 h2
 ·have := hG k h2; omega
def Blk (v : Value) (k : Nat) : Prop := v.ownBlock = some k
structure Two (B : Nat) (M : List St) (st mg ga pa gb pb : Nat) (Sa Sb Ss St' : List Int) (Ea Eb : Bool) (va ea vb eb vS vT : Value) (w : World) : Prop where
 ra : RunR M st mg B ga pa Sa Ea va ea w
 rb : RunR M st mg B gb pb Sb Eb vb eb w
 rs : Rns w B vS Ss
 rt : Rns w B vT St'
 ab : Ap (Foot ga pa va ea) (Foot gb pb vb eb)
 as_ : Ap (Foot ga pa va ea) (Blk vS)
 at_ : Ap (Foot ga pa va ea) (Blk vT)
 bs : Ap (Foot gb pb vb eb) (Blk vS)
 bt : Ap (Foot gb pb vb eb) (Blk vT)
 st_ : Ap (Blk vS) (Blk vT)
section
variable {B : Nat} {M : List St} {st mg ga pa gb pb : Nat} {Sa Sb Ss St' : List Int} {Ea Eb : Bool} {va ea vb eb vS vT : Value} {w : World}
theorem Two.swap (h : Two B M st mg ga pa gb pb Sa Sb Ss St' Ea Eb va ea vb eb vS vT w) : Two B M st mg gb pb ga pa Sb Sa St' Ss Eb Ea vb eb va ea vT vS w :=
 ⟨h.rb, h.ra, h.rt, h.rs, h.ab.symm, h.bt, h.bs, h.at_, h.as_, h.st_.symm⟩
theorem Two.below {w' : World} (h : Two B M st mg ga pa gb pb Sa Sb Ss St' Ea Eb va ea vb eb vS vT w) (hb : Below w.heap.size w w') : Two B M st mg ga pa gb pb Sa Sb Ss St' Ea Eb va ea vb eb vS vT w' :=
 ⟨h.ra.stay (Chg.of_below (F := fun _ => False) hb) (fun _ h => h.elim) (fun _ _ h => h), h.rb.stay (Chg.of_below (F := fun _ => False) hb) (fun _ h => h.elim) (fun _ _ h => h), h.rs.below hb, h.rt.below hb, h.ab, h.as_, h.at_, h.bs, h.bt, h.st_⟩
theorem Rns.blk {l : List Int} {v : Value} (h : Rns w B v l) : ∀ k, Blk v k → k < w.heap.size := fun _ hk => lt_of_heap (ownsRow_block h hk).2.choose_spec
theorem Two.fed {Sa' : List Int} {Ea' : Bool} {e : Ending} {w' : World} (h : Two B M st mg ga pa gb pb Sa Sb Ss St' Ea Eb va ea vb eb vS vT w) (hf : FdP M st mg B ga pa Sa' Ea' va ea w e w') : e = .returned (.tuple #[]) ∧ ∃ va' ea', Two B M st mg ga pa gb pb Sa' Sb Ss St' Ea' Eb va' ea' vb eb vS vT w' ∧ Chg (Foot ga pa va ea) w w' := by
 obtain ⟨he, va', ea', h1, h2, h3⟩ := hf
 exact ⟨he, va', ea', ⟨h1, h.rb.stay h2 (fun k hk => (h.ra.foot hk).1) (fun k hk hF => h.ab k hF hk), h.rs.stay h2 (fun k hk hF => h.as_ k hF hk), h.rt.stay h2 (fun k hk hF => h.at_ k hF hk),
  h.ab.next (fun k hk => (h.rb.foot hk).2) h3, h.as_.next h.rs.blk h3, h.at_.next h.rt.blk h3, h.bs, h.bt, h.st_⟩, h2⟩
theorem Two.more {c : Int} {n : Nat} {v' : Value} {w' : World} (h : Two B M st mg ga pa gb pb Sa Sb Ss St' Ea Eb va ea vb eb vS vT w) (ho : w'.ownsRow B 21 1 v' n (Ss.map runeV ++ [runeV c])) (hn : n = Ss.length + 1) (hg : w.grownBy w' vS.ownBlock) (hv : v'.ownBlock = vS.ownBlock ∨ v'.ownBlock = some w.heap.size) : Two B M st mg ga pa gb pb Sa Sb (Ss ++ [c]) St' Ea Eb va ea vb eb v' vT w' := by
 have hc := Chg.grown hg
 have hn3 : ∀ k, Blk v' k → Blk vS k ∨ w.heap.size ≤ k := fun k hk => by
  rcases hv with h1 | h1
  ·exact .inl (by unfold Blk; rw [← h1]; exact hk)
  ·unfold Blk at hk; rw [h1] at hk; have := Option.some.inj hk; right; omega
 exact ⟨h.ra.stay hc (fun b hb => (ownsRow_block h.rs hb).1) (fun b hb he => h.as_ b hb he), h.rb.stay hc (fun b hb => (ownsRow_block h.rs hb).1) (fun b hb he => h.bs b hb he), Rns.app (m := [c]) ho hn rfl, h.rt.stay hc (fun b hb he => h.st_ b he hb),
  h.ab, (h.as_.symm.next (fun k hk => (h.ra.foot hk).2) hn3).symm, h.at_, (h.bs.symm.next (fun k hk => (h.rb.foot hk).2) hn3).symm, h.bt, h.st_.next h.rt.blk hn3⟩
end
theorem zeroCells_one (z : Value) (hz : z.cells.size = 1) (n : Nat) : (Builtin.zeroCells z.cells n).size = n := by rw [size_zeroCells, hz, Nat.mul_one]
theorem run_append_full {t e : TypeId} {z : Value} {B : Nat} (E : ElemK t e z 1 B) (ty : TypeId) (w : World) {A : Option Addr} {n m c g : Nat} {us news : List Value} (hv : Sl w (.slice A n n) us) (hl : news.length = m) (h0 : 0 < m)
  (hg : ∀ j u, news[j]? = some u → w.cell? ⟨g, j, none⟩ = some u) (hlen : n + m ≤ maxLen) (hby : (n + m) * B ≤ 140737488355328) :
  ∃ (q : Nat) (w' : World), (Builtin.append_ #[t, t] ty #[.slice A n n, .slice (some ⟨g, 0, none⟩) m c]).run Tryz.prog w = .ok (.slice (some ⟨w.heap.size, 0, none⟩) (n + m) q) w' ∧ w'.ownsRow w.heap.size e 1 (.slice (some ⟨w.heap.size, 0, none⟩) (n + m) q) (n + m) (us ++ news) ∧ Below w.heap.size w w' := by
 obtain ⟨i0, hi, hz0, hz1, hz2⟩ := info_parts E.hi
 obtain ⟨-, A', c', e1, hc, hA⟩ := hv
 obtain ⟨rfl, hn, rfl⟩ := Value.slice.inj e1
 subst hn hl
 have hnew : ∀ j v, news[j]? = some v → w.cell? ((⟨g, 0, none⟩ : Addr).add j) = some v := fun j v hj => by
  have := hg j v hj
  unfold Addr.add
  split
  ·rename_i h0; subst h0; exact this
  ·simpa using this
 have hml : us.length + news.length ≤ 9223372036854775807 := by unfold maxLen at hlen; omega
 have hres : ∀ (old : Nat), (w.drew.alloc (.cells (us.toArray ++ news.toArray ++ Builtin.zeroCells z.cells (grownCap w (us.length + news.length) old e - (us.length + news.length))) e)).ownsRow w.heap.size e 1 (.slice (some ⟨w.heap.size, 0, none⟩) (us.length + news.length) (grownCap w (us.length + news.length) old e)) (us.length + news.length) (us ++ news) := by
  intro old
  have hge := grownCap_ge w (us.length + news.length) old e
  have hcm := grownCap_le_maxLen w (us.length + news.length) old e hlen
  refine ⟨by rw [List.length_append]; omega, .inr ⟨w.heap.size, _, _, rfl, Nat.le_refl _, heap_alloc_new w.drew _, hge, hcm, ?_, ?_⟩⟩
  ·rw [Array.size_append, Array.size_append, zeroCells_one z E.hz, List.size_toArray, List.size_toArray]; omega
  ·rw [Array.toList_append, Array.toList_append, List.toList_toArray, List.toList_toArray, List.take_append_of_le_length (by rw [List.length_append]; omega), List.take_of_length_le (by rw [List.length_append]; omega)]
 have hbel : ∀ o, Below w.heap.size w (w.drew.alloc o) := fun o => (Below.refl _ _).drew.alloc (Nat.le_refl _) o
 by_cases hn : us.length = 0
 ·obtain rfl : us = [] := List.eq_nil_of_length_eq_zero hn
  have h2 := hres 0
  cases A with
  | none =>
   have hr := _root_.Go.run_append_nil (P := Tryz.prog) w t ty e i0 z E.ht hi hz0 ⟨g, 0, none⟩ news.length c news (by rw [hz1, Nat.mul_one]) hnew h0 (by omega) (by rw [hz2]; simp at hby; omega)
   simp only [List.length_nil, Nat.zero_add, List.nil_append] at h2 ⊢
   exact ⟨_, _, hr, by simpa using h2, hbel _⟩
  | some a =>
   have hr := _root_.Go.run_append_grow (P := Tryz.prog) w t ty e i0 z E.ht hi hz0 a 0 0 [] (by rw [hz1]; simp) (fun j v hj => by simp at hj) ⟨g, 0, none⟩ news.length c news (by rw [hz1, Nat.mul_one]) hnew (by omega) (by omega) (by rw [hz2]; exact growslice_fits (by omega) (by simpa using hby))
   exact ⟨_, _, hr, h2, hbel _⟩
 ·obtain ⟨g0, o0, rfl, hcl⟩ := hA (by omega)
  have hr := _root_.Go.run_append_grow (P := Tryz.prog) w t ty e i0 z E.ht hi hz0 ⟨g0, o0, none⟩ us.length us.length us (by rw [hz1, Nat.mul_one]) (fun j v hj => by
   have := hcl j v hj
   unfold Addr.add
   split
   ·rename_i h0; subst h0; exact this
   ·simpa using this) ⟨g, 0, none⟩ news.length c news (by rw [hz1, Nat.mul_one]) hnew (by omega) (by omega) (by rw [hz2]; exact growslice_fits (by omega) hby)
  exact ⟨_, _, hr, hres _, hbel _⟩
theorem wp_append_full {t e : TypeId} {z : Value} {B : Nat} (E : ElemK t e z 1 B) {o : Oper} {a : Act} {K : Act → World → Prop} {Q : Exit → Act → World → Prop} {w : World} (s x : Operand)
  (ho : o.op = .call { callee := .builtin .append, args := #[s, x], argTypes := #[t, t] })
  (A : Option Addr) (n m c g : Nat) (us news : List Value) (hs : a.eval s = .slice A n n) (hv : Sl w (.slice A n n) us) (hx : a.eval x = .slice (some ⟨g, 0, none⟩) m c) (hl : news.length = m) (h0 : 0 < m)
  (hg : ∀ j u, news[j]? = some u → w.cell? ⟨g, j, none⟩ = some u) (hlen : n + m ≤ maxLen) (hby : (n + m) * B ≤ 140737488355328)
  (h : ∀ (q : Nat) (w' : World), w'.ownsRow w.heap.size e 1 (.slice (some ⟨w.heap.size, 0, none⟩) (n + m) q) (n + m) (us ++ news) → Below w.heap.size w w' → K (a.put o.dst (.slice (some ⟨w.heap.size, 0, none⟩) (n + m) q)) w') : o.wp Tryz.prog a w K Q := by
 obtain ⟨q, w', hrun, h2, h3⟩ := run_append_full (c := c) E o.type w hv hl h0 hg hlen hby
 unfold Oper.wp execOp
 simp only [ho, resolve, invoke, builtin, Sem.run_bind, Sem.run_pure, Result.andThen_ok, List.map_toArray, List.map_cons, List.map_nil, hs, hx, hrun]
 exact h q w' h2 h3
theorem wpList_append_full {t e : TypeId} {z : Value} {B : Nat} (E : ElemK t e z 1 B) {ops : Array Oper} {rest : List Oper} {o : Oper} {a : Act} {Q : Exit → Act → World → Prop} {w : World} (hgd : o.guard = none) (s x : Operand)
  (ho : o.op = .call { callee := .builtin .append, args := #[s, x], argTypes := #[t, t] })
  (A : Option Addr) (n m c g : Nat) (us news : List Value) (hs : a.eval s = .slice A n n) (hv : Sl w (.slice A n n) us) (hx : a.eval x = .slice (some ⟨g, 0, none⟩) m c) (hl : news.length = m) (h0 : 0 < m)
  (hg : ∀ j u, news[j]? = some u → w.cell? ⟨g, j, none⟩ = some u) (hlen : n + m ≤ maxLen) (hby : (n + m) * B ≤ 140737488355328)
  (h : ∀ (q : Nat) (w' : World), w'.ownsRow w.heap.size e 1 (.slice (some ⟨w.heap.size, 0, none⟩) (n + m) q) (n + m) (us ++ news) → Below w.heap.size w w' → wpList Tryz.prog ops Q rest (a.put o.dst (.slice (some ⟨w.heap.size, 0, none⟩) (n + m) q)) w') : wpList Tryz.prog ops Q (o :: rest) a w :=
 wpList_plain hgd fun _ hK => wp_append_full E s x ho A n m c g us news hs hv hx hl h0 hg hlen hby fun q w' h2 h3 => hK _ _ (h q w' h2 h3)
def OwR (w : World) (M : List St) (st mg ga pa gb pb : Nat) (S T : List Int) (vS vT : Value) (wr : World) : Prop := ∃ va ea vb eb, Two w.heap.size M st mg ga pa gb pb S T S T false false va ea vb eb vS vT wr ∧ Below w.heap.size w wr
def OwL (w : World) (M : List St) (st mg ga pa gb pb : Nat) (l k : List Int) (s12 s13 s14 : Value) (wr : World) : Prop := ∃ i : Nat, i ≤ l.length + k.length ∧ s14 = .int .i64 i ∧ OwR w M st mg ga pa gb pb ((l.take i).map kn) ((k.take i).map kn) s12 s13 wr
def OvR (w : World) (A : Option Addr) (n q : Nat) (s16 : Value) (wr : World) : Prop := ∃ (j : Nat) (us : List Value), j ≤ n ∧ s16 = .int .i64 j ∧ Below w.heap.size w wr ∧ wr.ownsRow w.heap.size 3 1 (.slice A n q) n us ∧ us.length = n
theorem kn_next {l : List Int} {i : Nat} {c : Int} (h : l[i]? = some c) : (l.take (i + 1)).map kn = (l.take i).map kn ++ [kn c] := by rw [take_next h, List.map_append]; rfl
theorem kn_stop {l : List Int} {i : Nat} (h : l.length ≤ i) : (l.take (i + 1)).map kn = (l.take i).map kn := by rw [List.take_of_length_le (by omega), List.take_of_length_le h]
theorem kn_len (l : List Int) (i : Nat) : ((l.take i).map kn).length ≤ l.length := by rw [List.length_map, List.length_take]; omega
set_option maxHeartbeats 16000000 in
set_option maxRecDepth 100000 in
theorem simown_any {w : World} (hT : Tabs w) (p : ByteArray) {v u : Value} {l k : List Int} (hv : Sl w v (l.map runeV)) (hu : Sl w u (k.map runeV)) : Calls Tryz.prog 8 #[.string p, v, u] w fun e w' => TrP w e w' := by
 have Hf := Lib.hid (first_any hT)
 have Hg := Lib.hid (fun w0 : World => good2_any (w := w0) p)
 have HT := Lib.hid hT
 obtain ⟨-, A, cap, rfl, hc, hA⟩ := hv
 obtain ⟨-, B, cap2, rfl, hc2, hB⟩ := hu
 rw [List.length_map] at hc hA hc2 hB ⊢
 rw [List.length_map]
 have HA := Lib.hid hA
 have HB := Lib.hid hB
 clear hT hA hB
 go_enter Tryz.func8, Tryz.ntmps8
 go_wp2_with fail
 (with_reducible refine Hf.out.mono ?_)
 rintro e w1 ⟨rfl, hb1⟩
 have Hb1 := Lib.hid hb1
 clear hb1
 go_wp2_with fail
 (with_reducible refine (Hg.out w1).mono ?_)
 rintro e w2 ⟨b, rfl, hb2, ht, -⟩
 have Hb2 := Lib.hid (Hb1.out.trans (hb2.mono Hb1.out.size))
 clear hb2
 cases b with
 | false =>
  clear ht
  go_wp2_with fail
  go_ret
  exact ⟨rfl, Hb2.out⟩
 | true =>
  obtain ⟨r, hr⟩ := ht rfl
  by_cases hl : 200 < l.length
  ·have hl2 : 200 < (l.length : Int) := by omega
   clear ht
   go_wp2_with fail
   go_ret
   exact ⟨rfl, Hb2.out⟩
  have hl2 : ¬ 200 < (l.length : Int) := by omega
  have hl3 : l.length ≤ 200 := by omega
  by_cases hk : 200 < k.length
  ·have hk2 : 200 < (k.length : Int) := by omega
   clear ht
   go_wp2_with fail
   go_ret
   exact ⟨rfl, Hb2.out⟩
  ·have hk2 : ¬ 200 < (k.length : Int) := by omega
   have hk3 : k.length ≤ 200 := by omega
   obtain ⟨ho, hx, hz, hw⟩ := hr.facts
   have hst := hr.2.2
   have Hmo := Lib.hid (mc_ok ho hst)
   have Ho := Lib.hid ho
   have Hof := Lib.hid (of_any hr (HT.out.below Hb2.out))
   clear ht hr ho hx hw
   go_wp2_with fail
   (with_reducible refine Hof.out.mono ?_)
   rintro e w3 ⟨mg, Ax, nx, qx, rfl, hm3, hx3, hmg, hb3⟩
   have Hb3 := Lib.hid (Hb2.out.trans (hb3.mono Hb2.out.size))
   have Hm3 := Lib.hid hm3
   have Hx3 := Lib.hid hx3
   clear hm3 hx3 hmg hb3 Hof
   go_wp2_with fail
   (with_reducible refine (new_any Hmo.out Hm3.out).mono ?_)
   rintro e w4 ⟨ga, pa, va, ea, rfl, hr4, hb4⟩
   have Hr4 := Lib.hid hr4
   have Hb4 := Lib.hid hb4
   clear hr4 hb4
   go_wp2_with fail
   (with_reducible refine (new_any Hmo.out (Hm3.out.below Hb4.out)).mono ?_)
   rintro e w5 ⟨gb, pb, vb, eb, rfl, hr5, hb5⟩
   have Hb5 := Lib.hid (Hb4.out.trans (hb5.mono Hb4.out.size))
   have Ht5 := Lib.hid (show OwR w3 (mcS r) (mcT r) mg ga pa gb pb [] [] (.slice none 0 0) (.slice none 0 0) w5 from
    ⟨va, ea, vb, eb, ⟨Hr4.out.stay (Chg.of_below (F := fun _ => False) hb5) (fun _ h => h.elim) (fun _ _ h => h), hr5.low ((MchB.start Hm3.out).then Hb5.out) Hb4.out.size, ⟨rfl, .inl ⟨rfl, rfl⟩⟩, ⟨rfl, .inl ⟨rfl, rfl⟩⟩, fun k h1 h2 => by have := (Hr4.out.foot h1).2; have := (hr5.foot h2).1; omega, fun _ _ h => (by cases h), fun _ _ h => (by cases h), fun _ _ h => (by cases h), fun _ _ h => (by cases h), fun _ _ h => (by cases h)⟩, Hb5.out⟩)
   clear hr5 hb5 Hb5 Hr4 Hb4
   go_wp2_with fail
   go_loopw [12, 13, 14, 15, 16] (fun s12 s13 s14 _ _ wr => OwL w3 (mcS r) (mcT r) mg ga pa gb pb l k s12 s13 s14 wr) (fun _ _ v _ _ _ => l.length + k.length - (intOf v).toNat)
   case atStart => exact ⟨0, Nat.zero_le _, rfl, Ht5.out⟩
   case round =>
    clear Ht5
    obtain ⟨i, hi, rfl, hrel⟩ := hrel
    have Hrel := Lib.hid hrel
    clear hrel
    by_cases h1 : i < l.length
    case' pos =>
     have h1i : (i : Int) < l.length := by omega
     obtain ⟨va, ea, vb, eb, ht, hb⟩ := Hrel.out
     obtain ⟨S, hS⟩ : ∃ S, (l.take i).map kn = S := ⟨_, rfl⟩
     have hsl := kn_len l i
     rw [hS] at ht hsl
     obtain ⟨A12, q12, rfl, -, -, -⟩ := ownsRow_slice ht.rs
     have Ht := Lib.hid ht
     have Hb := Lib.hid hb
     have hbs := hb.size
     obtain ⟨g0, o0, rfl, hcl⟩ := HA.out (by omega)
     obtain ⟨c, hck⟩ : ∃ c, l[i]? = some c := ⟨_, List.getElem?_eq_getElem h1⟩
     have h0 := hcl i (runeV c) (by rw [List.getElem?_map, hck]; rfl)
     have c1 := cell_later (Hb3.out.trans (hb.mono Hb3.out.size)) h0
     have Hc0 := Lib.hid h0
     have HSn := Lib.hid (show (l.take (i + 1)).map kn = S ++ [kn c] by rw [kn_next hck, hS])
     unfold runeV at c1
     clear hcl hck h0 ht hb Hrel hS
     go_wp2_with fail
     (with_reducible refine (feed_any Hmo.out Ht.out.ra (by omega) c).mono ?_)
     rintro e w7 hf
     obtain ⟨rfl, va', ea', ht7, hc7⟩ := Ht.out.fed hf
     have Ht7 := Lib.hid ht7
     have Hb7 := Lib.hid (Hb.out.trans (hc7.below hbs (fun i hi => (Ht.out.ra.foot hi).1)))
     have c2 := cell_later (Hb3.out.trans (Hb7.out.mono Hb3.out.size)) Hc0.out
     unfold runeV at c2
     clear hf ht7 hc7 c1
     go_wp2_with fail
     (with_reducible refine (known_any c).mono ?_)
     rintro e wz ⟨rfl, rfl⟩
     have hal := alloc_below wz (.cells #[.int .i32 (kn c)] 21)
     have Hta := Lib.hid (Ht7.out.below hal)
     have Hcn := Lib.hid (cells_new wz [runeV (kn c)] 21)
     have Hba := Lib.hid (Hb7.out.trans (hal.mono Hb7.out.size))
     have hs7 := Hb7.out.size
     clear hal
     go_upto_if 91 with (at_builtin; refine wpList_append_k elRune rfl (.tmp 80) (.tmp 86) rfl w3.heap.size (.slice A12 S.length q12) S.length wz.heap.size 1 1 (S.map runeV) [runeV (kn c)] (by simp [Act.eval]) Hta.out.rs (by simp [Act.eval]) rfl Hcn.out (by simp [runeV, Value.oneCell']) (by unfold maxLen; omega) (by omega) (by simp; omega) ?_; intro v' w11 p1 p2 p3; have Hp := Lib.hid p1; have Hg11 := Lib.hid p2; have H3 := Lib.hid p3; clear p1 p2 p3)
     have HR := Lib.hid (show OwR w3 (mcS r) (mcT r) mg ga pa gb pb ((l.take (i + 1)).map kn) ((k.take i).map kn) v' u13 w11 from ⟨va', ea', vb, eb, by rw [HSn.out]; exact Hta.out.more Hp.out rfl Hg11.out H3.out, own_below Hba.out Hta.out.rs Hba.out.size Hg11.out⟩)
     obtain ⟨A12, q12, rfl, -, -, -⟩ := ownsRow_slice Hp.out
     clear Hp Hg11 H3 Hba Hta Hcn Ht7 Hb7 HSn Ht Hb Hc0 c2 hbs hs7 hsl
     obtain ⟨wx, rfl⟩ : ∃ wx, wx = w11 := ⟨_, rfl⟩
    case' neg =>
     have h1i : ¬ (i : Int) < l.length := by omega
     by_cases h3 : i < k.length
     case neg =>
      have h2i : ¬ (i : Int) < k.length := by omega
      obtain ⟨va, ea, vb, eb, ht, hb⟩ := Hrel.out
      obtain ⟨A12, q12, rfl, -, -, -⟩ := ownsRow_slice ht.rs
      obtain ⟨A13, q13, rfl, -, -, -⟩ := ownsRow_slice ht.rt
      have hsl := kn_len l i
      have htl := kn_len k i
      generalize (l.take i).map kn = S at *
      generalize (k.take i).map kn = T at *
      have Ht := Lib.hid ht
      have Hb := Lib.hid hb
      have hbs := hb.size
      clear ht hb Hrel
      go_wp2_with fail
      (with_reducible refine (end_any Hmo.out Ht.out.ra (by omega)).mono ?_)
      rintro e w6 hf
      obtain ⟨rfl, va', ea', ht6, hc6⟩ := Ht.out.fed hf
      have Ht6 := Lib.hid ht6.swap
      have Hb6 := Lib.hid (Hb.out.trans (hc6.below hbs (fun i hi => (Ht.out.ra.foot hi).1)))
      have hs6 := Hb6.out.size
      clear hf ht6 hc6
      go_wp2_with fail
      (with_reducible refine (end_any Hmo.out Ht6.out.ra (by omega)).mono ?_)
      rintro e w7 hf
      obtain ⟨rfl, vb', eb', ht7, hc7⟩ := Ht6.out.fed hf
      obtain ⟨za, -, hza⟩ := ht7.swap.ra.ends
      obtain ⟨zb, -, hzb⟩ := ht7.swap.rb.ends
      have Ht7 := Lib.hid ht7.swap
      have Hza := Lib.hid hza
      have Hzb := Lib.hid hzb
      have Hb7 := Lib.hid (Hb6.out.trans (hc7.below hs6 (fun i hi => (Ht6.out.ra.foot hi).1)))
      have hia := idx_len za 0
      have hib := idx_len zb 0
      have hal := hza.1
      have hbl := hzb.1
      have hia2 : (idx 0 za).length ≤ 201 := by omega
      have hib2 : (idx 0 zb).length ≤ 201 := by omega
      clear hf ht7 hc7 hza hzb Ht6 Ht hia hib hal hbl
      go_wp2_with fail
      (with_reducible refine (rends_any Ht7.out.ra Hza.out (by omega)).mono ?_)
      rintro e w8 ⟨A8, rfl, hb8, q8, ho8⟩
      have Ht8 := Lib.hid (Ht7.out.below hb8)
      have Hb8 := Lib.hid (Hb7.out.trans (hb8.mono Hb7.out.size))
      have Hp8 := Lib.hid (Sl.clip (Ints.sl ho8))
      clear hb8 ho8 Ht7 Hb7
      go_wp2_with fail
      (with_reducible refine (rends_any Ht8.out.ra Hza.out (by omega)).mono ?_)
      rintro e w9 ⟨A9, rfl, hb9, q9, ho9⟩
      have Ht9 := Lib.hid (Ht8.out.below hb9)
      have Hb9 := Lib.hid (Hb8.out.trans (hb9.mono Hb8.out.size))
      have hal := alloc_below w9 (.cells #[.int .i64 1, .int .i64 2, .int .i64 3] 3)
      have Hta := Lib.hid (Ht9.out.below hal)
      have Hba := Lib.hid (Hb9.out.trans (hal.mono Hb9.out.size))
      have Hpa := Lib.hid ((Hp8.out.below hb9).below hal)
      have Hqa := Lib.hid ((Sl.clip (Ints.sl ho9)).below hal)
      have Hcn := Lib.hid (cells_new w9 [intV 1, intV 2, intV 3] 3)
      clear hb9 ho9 hal Ht8 Hb8 Hp8 Ht9 Hb9
      obtain ⟨n, hn⟩ : ∃ n, (idx 0 za).length = n := ⟨_, rfl⟩
      rw [hn] at Hpa Hqa hia2 ⊢
      have Hn := Lib.hid hn
      clear hn
      go_upto_region 31 with (at_builtin; refine wpList_append_full elInt rfl (.tmp 125) (.tmp 126) rfl A8 n 3 3 w9.heap.size ((idx 0 za).map intV) [intV 1, intV 2, intV 3] (by simp [Act.eval]) Hpa.out (by simp [Act.eval]) rfl (by decide) Hcn.out (by unfold maxLen; omega) (by omega) ?_; intro q10 w10 p1 p2; rw [show (w9.alloc (.cells #[.int .i64 1, .int .i64 2, .int .i64 3] 3)).heap.size = w9.heap.size + 1 by simp] at p1; have Hp10 := Lib.hid p1; have Hb10 := Lib.hid p2; clear p1 p2)
      obtain ⟨c10, rfl⟩ : ∃ c10, c10 = q10 := ⟨_, rfl⟩
      have hal := alloc_below w10 (.cells #[.int .i64 4, .int .i64 5] 3)
      have Htb := Lib.hid ((Hta.out.below Hb10.out).below hal)
      have Hbb := Lib.hid (Hba.out.trans ((Hb10.out.trans (hal.mono Hb10.out.size)).mono Hba.out.size))
      have Hqb := Lib.hid ((Hqa.out.below Hb10.out).below hal)
      have Hpb := Lib.hid (ownsRow_below Hp10.out hal (Nat.le_refl _))
      have Hcn := Lib.hid (cells_new w10 [intV 4, intV 5] 3)
      clear hal Hp10 Hb10 Hqa Hpa Hta Hba
      go_wp2_with (at_builtin; refine wpList_append_full elInt rfl (.tmp 128) (.tmp 129) rfl A9 n 2 2 w10.heap.size ((idx 0 za).map intV) [intV 4, intV 5] (by simp [Act.eval]) Hqb.out (by simp [Act.eval]) rfl (by decide) Hcn.out (by unfold maxLen; omega) (by omega) ?_; intro q11 w11 p1 p2; rw [show (w10.alloc (.cells #[.int .i64 4, .int .i64 5] 3)).heap.size = w10.heap.size + 1 by simp] at p1; have Hq11 := Lib.hid p1; have Hb11 := Lib.hid p2; clear p1 p2)
      have Ht11 := Lib.hid (Htb.out.below Hb11.out)
      have Hbw := Lib.hid (Hbb.out.trans (Hb11.out.mono Hbb.out.size))
      have Hp11 := Lib.hid (ownsRow_below Hpb.out Hb11.out (Nat.le_refl _))
      have hcp : n + 3 ≤ c10 := by obtain ⟨_, _, e, h, _⟩ := ownsRow_slice Hp11.out; obtain ⟨_, _, rfl⟩ := Value.slice.inj e; omega
      have hcq : n + 2 ≤ q11 := by obtain ⟨_, _, e, h, _⟩ := ownsRow_slice Hq11.out; obtain ⟨_, _, rfl⟩ := Value.slice.inj e; omega
      clear Htb Hbb Hb11 Hpb Hqb Hcn
      go_wp2_with fail
      (with_reducible refine (flags_any Ho.out (Hx3.out.below Hbw.out) (by omega) (Ht11.out.rs.low (Nat.zero_le _)) (by omega)).mono ?_)
      rintro e w12 ⟨y, A12, q12, rfl, hb12, hy, hyl, hm⟩
      obtain rfl := all_flags Ho.out hyl hm Hza.out
      have hyl2 : za.length ≤ 201 := by omega
      have Ht12 := Lib.hid (Ht11.out.below hb12)
      have Hb12 := Lib.hid (Hbw.out.trans (hb12.mono Hbw.out.size))
      have Hp12 := Lib.hid (ownsRow_below Hp11.out hb12 (Nat.le_refl _))
      have Hq12 := Lib.hid (ownsRow_below Hq11.out hb12 (Nat.le_refl _))
      have Hy := Lib.hid hy
      clear hb12 hy hyl hm Ht11 Hbw Hp11 Hq11
      go_wp2_with fail
      (with_reducible refine (lawlist_any Hy.out (by omega)).mono ?_)
      rintro e w13 ⟨A13, q13, rfl, hb13, ho13⟩
      rw [Hn.out]
      have Ht13 := Lib.hid (Ht12.out.below hb13)
      have Hb13 := Lib.hid (Hb12.out.trans (hb13.mono Hb12.out.size))
      have Hp13 := Lib.hid (ownsRow_below Hp12.out hb13 (Nat.le_refl _))
      have Hq13 := Lib.hid (ownsRow_below Hq12.out hb13 (Nat.le_refl _))
      have hw13 := ho13.sl
      rw [Hn.out] at hw13
      have Hw13 := Lib.hid hw13
      clear hb13 ho13 hw13 Ht12 Hb12 Hp12 Hq12 Hy
      go_wp2_with fail
      (with_reducible refine (rends_any Ht13.out.rb Hzb.out (by omega)).mono ?_)
      rintro e w14 ⟨A14, rfl, hb14, q14, ho14⟩
      have Ht14 := Lib.hid (Ht13.out.below hb14)
      have Hb14 := Lib.hid (Hb13.out.trans (hb14.mono Hb13.out.size))
      have Hp14 := Lib.hid (ownsRow_below Hp13.out hb14 (Nat.le_refl _))
      have Hq14 := Lib.hid (ownsRow_below Hq13.out hb14 (Nat.le_refl _))
      have Hw14 := Lib.hid (Hw13.out.below hb14)
      have He14 := Lib.hid (Sl.clip (Ints.sl ho14))
      clear hb14 ho14 Ht13 Hb13 Hp13 Hq13 Hw13
      go_wp2_with fail
      (with_reducible refine (flags_any Ho.out (Hx3.out.below Hb14.out) (by omega) (Ht14.out.rt.low (Nat.zero_le _)) (by omega)).mono ?_)
      rintro e w15 ⟨y, A15, q15, rfl, hb15, hy, hyl, hm⟩
      obtain rfl := all_flags Ho.out hyl hm Hzb.out
      have hyl3 : zb.length ≤ 201 := by omega
      have Hb15 := Lib.hid (Hb14.out.trans (hb15.mono Hb14.out.size))
      have Hp15 := Lib.hid (ownsRow_below Hp14.out hb15 (Nat.le_refl _))
      have Hq15 := Lib.hid (ownsRow_below Hq14.out hb15 (Nat.le_refl _))
      have Hw15 := Lib.hid (Hw14.out.below hb15)
      have He15 := Lib.hid (He14.out.below hb15)
      have Hy := Lib.hid hy
      clear hb15 hy hyl hm Ht14 Hb14 Hp14 Hq14 Hw14 He14
      go_wp2_with fail
      (with_reducible refine (lawlist_any Hy.out (by omega)).mono ?_)
      rintro e w16 ⟨A16, q16, rfl, hb16, ho16⟩
      have Hb16 := Lib.hid (Hb15.out.trans (hb16.mono Hb15.out.size))
      have Hp16 := Lib.hid (ownsRow_below Hp15.out hb16 (Nat.le_refl _))
      have Hq16 := Lib.hid (ownsRow_below Hq15.out hb16 (Nat.le_refl _))
      have Hw16 := Lib.hid (Hw15.out.below hb16)
      have Hsi := Lib.hid (sameints_any (x := idx 0 zb) (y := idx 0 zb) (He15.out.below hb16) (Ints.sl ho16) (by omega) (by omega))
      clear hb16 ho16 Hb15 Hp15 Hq15 Hw15 He15 Hy
      go_wp2_with fail
      (with_reducible refine Hsi.out.mono ?_)
      rintro e w17 ⟨he, hb17⟩
      obtain rfl : e = .returned (.bool true) := by rw [he]; simp
      have Hb17 := Lib.hid (Hb16.out.trans (hb17.mono Hb16.out.size))
      have Hp17 := Lib.hid (ownsRow_below Hp16.out hb17 (Nat.le_refl _))
      have Hq17 := Lib.hid (ownsRow_below Hq16.out hb17 (Nat.le_refl _))
      have Hw17 := Lib.hid (Hw16.out.below hb17)
      have Hpc := Lib.hid (show Sl w17 (.slice (some ⟨w9.heap.size + 1, 0, none⟩) n c10) ((idx 0 za).map intV) from by
       have h9 := own_cut (m := n) Hp17.out (by omega)
       rw [List.take_left' (by rw [List.length_map, Hn.out])] at h9
       exact Sl.of_own h9)
      have Hqc := Lib.hid (show Sl w17 (.slice (some ⟨w10.heap.size + 1, 0, none⟩) n q11) ((idx 0 za).map intV) from by
       have h9 := own_cut (m := n) Hq17.out (by omega)
       rw [List.take_left' (by rw [List.length_map, Hn.out])] at h9
       exact Sl.of_own h9)
      have hc1 := ownsRow_cell Hp17.out rfl n (by omega)
      rw [List.getElem?_append_right (by rw [List.length_map, Hn.out]; exact Nat.le_refl _), List.length_map, Hn.out, Nat.sub_self] at hc1
      have Hc1 := Lib.hid hc1
      have hn3 : (n : Int) ≤ (c10 : Int) := by omega
      have hn4 : (n : Int) ≤ (q11 : Int) := by omega
      have hn5 : ((n : Int)).toNat = n := by omega
      have hn6 : (n : Int) < ((n + 3 : Nat) : Int) := by omega
      have Hs1 := Lib.hid (sameints_any (x := idx 0 za) (y := idx 0 za) Hpc.out Hw17.out (by rw [Hn.out]; omega) (by rw [Hn.out]; omega))
      clear hb17 Hsi Hp16 Hq16 Hw16 Hb16 hc1
      go_wp2_with fail
      (with_reducible refine Hs1.out.mono ?_)
      rintro e w18 ⟨he, hb18⟩
      obtain rfl : e = .returned (.bool true) := by rw [he]; simp
      have Hb18 := Lib.hid (Hb17.out.trans (hb18.mono Hb17.out.size))
      have Hs2 := Lib.hid (sameints_any (x := idx 0 za) (y := idx 0 za) (Hqc.out.below hb18) (Hw17.out.below hb18) (by rw [Hn.out]; omega) (by rw [Hn.out]; omega))
      have Hc2 := Lib.hid (cell_later hb18 Hc1.out)
      clear hb18 Hs1
      go_wp2_with fail
      (with_reducible refine Hs2.out.mono ?_)
      rintro e w19 ⟨he, hb19⟩
      obtain rfl : e = .returned (.bool true) := by rw [he]; simp
      have Hb19 := Lib.hid (Hb18.out.trans (hb19.mono Hb18.out.size))
      have c1 : w19.cell? ⟨w9.heap.size + 1, n, none⟩ = some (.int .i64 1) := cell_later hb19 Hc2.out
      clear hb19 Hs2
      go_wp2_with fail
      go_ret
      exact ⟨by simp, Hb3.out.trans (Hb19.out.mono Hb3.out.size)⟩
     have HR := Lib.hid Hrel.out
     rw [← kn_stop (l := l) (i := i) (by omega)] at HR
     clear Hrel
     obtain ⟨wx, rfl⟩ : ∃ wx, wx = wr := ⟨_, rfl⟩
    all_goals
     by_cases h2 : i < k.length
     case' pos =>
      have h2i : (i : Int) < k.length := by omega
      obtain ⟨va, ea, vb, eb, ht, hb⟩ := HR.out
      obtain ⟨T, hT2⟩ : ∃ T, (k.take i).map kn = T := ⟨_, rfl⟩
      have hsl := kn_len k i
      rw [hT2] at ht hsl
      obtain ⟨A13, q13, e13, -, -, -⟩ := ownsRow_slice ht.rt
      subst e13
      have Ht := Lib.hid ht.swap
      have Hb := Lib.hid hb
      have hbs := hb.size
      obtain ⟨g0, o0, e0, hcl⟩ := HB.out (by omega)
      subst e0
      obtain ⟨c, hck⟩ : ∃ c, k[i]? = some c := ⟨_, List.getElem?_eq_getElem h2⟩
      have h0 := hcl i (runeV c) (by rw [List.getElem?_map, hck]; rfl)
      have c1 := cell_later (Hb3.out.trans (hb.mono Hb3.out.size)) h0
      have Hc0 := Lib.hid h0
      have HSn := Lib.hid (show (k.take (i + 1)).map kn = T ++ [kn c] by rw [kn_next hck, hT2])
      unfold runeV at c1
      clear hcl hck h0 ht hb HR hT2
      go_wp2_with fail
      (with_reducible refine (feed_any Hmo.out Ht.out.ra (by omega) c).mono ?_)
      rintro e w7 hf
      obtain ⟨rfl, vb', eb', ht7, hc7⟩ := Ht.out.fed hf
      have Ht7 := Lib.hid ht7
      have Hb7 := Lib.hid (Hb.out.trans (hc7.below hbs (fun i hi => (Ht.out.ra.foot hi).1)))
      have c2 := cell_later (Hb3.out.trans (Hb7.out.mono Hb3.out.size)) Hc0.out
      unfold runeV at c2
      clear hf ht7 hc7 c1
      go_wp2_with fail
      (with_reducible refine (known_any c).mono ?_)
      rintro e wz ⟨rfl, rfl⟩
      have hal := alloc_below wz (.cells #[.int .i32 (kn c)] 21)
      have Hta := Lib.hid (Ht7.out.below hal)
      have Hcn := Lib.hid (cells_new wz [runeV (kn c)] 21)
      have Hba := Lib.hid (Hb7.out.trans (hal.mono Hb7.out.size))
      have hs7 := Hb7.out.size
      clear hal
      go_wp2_with (at_builtin; refine wpList_append_k elRune rfl (.tmp 98) (.tmp 104) rfl w3.heap.size (.slice A13 T.length q13) T.length wz.heap.size 1 1 (T.map runeV) [runeV (kn c)] (by simp [Act.eval]) Hta.out.rs (by simp [Act.eval]) rfl Hcn.out (by simp [runeV, Value.oneCell']) (by unfold maxLen; omega) (by omega) (by simp; omega) ?_; intro v' w11 p1 p2 p3; have Hp := Lib.hid p1; have Hg11 := Lib.hid p2; have H3 := Lib.hid p3; clear p1 p2 p3)
      have HR := Lib.hid (show OwR w3 (mcS r) (mcT r) mg ga pa gb pb ((l.take (i + 1)).map kn) ((k.take (i + 1)).map kn) _ v' w11 from ⟨va, ea, vb', eb', by rw [HSn.out]; exact (Hta.out.more Hp.out rfl Hg11.out H3.out).swap, own_below Hba.out Hta.out.rs Hba.out.size Hg11.out⟩)
      clear Hp Hg11 H3 Hba Hta Hcn Ht7 Hb7 HSn Ht Hb Hc0 c2 hbs hs7 hsl
      obtain ⟨wy, rfl⟩ : ∃ wy, wy = w11 := ⟨_, rfl⟩
     case' neg =>
      first
       | (exfalso; omega)
       | ((have h2i : ¬ (i : Int) < k.length := by omega); rw [← kn_stop (l := k) (i := i) (by omega)] at HR; obtain ⟨wy, rfl⟩ : ∃ wy, wy = wx := ⟨_, rfl⟩)
     all_goals
      obtain ⟨va, ea, vb, eb, ht, hb⟩ := HR.out
      obtain ⟨z, -, hez⟩ := ht.ra.ends
      have Ht := Lib.hid ht
      have Hb := Lib.hid hb
      have hil := idx_len z 0
      have hzl := hez.1
      have hsl := kn_len l (i + 1)
      have Hez := Lib.hid hez
      have hn2 : (idx 0 z).length ≤ 201 := by omega
      clear ht hb hez HR hil hzl
      go_wp2_with fail
      (with_reducible refine (rends_any Ht.out.ra Hez.out (by omega)).mono ?_)
      rintro e w8 ⟨A8, rfl, hb8, q8, ho8⟩
      unfold Ints at ho8
      generalize hus : (idx 0 z).map intV = us at ho8
      generalize hn : (idx 0 z).length = n at *
      have Hb8 := Lib.hid hb8
      have Ho8 := Lib.hid ho8
      have Hus := Lib.hid (show us.length = n by rw [← hus, ← hn, List.length_map])
      have hs8 := hb8.size
      clear hb8 ho8 hus hn Hez
      go_wp2_with fail
      go_loopw [16] (fun s16 wx => OvR wy A8 n q8 s16 wx) (fun v _ => n - (intOf v).toNat)
      case atStart => exact ⟨0, us, Nat.zero_le _, rfl, Hb8.out, Ho8.out, Hus.out⟩
      case round =>
       clear Hb8 Ho8 Hus us hs8
       obtain ⟨j, us, hj, rfl, hb9, ho9, hu9⟩ := hrel
       have Hb9 := Lib.hid hb9
       have Hu9 := Lib.hid hu9
       have Ho9 := Lib.hid ho9
       have hs9 := hb9.size
       by_cases hlt : j < n
       ·have hji : (j : Int) < (n : Int) := by omega
        obtain ⟨_, _, e9, _, _, hA9⟩ := ownsRow_slice ho9
        obtain ⟨g9, e9'⟩ := hA9 (by omega)
        obtain ⟨rfl, -, -⟩ := Value.slice.inj e9
        subst e9'
        obtain ⟨x9, hx9⟩ : ∃ x9, us[j]? = some x9 := ⟨_, List.getElem?_eq_getElem (by omega)⟩
        have hc9 := ownsRow_cell ho9 rfl j (by omega)
        rw [hx9] at hc9
        obtain ⟨_, _, hg9⟩ := ownsRow_block ho9 (g := g9) rfl
        have hf9 := row_frozen hg9 j
        have Hst := Lib.hid (World.ownsRow.stored ho9 j (.int .i64 (-7)))
        have hgb : wy.heap.size ≤ g9 := (ownsRow_block ho9 (g := g9) rfl).1
        clear hb9 hu9 ho9 e9 hA9 hx9 hg9
        go_wp2_with fail
        exact ⟨⟨j + 1, _, by omega, by go_num, below_set Hb9.out hgb hs9, Hst.out.1, by rw [List.length_set]; exact Hu9.out⟩, by simp [intOf]; omega⟩
       ·have hji : ¬ (j : Int) < (n : Int) := by omega
        clear hb9 hu9 ho9
        go_wp2_with fail
        exact ⟨⟨i + 1, by omega, by go_num, va, ea, vb, eb, Ht.out.below Hb9.out, Hb.out.trans (Hb9.out.mono Hb.out.size)⟩, by simp [intOf]; omega⟩
end Go.Proofs.YthhnmpkgleelfaaGreatDoor
namespace Go.Proofs.YthhnmpkgleelfaaGreatDoor
open Go.ChangeShapes Go.WideShapes Go.ChangeAt Go.WideMaps Go.WideElems Go.RowKit
set_option maxRecDepth 100000 in
theorem own_lifted (os : Os) (started : os.Started) (H : Type) (enc : TypeId × Value → H) :
  ReturnsInHanded {} Tryz.checked os 8 .any (fun w args => (Rows.simOwnSpec.pre enc Tryz.prog Tryz.f8 [] false w args ∧ laidMetH Tryz.prog laidS w) ∧ sizedMet enc Tryz.prog Tryz.f8 (OpenSpec.ofChange Rows.simOwnSpec) false w args)
   (Rows.simOwnSpec.post enc Tryz.prog Tryz.f8 false true false false) := by
 refine returnsInHanded_of_change_and (C := Tryz.checked) (X := fun w _ => laidMetH Tryz.prog laidS w) (fun _ _ _ hh h => h.of_heap hh) Tryz.own started (by kernel_rfl) Tryz.func8
  (ChangeSpec.witness_shaped (enc := enc) (C := Tryz.checked) (os := os) (X := fun w _ => laidMetH Tryz.prog laidS w) false (World.laidAll Tryz.prog os laidS) #[.string ⟨#[]⟩, .slice none 0 0, .slice none 0 0] 8 rfl (World.shaped_of_ZipB (by kernel_rfl) (by kernel_rfl)) (by kernel_rfl) (by kernel_rfl) (by kernel_rfl) (door_met os _)) ?_
 intro W base args ds gs before hval0 hW _ _ hL _
 have hval : ∀ (j : Nat) t v, Tryz.f8.params[j]? = some t → args[j]? = some v → Value.okWide Tryz.prog W .any base t v := hval0
 have hW' := hW
 have hlt : ∀ p ∈ before, p.block < W.heap.size := fun p hp => hW.lt p hp
 obtain ⟨p, q, hA0, hV, rfl, hfz, hnd⟩ := hW
 have hA : DataW.TrodAll enc Tryz.prog W 0 (fun _ => true) true Tryz.f8.params.toList args.toList ds p := hA0
 rw [Tryz.params8] at hA hval
 obtain ⟨v0, v1, v2, d0, d1, d2, p0, p1, p2, rfl, rfl, rfl, h0, h1, h2⟩ := trodAll_three hA
 obtain ⟨rfl, rfl⟩ := trodVars_none hV
 obtain ⟨c0, rfl, rfl, rfl, w0⟩ := ChangeMaps.open_string Tryz.underlying9 (hval 0 9 v0 rfl rfl) h0
 obtain ⟨x1, s1⟩ := runes_of_trod (hval 1 37 v1 rfl rfl) h1
 obtain ⟨x2, s2⟩ := runes_of_trod (hval 2 37 v2 rfl rfl) h2
 clear hA0 hval0
 simp only [List.append_nil, List.nil_append] at hW' hlt
 refine (simown_any (tabs_of_laid hL) c0 s1 s2).mono fun e W' ⟨he, hb⟩ => ?_
 subst he
 exact ⟨_, rfl, post_of_below (pa := p1 ++ p2) (pv := []) hW' (fun _ _ _ => trodAll_mk1 (shut_bool Tryz.underlying4 true))
  (fun sp hsp => by
   have := trodAll_mk3 (ChangeMaps.shut_string Tryz.underlying9 w0) (stay (by kernel_rfl) (of_decide_eq_true (by kernel_rfl)) h1 hb (fun x hx => hlt x (by simp [hx])) sp (fun x hx => by simp [hx]) hsp) (stay (by kernel_rfl) (of_decide_eq_true (by kernel_rfl)) h2 hb (fun x hx => hlt x (by simp [hx])) sp (fun x hx => by simp [hx]) hsp)
   simp only [List.append_nil, List.nil_append] at this
   exact this) (fun _ _ => rfl) (by simp) hb (ok_one (by kernel_rfl) rfl (okWide_bool_mk Tryz.underlying4 true))⟩
theorem own_row : Rows.SimOwnSaid :=
 OpenClaim.holds_of_wide 8 Tryz.f8 rfl rfl rfl rfl rfl rfl rfl ⟨rfl, rfl, rfl, rfl, rfl⟩ rfl rfl rfl rfl rfl (by kernel_rfl) Tryz.func8 (by kernel_rfl)
  (of_decide_eq_true (by kernel_rfl)) (by unfold Func.isWrapper; rw [if_neg (of_decide_eq_false (by kernel_rfl))]; exact ⟨rfl, rfl⟩)
  (fun os started H enc _ => own_lifted os started H enc)
end Go.Proofs.YthhnmpkgleelfaaGreatDoor
namespace Go.Proofs.YthhnmpkgleelfaaGreatDoor
open Go
theorem own_plain (f : FuncId) (fn : Func) (hf : Tryz.pinned.checked.prog.funcNamed "wicket/wicketlaw12.SimOwn" = some f) (hfn : Tryz.pinned.checked.prog.funcs[f]? = some fn) :
  true = Tryz.pinned.checked.prog.looks [] ∧ ∀ (j : Nat) t, fn.params[j]? = some t → Tryz.pinned.checked.prog.wantsStandIn t = false := by
 obtain rfl : f = 8 := Option.some.inj ((show Tryz.prog.funcNamed "wicket/wicketlaw12.SimOwn" = some 8 by kernel_rfl).symm.trans hf) |>.symm
 obtain rfl : fn = Tryz.f8 := (Option.some.inj (Tryz.func8.symm.trans hfn)).symm
 refine ⟨by kernel_rfl, fun j t ht => ?_⟩
 rw [Tryz.params8] at ht
 have hm : t ∈ [9, 37, 37] := by simpa using Array.mem_of_getElem? ht
 have hall : ([9, 37, 37].all fun u => !Tryz.prog.wantsStandIn u) = true := by kernel_rfl
 exact (show Tryz.prog.wantsStandIn t = false by simpa using List.all_eq_true.1 hall t hm)
theorem own_card : Rows.SimOwnCardSaid :=
 Claim7.holds_tied_plain_at .later [] _ _ _ _ own_row (fun _ h => by cases h) (by kernel_rfl) (fun _ h => by cases h) simOwn_row_tie rfl ⟨rfl, rfl⟩ (by kernel_rfl) rfl own_plain (by kernel_rfl)
#print axioms own_card
end Go.Proofs.YthhnmpkgleelfaaGreatDoor
