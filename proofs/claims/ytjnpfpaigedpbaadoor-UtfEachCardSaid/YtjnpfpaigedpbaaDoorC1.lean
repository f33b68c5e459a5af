import Derived.Test.YtjnpfpaigedpbaaDoorB2
import Derived.RangeFuncNested
import Derived.RangeFuncBound
import Derived.RangeFuncCalls
import Derived.RangeFuncLeaves
import Derived.RangeFuncFrom
import Derived.Shelf.Abstract
import Derived.Lib.ConvBytes
import Derived.Laws.IdiomStrings
import Derived.Shelf.RegionOpen
import Derived.OwnWalkIn
import Derived.TacticsInMore
import Derived.LoopNIn
import Derived.LoopIn
namespace Go.Proofs.YtjnpfpaigedpbaaDoor
open Go.RowKit Go.Shelf
attribute [local go_sem] Oper.semAt_some

def eachF (xs : List UInt8) : Nat → Nat → List (Nat × Nat)
  | 0, _ => []
  | f + 1, k => if (dec (xs.drop k)).2.2 = 0 then (k, (dec (xs.drop k)).1) :: eachF xs f (k + (dec (xs.drop k)).2.1) else []
def each (xs : List UInt8) : List (Nat × Nat) := eachF xs (xs.length + 1) 0


theorem decLoop_pos (xs : List UInt8) (n : Nat) : ∀ f k, (decLoop xs n f k).2.2 = 0 → (decLoop xs n f k).2.1 = n
  | 0, _, _ => rfl
  | f + 1, k, h => by
    unfold decLoop at h ⊢; split
    · rename_i hk; rw [if_pos hk] at h; simp at h
    · rename_i hk; rw [if_neg hk] at h; split
      · rename_i ho; rw [if_pos ho] at h; exact decLoop_pos xs n f (k + 1) h
      · rename_i ho; rw [if_neg ho] at h; simp at h
theorem dec_pos {xs : List UInt8} (h : (dec xs).2.2 = 0) : 1 ≤ (dec xs).2.1 := by
  unfold dec at h ⊢; split
  · rename_i h0; rw [if_pos h0] at h; simp at h
  · rename_i h0; rw [if_neg h0] at h; split
    · rename_i hc; rw [if_pos hc] at h; simp at h
    · rename_i hc; rw [if_neg hc] at h; rw [decLoop_pos _ _ _ _ h]; omega
theorem dec_drop_le (xs : List UInt8) (k : Nat) (hk : k ≤ xs.length) : k + (dec (xs.drop k)).2.1 ≤ xs.length := by
  have := dec_le (xs.drop k); rw [List.length_drop] at this; omega

/-- Cells outside the blocks from B on and below B2 stay. -/
def KpB (B B2 : Nat) (W W' : World) : Prop := ∀ k cs t z, (k < B ∨ B2 ≤ k) → W.heap[k]? = some (.cells cs t z) → W'.heap[k]? = some (.cells cs t z)
theorem KpB.t {B B2 : Nat} {X Y Z : World} (h : KpB B B2 X Y) (k : KpB B B2 Y Z) : KpB B B2 X Z := fun i cs t z hi hc => k i cs t z hi (h i cs t z hi hc)
theorem KpB.b {B B2 : Nat} (W : World) (l : Nat) (o o' : Obj) (h : W.heap[l]? = some o) (ho : o.isCells = false) : KpB B B2 W (W.putObj l o') := fun k cs t z _ hc => by
  have : k ≠ l := by rintro rfl; rw [h] at hc; cases hc; simp [Obj.isCells] at ho
  exact (World.putObj_heap_other this).trans hc
theorem KpB.drewN {B B2 : Nat} (W : World) (m : Nat) : KpB B B2 W (W.drewN m) := fun _ _ _ _ _ h => h
theorem KpB.of_below {B B2 : Nat} {W W' : World} (h : Below W.heap.size W W') : KpB B B2 W W' := fun k cs t z _ hc => (h.block k (lt_of_heap hc)).trans hc
theorem heap_of_cell {w : World} {a : Addr} {v : Value} (h : w.cell? a = some v) : ∃ cs t z, w.heap[a.block]? = some (.cells cs t z) := by
  unfold World.cell? at h
  cases hh : w.heap[a.block]? with
  | none => rw [hh] at h; simp at h
  | some o =>
    rw [hh] at h
    cases o with
    | cells cs t z => exact ⟨cs, t, z, rfl⟩
    | _ => simp at h
theorem KpB.cell {B B2 : Nat} {W W' : World} (h : KpB B B2 W W') {a : Addr} {v : Value} (hc : W.cell? a = some v) (hb : a.block < B ∨ B2 ≤ a.block) : W'.cell? a = some v := by
  obtain ⟨cs, t, z, hh⟩ := heap_of_cell hc
  rw [← hc]
  exact World.cell?_of_block ((h _ cs t z hb hh).trans hh.symm)
theorem KpB.glob {B B2 : Nat} {W W' : World} {aU aE : Addr} (h : KpB B B2 W W') (hg : Glob W aU aE) (h2 : 2 < B) (hU : aU.block < B) (hE : aE.block < B) : Glob W' aU aE := by
  obtain ⟨c1, t1, h1⟩ := hg.hu
  obtain ⟨c2, t2, h3⟩ := hg.he
  exact ⟨h.cell hg.u (.inl (by show 0 < B; omega)), h.cell hg.e (.inl (by show 1 < B; omega)), fun i hi => h.cell (hg.l i hi) (.inl h2), ⟨c1, t1, h _ _ _ _ (.inl hU) h1⟩, ⟨c2, t2, h _ _ _ _ (.inl hE) h3⟩, hg.ne⟩

/-- []byte(s): a new row that reads as the string. -/
theorem conv_bytes (W : World) (s : ByteArray) (hs : s.size ≤ 9223372036854775807) : ∃ W2 cap cs z, (convert 9 24 (.string s)).run Tryd.prog W = .ok (.slice (some ⟨W.heap.size, 0, none⟩) s.size cap) W2 ∧
    s.size ≤ cap ∧ W.grownBy W2 none ∧ W2.heap.size = W.heap.size + 1 ∧ W2.heap[W.heap.size]? = some (.cells cs 5 z) ∧
    (∀ X : World, X.heap[W.heap.size]? = some (.cells cs 5 z) → Bs X (.slice (some ⟨W.heap.size, 0, none⟩) s.size cap) s.data.toList) := by
  refine ⟨Lib.bytesWorld W 5 s, grownCap W s.size 0 5, Lib.bytesCells W 5 s, _, Lib.run_convert_string_bytes W 9 24 5 s Tryd.underlying9 Tryd.underlying24 Tryd.underlying5, grownCap_ge _ _ _ _, ?_, Lib.bytesWorld_size _ _ _, Lib.bytesWorld_at_new _ _ _, ?_⟩
  · exact ⟨rfl, rfl, rfl, by rw [Lib.bytesWorld_size]; omega, fun k hk _ => Lib.bytesWorld_at_old _ _ _ _ hk⟩
  · intro X hX
    have hl : s.data.toList.length = s.size := by simp
    refine ⟨by omega, _, _, by rw [hl], by rw [hl]; exact grownCap_ge _ _ _ _, fun _ => ⟨_, 0, rfl, fun i hi => ?_⟩⟩
    rw [Nat.zero_add, World.cell?_of_block (w := Lib.bytesWorld W 5 s) (hX.trans (Lib.bytesWorld_at_new W 5 s).symm)]
    exact Lib.bytesWorld_cell W 5 s i (by omega)

theorem eachF_rest {xs : List UInt8} {f k : Nat} (h : (dec (xs.drop k)).2.2 ≠ 0) : eachF xs f k = [] := by
  cases f with
  | zero => rfl
  | succ f => unfold eachF; rw [if_neg h]
theorem eachF_more {xs : List UInt8} {f k : Nat} (h : (dec (xs.drop k)).2.2 = 0) : eachF xs (f + 1) k = (k, (dec (xs.drop k)).1) :: eachF xs f (k + (dec (xs.drop k)).2.1) := by
  rw [eachF, if_pos h]
def EachRel (xs : List UInt8) (J : List (Nat × Nat) → World → Prop) (G : World → Prop) (k : Nat) (wr : World) : Prop :=
  ∃ pre f, each xs = pre ++ eachF xs f k ∧ xs.length < f + k ∧ k ≤ xs.length ∧ J pre wr ∧ G wr

set_option maxHeartbeats 1000000 in
theorem each1_in (n : Nat) (hn : 1 ≤ n) (l sb : Nat) (s : ByteArray) (B B2 : Nat) (hsz : s.size ≤ 9223372036854775807) (aU aE : Addr) (J Jx : List (Nat × Nat) → World → Prop)
    (W : World) (hB : B2 ≤ W.heap.size) (h2 : 2 < B) (hU : aU.block < B) (hE : aE.block < B) (hg : Glob W aU aE)
    (hJ : AbidesFrom W.heap.size J) (hJx : AbidesFrom W.heap.size Jx)
    (hY : ∀ pre (x : Nat × Nat) W1, J pre W1 → pre.length < (each s.data.toList).length → YieldAt Fence.wide (n - 1) Tryd.prog l #[.int .i64 (x.1 : Int), .int .i32 (x.2 : Int)] W1 fun e W' =>
      (e = .returned (.bool true) ∧ J (pre ++ [x]) W' ∧ KpB B B2 W1 W') ∨ (e = .returned (.bool false) ∧ Jx (pre ++ [x]) W'))
    (hs : W.cell? ⟨sb, 0, none⟩ = some (.string s)) (h0 : J [] W) :
    CallsIn Fence.wide n Tryd.prog 30 #[.func (.yield l) #[] #[], .pointer (some ⟨sb, 0, none⟩)] W fun e W' => (∃ v, e = .returned v) ∧
      ((∃ ys, ys = each s.data.toList ∧ J ys W') ∨ (∃ pre, pre <+: each s.data.toList ∧ Jx pre W')) := by
  obtain ⟨W2, cap, cs, z, hconv, hcap, hgr, hsz2, hrow, hbs⟩ := conv_bytes W s hsz
  refine callsIn_of_wp Tryd.func30 rfl trivial ?_ rfl
  simp only [Tryd.ntmps30, List.size_toArray, List.length_cons, List.length_nil, Nat.reduceAdd, Nat.reduceSub, Array.replicate_succ, Array.replicate_zero, List.push_toArray, List.append_toArray, List.nil_append, List.cons_append]
  have hl : s.data.toList.length = s.size := by simp
  generalize s.data.toList = xs at *
  have Hg := Lib.hid hg
  have HJ := Lib.hid hJ
  have HY := Lib.hid hY
  have Hgr := Lib.hid hgr
  have Hsz2 := Lib.hid hsz2
  have Hrow := Lib.hid hrow
  have Hbs := Lib.hid hbs
  have Hl := Lib.hid hl
  have H0 := Lib.hid h0
  clear hg hJ hY hgr hsz2 hrow hbs hl h0
  generalize hrb : W.heap.size = rb at *
  have Hrb := Lib.hid hrb
  clear hrb
  gi_wp2
  gi_loopw [4] (fun v wr => ∃ k : Nat, v = .int .i64 k ∧ EachRel xs J (fun wr => Glob wr aU aE ∧ wr.heap[rb]? = some (.cells cs 5 z)) k wr) (fun v _ => s.size - (intOf v).toNat)
  case atStart =>
    refine ⟨0, rfl, [], xs.length + 1, rfl, by omega, Nat.zero_le _, ?_, ?_, Hrow.out⟩
    · exact HJ.out _ _ _ none H0.out Hgr.out (fun r e => by cases e)
    · exact Hg.out.below ⟨Hgr.out.os, Hgr.out.tape, Hgr.out.output, Hgr.out.size, fun k hk => Hgr.out.block k hk (by simp)⟩
  case round =>
    obtain ⟨k, rfl, pre, f, he, hf, hk, hJp, hG, hR⟩ := hrel
    have hk' : k ≤ s.size := by rw [← Hl.out]; exact hk
    have Hf := Lib.hid hf
    have He := Lib.hid he
    have HG := Lib.hid hG
    have HR := Lib.hid hR
    have HJp := Lib.hid hJp
    have Hk := Lib.hid hk
    clear hf he hG hR hJp hk
    have hbase : Bs wr (.slice (some ⟨rb, 0, none⟩) xs.length cap) xs := by rw [Hl.out]; exact Hbs.out wr HR.out
    have hle := dec_drop_le xs k Hk.out
    have hcode := (dec_bd (xs.drop k)).2
    have hcut : ∀ A c', cap = k ∨ (A = some ⟨rb, k, none⟩ ∧ c' = cap - k) → Calls Tryd.prog 22 #[.slice A (s.size - k) c'] wr fun e w' => Decoded (errS aU) (errS aE) wr (dec (xs.drop k)) e w' := by
      intro A c' h
      refine decode_any ?_ HG.out
      rcases h with hck | ⟨rfl, rfl⟩
      · have h0 : s.size - k = 0 := by omega
        have : xs.drop k = [] := List.drop_eq_nil_of_le (by rw [Hl.out]; omega)
        rw [this, h0]
        exact ⟨by simp, _, _, rfl, Nat.zero_le _, fun h => by simp at h⟩
      · have := hbase.cut Hk.out
        rwa [Hl.out, Nat.zero_add] at this
    have Hcut := Lib.hid hcut
    clear hcut hbase
    have hfin : ∀ e : (dec (xs.drop k)).2.2 ≠ 0, each xs = pre := fun e => by rw [He.out, eachF_rest e, List.append_nil]
    have hgo : ∀ e : (dec (xs.drop k)).2.2 = 0, 1 ≤ (dec (xs.drop k)).2.1 ∧ ∃ f', xs.length < f' + (k + (dec (xs.drop k)).2.1) ∧ each xs = pre ++ (k, (dec (xs.drop k)).1) :: eachF xs f' (k + (dec (xs.drop k)).2.1) := fun e => by
      have hp := dec_pos e
      have h1 := Hf.out
      have h2 := Hk.out
      obtain ⟨f', rfl⟩ : ∃ f', f = f' + 1 := ⟨f - 1, by omega⟩
      exact ⟨hp, f', by omega, by rw [He.out, eachF_more e]⟩
    have Hfin := Lib.hid hfin
    have Hgo := Lib.hid hgo
    clear hfin hgo
    generalize dec (xs.drop k) = r at *
    obtain ⟨r1, r2, r3⟩ := r
    have hle' : k + r2 ≤ s.size := by rw [← Hl.out]; exact hle
    clear hle
    have hcode' : r3 = 0 ∨ r3 = 1 ∨ r3 = 2 := by have : r3 ≤ 2 := hcode; omega
    clear hcode
    have hp : pre.length < (each xs).length ∨ r3 ≠ 0 := by
      by_cases h : r3 = 0
      · obtain ⟨_, f', _, h'⟩ := Hgo.out h
        left; rw [h']; simp
      · exact .inr h
    have Hp := Lib.hid hp
    clear hp
    gi_wp2_with fail
    all_goals
      refine ⟨trivial, ?_⟩
      refine (callsIn_wide.2 (Hcut.out _ _ (by first | exact .inl (by assumption) | exact .inr ⟨rfl, rfl⟩))).mono ?_
      rintro e w' ⟨rfl, m, rfl⟩
    · rcases hcode' with rfl | rfl | rfl
      · exfalso; have := (Hgo.out rfl).1; omega
      · rw [decV_1]
        gi_wp2
        refine ⟨fun _ h => (by cases h), ?_⟩
        gi_wp2
        refine bodyPost_ret (results_none rfl _ _ _) rfl ?_
        exact ⟨⟨_, rfl⟩, .inl ⟨_, rfl, by rw [Hfin.out (by simp)]; exact HJ.out _ _ _ none HJp.out ⟨rfl, rfl, rfl, Nat.le_refl _, fun _ _ _ => rfl⟩ (fun r e => by cases e)⟩⟩
      · rw [decV_2]
        gi_wp2
        refine ⟨fun _ h => (by cases h), ?_⟩
        gi_wp2
        refine bodyPost_ret (results_none rfl _ _ _) rfl ?_
        exact ⟨⟨_, rfl⟩, .inl ⟨_, rfl, by rw [Hfin.out (by simp)]; exact HJ.out _ _ _ none HJp.out ⟨rfl, rfl, rfl, Nat.le_refl _, fun _ _ _ => rfl⟩ (fun r e => by cases e)⟩⟩
    · rcases hcode' with rfl | rfl | rfl
      · rw [decV_0]
        obtain ⟨hr2, f', hf', he'⟩ := Hgo.out rfl
        have Hf' := Lib.hid hf'
        have He' := Lib.hid he'
        clear hf' he'
        obtain ⟨fn, tmps, assign, body, hy, hRd⟩ := HY.out pre (k, r1) (wr.drewN m) (HJ.out _ _ _ none HJp.out ⟨rfl, rfl, rfl, Nat.le_refl _, fun _ _ _ => rfl⟩ (fun r e => by cases e)) (Hp.out.resolve_right (fun h => h rfl))
        dsimp only at hy
        gi_wp2
        refine hRd.mono ?_
        rintro e W3 (⟨rfl, hJ3, hk3⟩ | ⟨rfl, hJx3⟩)
        · gi_wp2
          exact ⟨⟨k + r2, by go_num, pre ++ [(k, r1)], f', by rw [He'.out, List.append_cons], Hf'.out, by rw [Hl.out]; exact hle', hJ3, hk3.glob (HG.out.drewN m) h2 hU hE, hk3 rb cs 5 z (.inr hB) HR.out⟩, by simp [intOf]; omega⟩
        · gi_wp2
          refine bodyPost_ret (results_none rfl _ _ _) rfl ?_
          exact ⟨⟨_, rfl⟩, .inr ⟨_, ⟨eachF xs f' (k + r2), by rw [He'.out]; simp⟩, hJx3⟩⟩
      · rw [decV_1]
        gi_wp2
        refine ⟨fun _ h => (by cases h), ?_⟩
        gi_wp2
        refine bodyPost_ret (results_none rfl _ _ _) rfl ?_
        exact ⟨⟨_, rfl⟩, .inl ⟨_, rfl, by rw [Hfin.out (by simp)]; exact HJ.out _ _ _ none HJp.out ⟨rfl, rfl, rfl, Nat.le_refl _, fun _ _ _ => rfl⟩ (fun r e => by cases e)⟩⟩
      · rw [decV_2]
        gi_wp2
        refine ⟨fun _ h => (by cases h), ?_⟩
        gi_wp2
        refine bodyPost_ret (results_none rfl _ _ _) rfl ?_
        exact ⟨⟨_, rfl⟩, .inl ⟨_, rfl, by rw [Hfin.out (by simp)]; exact HJ.out _ _ _ none HJp.out ⟨rfl, rfl, rfl, Nat.le_refl _, fun _ _ _ => rfl⟩ (fun r e => by cases e)⟩⟩
end Go.Proofs.YtjnpfpaigedpbaaDoor
