import Derived.Test.YthhnmpkgleelfaaGreatDoorM13
set_option linter.unusedVariables false
set_option linter.unusedSimpArgs false
namespace Go.Proofs.YthhnmpkgleelfaaGreatDoor
section
variable {P : Program} {ops : Array Oper} {Q : Exit → Act → World → Prop} {md : Region.Mode} {S : World → Prop} {z : Nat}
def reachB (md : Region.Mode) (ops : Array Oper) : Nat → Nat → Nat → Bool
 | 0, m, i => waitsB md ops m i
 | n + 1, m, i => waitsB md ops m i || (List.range ops.size).any (fun k => waitsB md ops m k && reachB md ops n k i)
def Clo (md : Region.Mode) (ops : Array Oper) (listed : Array Bool) : Prop := listed.size = ops.size ∧ ∀ m i, m < ops.size → waitsB md ops m i = true → listed.getD i true = false → listed.getD m true = false
def cloB (md : Region.Mode) (ops : Array Oper) (listed : Array Bool) : Bool := listed.size == ops.size && (List.range ops.size).all (fun m => (List.range ops.size).all (fun i => !(waitsB md ops m i) || listed.getD i true || !(listed.getD m true)))
theorem Clo.of {listed : Array Bool} (h : cloB md ops listed = true) : Clo md ops listed := by
 unfold cloB at h
 simp only [Bool.and_eq_true, beq_iff_eq, List.all_eq_true, List.mem_range, Bool.or_eq_true, Bool.not_eq_true'] at h
 refine ⟨h.1, fun m i hm hw hi => ?_⟩
 by_cases hs : i < ops.size
 ·rcases h.2 m hm i hs with (h1 | h1) | h1
  ·rw [hw] at h1; cases h1
  ·rw [hi] at h1; cases h1
  ·exact h1
 ·have hge : listed.size ≤ i := by omega
  simp [Array.getElem?_eq_none hge] at hi
theorem waits_lt {m i : Nat} (h : waitsB md ops m i = true) : m < ops.size := by
 unfold waitsB at h
 cases hm : ops[m]? with
 | none => rw [hm] at h; cases h
 | some o => exact (Array.getElem?_eq_some_iff.1 hm).1
theorem Clo.set {listed : Array Bool} {j : Nat} (h : Clo md ops listed) (hj : j ∈ Region.ready md ops listed) : Clo md ops (listed.setIfInBounds j true) := by
 refine ⟨by rw [Array.size_setIfInBounds]; exact h.1, fun m i hm hw hi => ?_⟩
 have hji : j ≠ i := by
  intro e
  subst e
  by_cases hs : j < listed.size
  ·simp [hs] at hi
  ·simp [hs] at hi
 rw [getD_set_ne true hji] at hi
 have hjm : j ≠ m := by
  intro e
  subst e
  exact waits_not_ready hw hi hj
 rw [getD_set_ne true hjm]
 exact h.2 m i hm hw hi
theorem reach_unlisted {listed : Array Bool} (hc : Clo md ops listed) {i : Nat} (hi : listed.getD i true = false) : ∀ (n m : Nat), reachB md ops n m i = true → listed.getD m true = false
 | 0, m, h => hc.2 m i (waits_lt h) h hi
 | n + 1, m, h => by
  unfold reachB at h
  rcases Bool.or_eq_true _ _ ▸ h with h | h
  ·exact hc.2 m i (waits_lt h) h hi
  ·obtain ⟨k, hk, h2⟩ := List.any_eq_true.1 h
   rw [Bool.and_eq_true] at h2
   exact hc.2 m k (waits_lt h2.1) h2.1 (reach_unlisted hc hi n k h2.2)
theorem reach_not_ready {listed : Array Bool} (hc : Clo md ops listed) {i n : Nat} (hi : listed.getD i true = false) (h : reachB md ops n z i = true) : z ∉ Region.ready md ops listed := by
 cases n with
 | zero => exact waits_not_ready h hi
 | succ n =>
  unfold reachB at h
  rcases Bool.or_eq_true _ _ ▸ h with h | h
  ·exact waits_not_ready h hi
  ·obtain ⟨k, hk, h2⟩ := List.any_eq_true.1 h
   rw [Bool.and_eq_true] at h2
   exact waits_not_ready h2.1 (reach_unlisted hc hi n k h2.2)
theorem wpAnyR_first {i n : Nat} {oi : Oper} {v : Value} (hi : ops[i]? = some oi) (hsel : ∀ (j : Nat) (o : Oper) cs b, ops[j]? = some o → o.op ≠ .select cs b)
  (hQ : ∀ c a w, Q (.panic c) (a.put oi.dst v) w → Q (.panic c) a w) (hz : reachB md ops n z i = true) :
  ∀ (fuel : Nat) (listed : Array Bool) (a : Act) (w : World), Clo md ops listed →
   (∀ j oj, ops[j]? = some oj → j ≠ i → listed.getD j true = false → (∀ e ∈ oj.after, Region.binds md e = true → e.on ≠ i) → oi.apart ops oj = true) →
   i ∈ Region.ready md ops listed → YieldsIf P ops S oi v a → S w →
   wpAnyZ P md ops Q S z fuel (listed.setIfInBounds i true) (a.put oi.dst v) w → wpAnyZ P md ops Q S z (fuel + 1) listed a w := by
 intro fuel
 induction fuel with
 | zero =>
  intro listed a w _ _ hr hy hS H
  refine ⟨fun h => (by rw [h] at hr; cases hr), fun j hj => ?_⟩
  by_cases hji : j = i
  ·subst hji; exact hy.wpOp hi hS ⟨fun _ => hS, H⟩
  ·have := ready_mono hj hji
   rw [H.1] at this
   cases this
 | succ fuel ih =>
  intro listed a w hc hfree hr hy hS H
  refine ⟨fun h => (by rw [h] at hr; cases hr), fun j hj => ?_⟩
  by_cases hji : j = i
  ·subst hji; exact hy.wpOp hi hS ⟨fun _ => hS, H⟩
  ·have hjz : j ≠ z := fun e => reach_not_ready hc (mem_ready.1 hr).1 hz (e ▸ hj)
   have h1 := H.2 j (ready_mono hj hji)
   obtain ⟨hjun, oj, hoj, hall⟩ := mem_ready.1 hj
   have hnot : ∀ e ∈ oj.after, Region.binds md e = true → e.on ≠ i := fun e he hb heq => by
    have h1 := hall e he hb
    have h0 := (mem_ready.1 hr).1
    rw [heq] at h1
    rcases Nat.lt_or_ge i listed.size with h' | h'
    ·simp [h'] at h0 h1; rw [h0] at h1; cases h1
    ·simp [Array.getElem?_eq_none h'] at h1
   have h2 := wpOp_putIf hoj (hfree j oj hoj hji hjun hnot) (fun cs b => hsel i oi cs b hi) (fun cs b => hsel j oj cs b hoj) hQ hy h1
   have hfree' : ∀ k ok, ops[k]? = some ok → k ≠ i → (listed.setIfInBounds j true).getD k true = false →
     (∀ e ∈ ok.after, Region.binds md e = true → e.on ≠ i) → oi.apart ops ok = true := fun k ok hk hki hun hno => by
    refine hfree k ok hk hki ?_ hno
    by_cases hjk : j = k
    ·subst hjk; exact hjun
    ·rw [getD_set_ne true hjk] at hun; exact hun
   refine wpOp_mono (fun a' w' h3 => ⟨fun _ => h3.2.1 hjz, ih (listed.setIfInBounds j true) a' w' (hc.set hj) hfree' (ready_mono hr (Ne.symm hji)) h3.1 (h3.2.1 hjz) ?_⟩) h2
   rw [Array.setIfInBounds_comm _ _ hji]
   exact h3.2.2
theorem wpAnyR_take {i : Nat} (n : Nat) {oi : Oper} {v : Value} {fuel : Nat} {listed : Array Bool} {a : Act} {w : World} (hi : ops[i]? = some oi)
  (hs : Region.noSelect ops = true) (hf : Region.free md ops listed i = true) (hr : (Region.ready md ops listed).contains i = true) (hz : reachB md ops n z i = true) (hc : cloB md ops listed = true)
  (hQ : ∀ c a w, Q (.panic c) (a.put oi.dst v) w → Q (.panic c) a w) (hy : YieldsIf P ops S oi v a) (hS : S w)
  (h : wpAnyZ P md ops Q S z fuel (listed.setIfInBounds i true) (a.put oi.dst v) w) : wpAnyZ P md ops Q S z (fuel + 1) listed a w :=
 wpAnyR_first hi (Region.noSelect_spec hs) hQ hz fuel listed a w (Clo.of hc) (Region.free_spec hi hf) (by simpa using hr) hy hS h
end
end Go.Proofs.YthhnmpkgleelfaaGreatDoor
