import Derived.Test.YthhnmpkgleelfaaGreatDoorM13
import Derived.Test.YthhnmpkgleelfaaGreatDoorM14
set_option linter.unusedVariables false
set_option linter.unusedSimpArgs false
namespace Go.Proofs.YthhnmpkgleelfaaGreatDoor
section
variable {P : Program} {ops : Array Oper} {Q : Exit → Act → World → Prop} {md : Region.Mode} {S : World → Prop}
theorem nth {i : Nat} {o : Oper} (h : (ops.toList.drop i).head? = some o) : ops[i]? = some o := by
 rw [List.head?_drop] at h
 rw [← Array.getElem?_toList]
 exact h
theorem tkH (i : Nat) {oi : Oper} {v : Value} {fuel : Nat} {listed : Array Bool} {a : Act} {w : World} (hi : ops[i]? = some oi)
  (hs : Region.noSelect ops = true) (hf : Region.free md ops listed i = true) (hr : (Region.ready md ops listed).contains i = true)
  (hQ : ∀ c a w, Q (.panic c) (a.put oi.dst v) w → Q (.panic c) a w) (hg : Region.wanted oi (yielded ops a.tmps) = true) (hS : S w) (hy : ∀ w, S w → (execOp a.eval oi).run P w = .ok (.value v) w)
  (h : wpAnyH P md ops Q S fuel (listed.setIfInBounds i true) (a.put oi.dst v) w) : wpAnyH P md ops Q S (fuel + 1) listed a w :=
 wpAnyH_take hi hs hf hr hQ (Or.inl ⟨hg, hy⟩) hS h
theorem tkZ (i : Nat) {z : Nat} {oi : Oper} {v : Value} {fuel : Nat} {listed : Array Bool} {a : Act} {w : World} (hi : ops[i]? = some oi)
  (hs : Region.noSelect ops = true) (hf : Region.free md ops listed i = true) (hr : (Region.ready md ops listed).contains i = true) (hz : waitsB md ops z i = true)
  (hQ : ∀ c a w, Q (.panic c) (a.put oi.dst v) w → Q (.panic c) a w) (hg : Region.wanted oi (yielded ops a.tmps) = true) (hS : S w) (hy : ∀ w, S w → (execOp a.eval oi).run P w = .ok (.value v) w)
  (h : wpAnyZ P md ops Q S z fuel (listed.setIfInBounds i true) (a.put oi.dst v) w) : wpAnyZ P md ops Q S z (fuel + 1) listed a w :=
 wpAnyZ_take hi hs hf hr hz hQ (Or.inl ⟨hg, hy⟩) hS h
theorem tkR (i : Nat) (n : Nat) {z : Nat} {oi : Oper} {v : Value} {fuel : Nat} {listed : Array Bool} {a : Act} {w : World} (hi : ops[i]? = some oi)
  (hs : Region.noSelect ops = true) (hf : Region.free md ops listed i = true) (hr : (Region.ready md ops listed).contains i = true) (hz : reachB md ops n z i = true) (hc : cloB md ops listed = true)
  (hQ : ∀ c a w, Q (.panic c) (a.put oi.dst v) w → Q (.panic c) a w) (hg : Region.wanted oi (yielded ops a.tmps) = true) (hS : S w) (hy : ∀ w, S w → (execOp a.eval oi).run P w = .ok (.value v) w)
  (h : wpAnyZ P md ops Q S z fuel (listed.setIfInBounds i true) (a.put oi.dst v) w) : wpAnyZ P md ops Q S z (fuel + 1) listed a w :=
 wpAnyR_take n hi hs hf hr hz hc hQ (Or.inl ⟨hg, hy⟩) hS h
end
theorem pA {α : Type} {xs : List α} {i : Nat} {a : α} : xs.toArray.setIfInBounds i a = (xs.set i a).toArray := List.setIfInBounds_toArray ..
theorem pB {α : Type} {xs : List α} {a b : α} : (a :: xs).set 0 b = b :: xs := List.set_cons_zero
theorem pC {α : Type} {xs : List α} {n : Nat} {a b : α} : (a :: xs).set (n + 1) b = a :: xs.set n b := List.set_cons_succ
end Go.Proofs.YthhnmpkgleelfaaGreatDoor
