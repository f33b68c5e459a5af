/-
  The tied card of wicketlaw2.UtfParts is proved: whatever the numbers and the cut, the call returns true, and what it is handed reads afterwards as before.
  Condition: the three listed package-level variables read as their text lays them (the card ties them).
-/
import Derived.Test.YtjnpfpaigedpbaaDoorF4
namespace Go.Proofs.YtjnpfpaigedpbaaDoor
open Go

theorem parts_plain (f : FuncId) (fn : Func) (hf : Tryd.pinned.checked.prog.funcNamed "wicket/wicketlaw2.UtfParts" = some f) (hfn : Tryd.pinned.checked.prog.funcs[f]? = some fn) :
    true = Tryd.pinned.checked.prog.looks [] ∧ ∀ (j : Nat) t, fn.params[j]? = some t → Tryd.pinned.checked.prog.wantsStandIn t = false := by
  obtain rfl : f = 7 := Option.some.inj ((show Tryd.prog.funcNamed "wicket/wicketlaw2.UtfParts" = some 7 by kernel_rfl).symm.trans hf) |>.symm
  obtain rfl : fn = Tryd.f7 := (Option.some.inj (Tryd.func7.symm.trans hfn)).symm
  refine ⟨by kernel_rfl, fun j t ht => ?_⟩
  rw [Tryd.params7] at ht
  have hm : t ∈ [26, 3] := by simpa using Array.mem_of_getElem? ht
  have hall : ([26, 3].all fun u => !Tryd.prog.wantsStandIn u) = true := by kernel_rfl
  exact (show Tryd.prog.wantsStandIn t = false by simpa using List.all_eq_true.1 hall t hm)
theorem parts_card : Rows.UtfPartsCardSaid :=
  Claim7.holds_tied_plain_at .later [] _ _ _ _ parts_row (fun _ h => by cases h) (by kernel_rfl) (fun _ h => by cases h) utfParts_row_tie rfl ⟨rfl, rfl⟩ (by kernel_rfl) rfl parts_plain (by kernel_rfl)
#print axioms parts_card
end Go.Proofs.YtjnpfpaigedpbaaDoor
