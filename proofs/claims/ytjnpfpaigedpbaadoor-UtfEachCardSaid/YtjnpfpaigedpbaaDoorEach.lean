/-
  The tied card of wicketlaw2.UtfEach is proved: whatever the bytes and the number, the call returns true, and what it is handed reads afterwards as before.
  Condition: the three listed package-level variables read as their text lays them (the card ties them).
-/
import Derived.Test.YtjnpfpaigedpbaaDoorF6
namespace Go.Proofs.YtjnpfpaigedpbaaDoor
open Go

theorem each_plain (f : FuncId) (fn : Func) (hf : Tryd.pinned.checked.prog.funcNamed "wicket/wicketlaw2.UtfEach" = some f) (hfn : Tryd.pinned.checked.prog.funcs[f]? = some fn) :
    true = Tryd.pinned.checked.prog.looks [] ∧ ∀ (j : Nat) t, fn.params[j]? = some t → Tryd.pinned.checked.prog.wantsStandIn t = false := by
  obtain rfl : f = 4 := Option.some.inj ((show Tryd.prog.funcNamed "wicket/wicketlaw2.UtfEach" = some 4 by kernel_rfl).symm.trans hf) |>.symm
  obtain rfl : fn = Tryd.f4 := (Option.some.inj (Tryd.func4.symm.trans hfn)).symm
  refine ⟨by kernel_rfl, fun j t ht => ?_⟩
  rw [Tryd.params4] at ht
  have hm : t ∈ [24, 3] := by simpa using Array.mem_of_getElem? ht
  have hall : ([24, 3].all fun u => !Tryd.prog.wantsStandIn u) = true := by kernel_rfl
  exact (show Tryd.prog.wantsStandIn t = false by simpa using List.all_eq_true.1 hall t hm)
theorem each_card : Rows.UtfEachCardSaid :=
  Claim7.holds_tied_plain_at .later [] _ _ _ _ eachlaw_row (fun _ h => by cases h) (by kernel_rfl) (fun _ h => by cases h) utfEach_row_tie rfl ⟨rfl, rfl⟩ (by kernel_rfl) rfl each_plain (by kernel_rfl)
#print axioms each_card
end Go.Proofs.YtjnpfpaigedpbaaDoor
