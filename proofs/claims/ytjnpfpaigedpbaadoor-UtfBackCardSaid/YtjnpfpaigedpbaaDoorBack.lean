/-
  The tied card of wicketlaw2.UtfBack is proved: whatever the two numbers and the bytes, the call returns true, and what it is handed reads afterwards as before.
  Condition: the three listed package-level variables read as their text lays them (the card ties them).
-/
import Derived.Test.YtjnpfpaigedpbaaDoorF2
namespace Go.Proofs.YtjnpfpaigedpbaaDoor
open Go

theorem back_plain (f : FuncId) (fn : Func) (hf : Tryd.pinned.checked.prog.funcNamed "wicket/wicketlaw2.UtfBack" = some f) (hfn : Tryd.pinned.checked.prog.funcs[f]? = some fn) :
    true = Tryd.pinned.checked.prog.looks [] ∧ ∀ (j : Nat) t, fn.params[j]? = some t → Tryd.pinned.checked.prog.wantsStandIn t = false := by
  obtain rfl : f = 6 := Option.some.inj ((show Tryd.prog.funcNamed "wicket/wicketlaw2.UtfBack" = some 6 by kernel_rfl).symm.trans hf) |>.symm
  obtain rfl : fn = Tryd.f6 := (Option.some.inj (Tryd.func6.symm.trans hfn)).symm
  refine ⟨by kernel_rfl, fun j t ht => ?_⟩
  rw [Tryd.params6] at ht
  have hm : t ∈ [21, 21, 24] := by simpa using Array.mem_of_getElem? ht
  have hall : ([21, 21, 24].all fun u => !Tryd.prog.wantsStandIn u) = true := by kernel_rfl
  exact (show Tryd.prog.wantsStandIn t = false by simpa using List.all_eq_true.1 hall t hm)
theorem back_card : Rows.UtfBackCardSaid :=
  Claim7.holds_tied_plain_at .later [] _ _ _ _ back_row (fun _ h => by cases h) (by kernel_rfl) (fun _ h => by cases h) utfBack_row_tie rfl ⟨rfl, rfl⟩ (by kernel_rfl) rfl back_plain (by kernel_rfl)
#print axioms back_card
end Go.Proofs.YtjnpfpaigedpbaaDoor
