/-
  The tied card of wicketlaw2.UtfOrder is proved: whatever the two numbers, the call returns true, and what it is handed reads afterwards as before.
  Condition: the three listed package-level variables read as their text lays them (the card ties them).
-/
import Derived.Test.YtjnpfpaigedpbaaDoorF1
namespace Go.Proofs.YtjnpfpaigedpbaaDoor
open Go

theorem order_plain (f : FuncId) (fn : Func) (hf : Tryd.pinned.checked.prog.funcNamed "wicket/wicketlaw2.UtfOrder" = some f) (hfn : Tryd.pinned.checked.prog.funcs[f]? = some fn) :
    true = Tryd.pinned.checked.prog.looks [] ∧ ∀ (j : Nat) t, fn.params[j]? = some t → Tryd.pinned.checked.prog.wantsStandIn t = false := by
  obtain rfl : f = 8 := Option.some.inj ((show Tryd.prog.funcNamed "wicket/wicketlaw2.UtfOrder" = some 8 by kernel_rfl).symm.trans hf) |>.symm
  obtain rfl : fn = Tryd.f8 := (Option.some.inj (Tryd.func8.symm.trans hfn)).symm
  refine ⟨by kernel_rfl, fun j t ht => ?_⟩
  rw [Tryd.params8] at ht
  have hm : t ∈ [21, 21] := by simpa using Array.mem_of_getElem? ht
  have hall : ([21, 21].all fun u => !Tryd.prog.wantsStandIn u) = true := by kernel_rfl
  exact (show Tryd.prog.wantsStandIn t = false by simpa using List.all_eq_true.1 hall t hm)
theorem order_card : Rows.UtfOrderCardSaid :=
  Claim7.holds_tied_plain_at .later [] _ _ _ _ order_row (fun _ h => by cases h) (by kernel_rfl) (fun _ h => by cases h) utfOrder_row_tie rfl ⟨rfl, rfl⟩ (by kernel_rfl) rfl order_plain (by kernel_rfl)
#print axioms order_card
end Go.Proofs.YtjnpfpaigedpbaaDoor
