/-
  The tied card of wicketlaw2.UtfClass is proved: every byte gets its class, and the examples hold: the call returns true.
  Condition: the three listed package-level variables read as their text lays them (the card ties them).
-/
import Derived.Test.YtjnpfpaigedpbaaDoorF3
namespace Go.Proofs.YtjnpfpaigedpbaaDoor
open Go

theorem class_plain (f : FuncId) (fn : Func) (hf : Tryd.pinned.checked.prog.funcNamed "wicket/wicketlaw2.UtfClass" = some f) (hfn : Tryd.pinned.checked.prog.funcs[f]? = some fn) :
    true = Tryd.pinned.checked.prog.looks [] ∧ ∀ (j : Nat) t, fn.params[j]? = some t → Tryd.pinned.checked.prog.wantsStandIn t = false := by
  obtain rfl : f = 3 := Option.some.inj ((show Tryd.prog.funcNamed "wicket/wicketlaw2.UtfClass" = some 3 by kernel_rfl).symm.trans hf) |>.symm
  obtain rfl : fn = Tryd.f3 := (Option.some.inj (Tryd.func3.symm.trans hfn)).symm
  refine ⟨by kernel_rfl, fun j t ht => ?_⟩
  rw [Tryd.params3] at ht
  simp at ht
theorem class_card : Rows.UtfClassCardSaid :=
  Claim7.holds_tied_plain_at .later [] _ _ _ _ class_row (fun _ h => by cases h) (by kernel_rfl) (fun _ h => by cases h) utfClass_row_tie rfl ⟨rfl, rfl⟩ (by kernel_rfl) rfl class_plain (by kernel_rfl)
#print axioms class_card
end Go.Proofs.YtjnpfpaigedpbaaDoor
