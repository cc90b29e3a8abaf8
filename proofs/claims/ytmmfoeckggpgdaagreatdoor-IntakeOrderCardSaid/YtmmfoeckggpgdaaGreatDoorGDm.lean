/-
  IntakeOrder: of events of which none is late in two orders, the same are taken, and the same people gone: the card.
-/
import Derived.Test.YtmmfoeckggpgdaaGreatDoorGCm
namespace Go.Proofs.YtmmfoeckggpgdaaGreatDoor.intakeOrder
open Go.ChangeShapes Go.WideShapes Go.ChangeAt Go.RowKit Go.Proofs.YtmmfoeckggpgdaaGreatDoor Go.Proofs.YtmmfoeckggpgdaaGreatDoorW.PrintWords Go.Proofs.YtmmfoeckggpgdaaGreatDoor.PE

theorem plain (f : FuncId) (fn : Func) (hf : Tryz.pinned.checked.prog.funcNamed "cicerone/ciceronelaw08.IntakeOrder" = some f) (hfn : Tryz.pinned.checked.prog.funcs[f]? = some fn) :
    true = Tryz.pinned.checked.prog.looks [] ∧ ∀ (j : Nat) t, fn.params[j]? = some t → Tryz.pinned.checked.prog.wantsStandIn t = false := by
  obtain rfl : f = 3 := Option.some.inj ((show Tryz.prog.funcNamed "cicerone/ciceronelaw08.IntakeOrder" = some 3 by kernel_rfl).symm.trans hf) |>.symm
  obtain rfl : fn = Tryz.f3 := (Option.some.inj (Tryz.func3.symm.trans hfn)).symm
  refine ⟨by kernel_rfl, fun j t ht => ?_⟩
  rw [Tryz.params3] at ht
  have : t = 3 ∨ t = 22 ∨ t = 3 ∨ t = 4 := by simpa using Array.mem_of_getElem? ht
  rcases this with rfl | rfl | rfl | rfl
  · exact (show Tryz.prog.wantsStandIn 3 = false by kernel_rfl)
  · exact (show Tryz.prog.wantsStandIn 22 = false by kernel_rfl)
  · exact (show Tryz.prog.wantsStandIn 3 = false by kernel_rfl)
  · exact (show Tryz.prog.wantsStandIn 4 = false by kernel_rfl)
/-- the card -/
theorem card : Rows.IntakeOrderCardSaid :=
  Claim7.holds_tied_plain_at .later [] _ _ _ _ said (fun _ h => by cases h) (by kernel_rfl) (fun _ h => by cases h) intakeOrder_row_tie rfl ⟨rfl, rfl⟩ (by kernel_rfl) rfl plain (by kernel_rfl)
end Go.Proofs.YtmmfoeckggpgdaaGreatDoor.intakeOrder
