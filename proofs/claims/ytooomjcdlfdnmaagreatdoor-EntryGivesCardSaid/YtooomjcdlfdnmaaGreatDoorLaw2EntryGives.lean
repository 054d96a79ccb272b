import Derived.Test.YtooomjcdlfdnmaaGreatDoorRows
import Derived.JoinedOf
import Derived.Test.YtooomjcdlfdnmaaGreatDoorLaw1EntryGives
import Derived.Test.YtooomjcdlfdnmaaGreatDoorLaw3EntryGives
namespace Go.Proofs.YtooomjcdlfdnmaaGreatDoor.entryGives
open Go
theorem wrap : Tryz.f3.isWrapper Tryz.pinned.checked.prog Rows.entryGivesRow.wrapper Rows.entryGivesRow.mainSum := (by unfold Func.isWrapper; first | (rw [if_pos (by decide +kernel)]; kernel_rfl) | (rw [if_neg (by decide +kernel)]; exact ⟨rfl, rfl⟩))
theorem named : Tryz.pinned.checked.prog.funcNamed Rows.entryGivesRow.func = some 3 := by kernel_rfl
end Go.Proofs.YtooomjcdlfdnmaaGreatDoor.entryGives

namespace Go.Proofs.YtooomjcdlfdnmaaGreatDoor.entryGives
open Go.ChangeShapes Go.WideShapes Go.ChangeAt Go.RowKit
open Go.ChangeMaps (open_string shut_string)
theorem over : Rows.entryGivesRow.holds Tryz.pinned (OpenSpec.ofChange Rows.entryGivesSpec) :=
  OpenClaim.holds_of_wide 3 Tryz.f3 rfl rfl rfl rfl rfl rfl rfl ⟨rfl, rfl, rfl, rfl, rfl⟩ rfl rfl rfl rfl rfl named Tryz.func3 closed (of_decide_eq_true (by kernel_rfl)) wrap
    (fun os started H enc _ => lifted os started H enc)
end Go.Proofs.YtooomjcdlfdnmaaGreatDoor.entryGives

