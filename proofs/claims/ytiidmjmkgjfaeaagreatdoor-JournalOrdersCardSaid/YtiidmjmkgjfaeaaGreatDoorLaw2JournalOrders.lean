import Derived.Test.YtiidmjmkgjfaeaaGreatDoorRows
import Derived.JoinedOf
import Derived.Test.YtiidmjmkgjfaeaaGreatDoorLaw1JournalOrders
import Derived.Test.YtiidmjmkgjfaeaaGreatDoorLaw3JournalOrders
namespace Go.Proofs.YtiidmjmkgjfaeaaGreatDoor.journalOrders
open Go
theorem wrap : Tryz.f4.isWrapper Tryz.pinned.checked.prog Rows.journalOrdersRow.wrapper Rows.journalOrdersRow.mainSum := (by unfold Func.isWrapper;first | (rw [if_pos (by decide +kernel)];kernel_rfl) | (rw [if_neg (by decide +kernel)];exact ⟨rfl,rfl⟩))
theorem named : Tryz.pinned.checked.prog.funcNamed Rows.journalOrdersRow.func = some 4 := by kernel_rfl
end Go.Proofs.YtiidmjmkgjfaeaaGreatDoor.journalOrders

namespace Go.Proofs.YtiidmjmkgjfaeaaGreatDoor.journalOrders
open Go.ChangeShapes Go.WideShapes Go.ChangeAt Go.RowKit
open Go.ChangeMaps (open_string shut_string)
theorem over : Rows.journalOrdersRow.holds Tryz.pinned (OpenSpec.ofChange Rows.journalOrdersSpec) :=
  OpenClaim.holds_of_wide 4 Tryz.f4 rfl rfl rfl rfl rfl rfl rfl ⟨rfl,rfl,rfl,rfl,rfl⟩ rfl rfl rfl rfl rfl named Tryz.func4 closed (of_decide_eq_true (by kernel_rfl)) wrap
    (fun os started H enc _ => lifted os started H enc)
end Go.Proofs.YtiidmjmkgjfaeaaGreatDoor.journalOrders

