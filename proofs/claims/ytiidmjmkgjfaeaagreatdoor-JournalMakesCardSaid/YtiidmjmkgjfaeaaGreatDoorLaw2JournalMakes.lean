import Derived.Test.YtiidmjmkgjfaeaaGreatDoorRows
import Derived.JoinedOf
import Derived.Test.YtiidmjmkgjfaeaaGreatDoorLaw1JournalMakes
import Derived.Test.YtiidmjmkgjfaeaaGreatDoorLaw3JournalMakes
namespace Go.Proofs.YtiidmjmkgjfaeaaGreatDoor.journalMakes
open Go
theorem wrap : Tryz.f5.isWrapper Tryz.pinned.checked.prog Rows.journalMakesRow.wrapper Rows.journalMakesRow.mainSum := (by unfold Func.isWrapper;first | (rw [if_pos (by decide +kernel)];kernel_rfl) | (rw [if_neg (by decide +kernel)];exact ⟨rfl,rfl⟩))
theorem named : Tryz.pinned.checked.prog.funcNamed Rows.journalMakesRow.func = some 5 := by kernel_rfl
end Go.Proofs.YtiidmjmkgjfaeaaGreatDoor.journalMakes

namespace Go.Proofs.YtiidmjmkgjfaeaaGreatDoor.journalMakes
open Go.ChangeShapes Go.WideShapes Go.ChangeAt Go.RowKit
open Go.ChangeMaps (open_string shut_string)
theorem over : Rows.journalMakesRow.holds Tryz.pinned (OpenSpec.ofChange Rows.journalMakesSpec) :=
 OpenClaim.holds_of_wide 5 Tryz.f5 rfl rfl rfl rfl rfl rfl rfl ⟨rfl,rfl,rfl,rfl,rfl⟩ rfl rfl rfl rfl rfl named Tryz.func5 closed (of_decide_eq_true (by kernel_rfl)) wrap
  (fun os started H enc _ => lifted os started H enc)
end Go.Proofs.YtiidmjmkgjfaeaaGreatDoor.journalMakes

