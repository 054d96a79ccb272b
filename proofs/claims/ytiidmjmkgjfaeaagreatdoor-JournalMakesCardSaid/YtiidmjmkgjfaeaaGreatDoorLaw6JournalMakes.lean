import Derived.Test.YtiidmjmkgjfaeaaGreatDoorCards
import Derived.SevenTiedAt
namespace Go.Proofs.YtiidmjmkgjfaeaaGreatDoor.journalMakes
open Go
theorem wf : Rows.journalMakesRow.wfByText (OpenSpec.ofChange Rows.journalMakesSpec) = true := by kernel_rfl
end Go.Proofs.YtiidmjmkgjfaeaaGreatDoor.journalMakes

namespace Go.Proofs.YtiidmjmkgjfaeaaGreatDoor.journalMakes
open Go
theorem looksAt : true = Tryz.pinned.checked.prog.looks [] := by kernel_rfl
theorem goes : false = Rows.journalMakesRow.goesBy Tryz.pinned.checked.prog := by kernel_rfl
theorem mainAt : Tryz.pinned.checked.prog.mainIs = some (true, "671b7b9477730ccd58d9a4015196bf24b6731c0f67c6f995195b554f7c97ca11".toList) := by kernel_rfl
end Go.Proofs.YtiidmjmkgjfaeaaGreatDoor.journalMakes

