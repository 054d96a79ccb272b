import Derived.Test.YtooomjcdlfdnmaaGreatDoorCards
import Derived.SevenTiedAt
namespace Go.Proofs.YtooomjcdlfdnmaaGreatDoor.entryGives
open Go
theorem wf : Rows.entryGivesRow.wfByText (OpenSpec.ofChange Rows.entryGivesSpec) = true := by kernel_rfl
end Go.Proofs.YtooomjcdlfdnmaaGreatDoor.entryGives

namespace Go.Proofs.YtooomjcdlfdnmaaGreatDoor.entryGives
open Go
theorem looksAt : true = Tryz.pinned.checked.prog.looks [] := by kernel_rfl
theorem goes : false = Rows.entryGivesRow.goesBy Tryz.pinned.checked.prog := by kernel_rfl
theorem mainAt : Tryz.pinned.checked.prog.mainIs = some (true, "aa5aea048f65e65345174dc0fcb8c85e5127c196f6322f892dc02ce8ac990515".toList) := by kernel_rfl
end Go.Proofs.YtooomjcdlfdnmaaGreatDoor.entryGives

