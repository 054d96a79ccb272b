import Derived.Test.YtooomjcdlfdnmaaGreatDoorCards
import Derived.SevenTiedAt
namespace Go.Proofs.YtooomjcdlfdnmaaGreatDoor.entryLess
open Go
theorem wf : Rows.entryLessRow.wfByText (OpenSpec.ofChange Rows.entryLessSpec) = true := by kernel_rfl
end Go.Proofs.YtooomjcdlfdnmaaGreatDoor.entryLess

namespace Go.Proofs.YtooomjcdlfdnmaaGreatDoor.entryLess
open Go
theorem looksAt : true = Tryz.pinned.checked.prog.looks [] := by kernel_rfl
theorem goes : false = Rows.entryLessRow.goesBy Tryz.pinned.checked.prog := by kernel_rfl
theorem mainAt : Tryz.pinned.checked.prog.mainIs = some (true, "aa5aea048f65e65345174dc0fcb8c85e5127c196f6322f892dc02ce8ac990515".toList) := by kernel_rfl
end Go.Proofs.YtooomjcdlfdnmaaGreatDoor.entryLess

