import Derived.Test.YtooomjcdlfdnmaaGreatDoorRows
import Derived.JoinedOf
namespace Go.Proofs.YtooomjcdlfdnmaaGreatDoor.entryLess
open Go
theorem closed : joinedFacts Tryz.pinned.checked.prog 4 Tryz.f4 Rows.entryLessSpec Rows.entryLessRow = true := by kernel_rfl
end Go.Proofs.YtooomjcdlfdnmaaGreatDoor.entryLess
