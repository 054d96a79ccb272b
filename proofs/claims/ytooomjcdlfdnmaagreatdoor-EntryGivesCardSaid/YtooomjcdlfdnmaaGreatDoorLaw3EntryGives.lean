import Derived.Test.YtooomjcdlfdnmaaGreatDoorRows
import Derived.JoinedOf
namespace Go.Proofs.YtooomjcdlfdnmaaGreatDoor.entryGives
open Go
theorem closed : joinedFacts Tryz.pinned.checked.prog 3 Tryz.f3 Rows.entryGivesSpec Rows.entryGivesRow = true := by kernel_rfl
end Go.Proofs.YtooomjcdlfdnmaaGreatDoor.entryGives
