import Derived.Test.YtiidmjmkgjfaeaaGreatDoorRows
import Derived.JoinedOf
namespace Go.Proofs.YtiidmjmkgjfaeaaGreatDoor.journalOrders
open Go
theorem closed : joinedFacts Tryz.pinned.checked.prog 4 Tryz.f4 Rows.journalOrdersSpec Rows.journalOrdersRow = true := by kernel_rfl
end Go.Proofs.YtiidmjmkgjfaeaaGreatDoor.journalOrders
