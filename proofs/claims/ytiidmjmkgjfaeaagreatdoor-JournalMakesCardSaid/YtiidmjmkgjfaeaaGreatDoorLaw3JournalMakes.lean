import Derived.Test.YtiidmjmkgjfaeaaGreatDoorRows
import Derived.JoinedOf
namespace Go.Proofs.YtiidmjmkgjfaeaaGreatDoor.journalMakes
open Go
theorem closed : joinedFacts Tryz.pinned.checked.prog 5 Tryz.f5 Rows.journalMakesSpec Rows.journalMakesRow = true := by kernel_rfl
end Go.Proofs.YtiidmjmkgjfaeaaGreatDoor.journalMakes
