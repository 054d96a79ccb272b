import Derived.Test.YtohijjobmmibcaaGreatDoorPureVer3
import Derived.Test.YtohijjobmmibcaaGreatDoorPAx7
import Derived.Test.YtohijjobmmibcaaGreatDoorPAx8
namespace Go.Proofs.YtohijjobmmibcaaGreatDoor.Pure
open Go.RowKit Go.Proofs.YtohijjobmmibcaaGreatDoor.PA Go.Proofs.YtohijjobmmibcaaGreatDoorW.PrintWords Go.Proofs.YtohijjobmmibcaaGreatDoorW.PrintLast Go.Proofs.YtohijjobmmibcaaGreatDoorW.PrintMore
theorem shown3_true : keelsonlaw3_shown.f 300 = some true := by decide +kernel
theorem shown3_ev : Ev (fun k => keelsonlaw3_shown.f k) true := Ev.of (fun k => keelsonlaw3_shown.mono k) shown3_true
def okV (s : Bs) : Bool := decide ((parseV s).2.2.2 = 0)
end Go.Proofs.YtohijjobmmibcaaGreatDoor.Pure
