import Derived.Test.YtohijjobmmibcaaDoorPureVer3
import Derived.Test.YtohijjobmmibcaaDoorPAx5
import Derived.Test.YtohijjobmmibcaaDoorPAx9
import Derived.Test.YtohijjobmmibcaaDoorPAx7
namespace Go.Proofs.YtohijjobmmibcaaDoor.Pure
open Go.RowKit Go.Proofs.YtohijjobmmibcaaDoor.PA Go.Proofs.YtohijjobmmibcaaDoorW.PrintWords Go.Proofs.YtohijjobmmibcaaDoorW.PrintLast Go.Proofs.YtohijjobmmibcaaDoorW.PrintMore
theorem shown3_true : keelsonlaw3_shown.f 300 = some true := by decide +kernel
theorem shown3_ev : Ev (fun k => keelsonlaw3_shown.f k) true := Ev.of (fun k => keelsonlaw3_shown.mono k) shown3_true
def okV (s : Bs) : Bool := decide ((parseV s).2.2.2 = 0)
end Go.Proofs.YtohijjobmmibcaaDoor.Pure
