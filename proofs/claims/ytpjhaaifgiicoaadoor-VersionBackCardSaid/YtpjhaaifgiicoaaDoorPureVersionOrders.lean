import Derived.Test.YtpjhaaifgiicoaaDoorPureVer3
import Derived.Test.YtpjhaaifgiicoaaDoorPAx0
import Derived.Test.YtpjhaaifgiicoaaDoorPAx3
import Derived.Test.YtpjhaaifgiicoaaDoorPAx5
import Derived.Test.YtpjhaaifgiicoaaDoorPAx6
import Derived.Test.YtpjhaaifgiicoaaDoorPAx12
namespace Go.Proofs.YtpjhaaifgiicoaaDoor.Pure
open Go.RowKit Go.Proofs.YtpjhaaifgiicoaaDoor.PA Go.Proofs.YtpjhaaifgiicoaaDoorW.PrintWords Go.Proofs.YtpjhaaifgiicoaaDoorW.PrintLast Go.Proofs.YtpjhaaifgiicoaaDoorW.PrintMore
theorem shown_true : keelsonlaw2_shown.f 300 = some true := by decide +kernel
theorem shown_ev : Ev (fun k => keelsonlaw2_shown.f k) true := Ev.of (fun k => keelsonlaw2_shown.mono k) shown_true
end Go.Proofs.YtpjhaaifgiicoaaDoor.Pure
