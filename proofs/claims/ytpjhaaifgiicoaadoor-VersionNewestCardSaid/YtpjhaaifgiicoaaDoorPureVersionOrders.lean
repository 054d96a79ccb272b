import Derived.Test.YtpjhaaifgiicoaaDoorPureVer3
import Derived.Test.YtpjhaaifgiicoaaDoorPAx13
namespace Go.Proofs.YtpjhaaifgiicoaaDoor.Pure
open Go.RowKit Go.Proofs.YtpjhaaifgiicoaaDoor.PA Go.Proofs.YtpjhaaifgiicoaaDoorW.PrintWords Go.Proofs.YtpjhaaifgiicoaaDoorW.PrintLast Go.Proofs.YtpjhaaifgiicoaaDoorW.PrintMore
theorem shown_true : keelsonlaw2_shown.f 300 = some true := by decide +kernel
theorem shown_ev : Ev (fun k => keelsonlaw2_shown.f k) true := Ev.of (fun k => keelsonlaw2_shown.mono k) shown_true
theorem cmpT_range (a b : Bs) : cmpT a b = -1 ∨ cmpT a b = 0 ∨ cmpT a b = 1 := lex_range _ _
end Go.Proofs.YtpjhaaifgiicoaaDoor.Pure
