import Derived.Test.YtpjhaaifgiicoaaDoorPureRef4
import Derived.Test.YtpjhaaifgiicoaaDoorPureVersionOrders
import Derived.Test.YtpjhaaifgiicoaaDoorPAx0
import Derived.Test.YtpjhaaifgiicoaaDoorPAx1
import Derived.Test.YtpjhaaifgiicoaaDoorPAx4
import Derived.Test.YtpjhaaifgiicoaaDoorPAx5
import Derived.Test.YtpjhaaifgiicoaaDoorPAx6
import Derived.Test.YtpjhaaifgiicoaaDoorPAx3
import Derived.Test.YtpjhaaifgiicoaaDoorPAx10
namespace Go.Proofs.YtpjhaaifgiicoaaDoor.Pure
open Go.RowKit Go.Proofs.YtpjhaaifgiicoaaDoor.PA Go.Proofs.YtpjhaaifgiicoaaDoorW.PrintWords Go.Proofs.YtpjhaaifgiicoaaDoorW.PrintLast Go.Proofs.YtpjhaaifgiicoaaDoorW.PrintMore
def printV (e : Int) (u r : Bs) : Bs := if rightV e u r = true then textV e u r else []
theorem Print_f (e : Int) (u r : Bs) (hu : u.length < 2000000000000000000) (hr : r.length < 2000000000000000000) : Ev (fun k => version_Print.f k e (mk u) (mk r)) (mk (printV e u r)) := by
  simp only [version_Print.f]
  unfold printV
  refine Ev.bind (Right_f e u r hu hr) ?_
  cases h : rightV e u r
  · exact Ev.neg (by simp) (Ev.eq_ rfl)
  · have := rightV_e h
    exact Ev.pos rfl (Ev.bindc (text_f e u r (by omega) (by omega) hu hr) (Ev.eq_ rfl))
end Go.Proofs.YtpjhaaifgiicoaaDoor.Pure
