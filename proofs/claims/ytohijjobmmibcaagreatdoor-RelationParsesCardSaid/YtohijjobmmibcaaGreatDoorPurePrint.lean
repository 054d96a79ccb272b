import Derived.Test.YtohijjobmmibcaaGreatDoorPureVer3
import Derived.Test.YtohijjobmmibcaaGreatDoorPAx4
namespace Go.Proofs.YtohijjobmmibcaaGreatDoor.Pure
open Go.RowKit Go.Proofs.YtohijjobmmibcaaGreatDoor.PA Go.Proofs.YtohijjobmmibcaaGreatDoorW.PrintWords Go.Proofs.YtohijjobmmibcaaGreatDoorW.PrintLast Go.Proofs.YtohijjobmmibcaaGreatDoorW.PrintMore
def printV (e : Int) (u r : Bs) : Bs := if rightV e u r = true then textV e u r else []
theorem rightV_rng {e : Int} {u r : Bs} (h : rightV e u r = true) : 0 ≤ e ∧ e ≤ 999999999 := by
  unfold rightV at h
  simp only [Bool.and_eq_true, decide_eq_true_eq] at h
  exact ⟨h.1.1.1.1.1.1.1, h.1.1.1.1.1.1.2⟩
theorem Print_f (e : Int) (u r : Bs) (hu : u.length < 2000000000000000000) (hr : r.length < 2000000000000000000) : Ev (fun k => version_Print.f k e (mk u) (mk r)) (mk (printV e u r)) := by
  simp only [version_Print.f]
  unfold printV
  refine Ev.bind (Right_f e u r hu hr) ?_
  cases h : rightV e u r
  · exact Ev.neg (by simp) (Ev.eq_ rfl)
  · have := rightV_rng h
    exact Ev.pos rfl (Ev.bindc (text_f e u r (by omega) (by omega) hu hr) (Ev.eq_ rfl))
end Go.Proofs.YtohijjobmmibcaaGreatDoor.Pure
