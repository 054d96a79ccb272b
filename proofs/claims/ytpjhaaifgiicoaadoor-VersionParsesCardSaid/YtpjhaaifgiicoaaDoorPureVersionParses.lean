import Derived.Test.YtpjhaaifgiicoaaDoorPureRef4
import Derived.Test.YtpjhaaifgiicoaaDoorPureVersionOrders
import Derived.Test.YtpjhaaifgiicoaaDoorPAx11
import Derived.Test.YtpjhaaifgiicoaaDoorPAx10
namespace Go.Proofs.YtpjhaaifgiicoaaDoor.Pure
open Go.RowKit Go.Proofs.YtpjhaaifgiicoaaDoor.PA Go.Proofs.YtpjhaaifgiicoaaDoorW.PrintWords Go.Proofs.YtpjhaaifgiicoaaDoorW.PrintLast Go.Proofs.YtpjhaaifgiicoaaDoorW.PrintMore
def printV (e : Int) (u r : Bs) : Bs := if rightV e u r = true then textV e u r else []
theorem Print_f (e : Int) (u r : Bs) (hu : u.length < 2000000000000000000) (hr : r.length < 2000000000000000000) : Ev (fun k => version_Print.f k e (mk u) (mk r)) (mk (printV e u r)) := by
  simp only [version_Print.f]
  unfold printV
  refine Ev.bind (Right_f e u r hu hr) ?_
  cases h : rightV e u r
  · exact Ev.neg (by simp) (Ev.eq_ rfl)
  · have := rightV_e h
    exact Ev.pos rfl (Ev.bindc (text_f e u r (by omega) (by omega) hu hr) (Ev.eq_ rfl))
theorem Print_r (e : Int) (u r : Bs) (hu : u.length < 2000000000000000000) (hr : r.length < 2000000000000000000) : Ev (fun k => keelsonref2_Print.f k e (mk u) (mk r)) (mk (printV e u r)) := by
  simp only [keelsonref2_Print.f]
  unfold printV
  refine Ev.bind (Right_r e u r hu hr) ?_
  cases h : rightV e u r
  · exact Ev.neg (by simp) (Ev.eq_ rfl)
  · have := rightV_e h
    exact Ev.pos rfl (Ev.bind (text_r e u r (by omega) (by omega) hu hr) (Ev.eq_ rfl))
theorem VersionParses (a0 : ByteArray) (e : Int) (a1 a2 : ByteArray) {P Q R S : Prop} (_ : P) (_ : Q) (_ : R) (_ : S) : ∃ k, keelsonlaw2_VersionParses.f k a0 e a1 a2 = some true := by
  obtain ⟨s, rfl, -⟩ := mk_ex a0
  obtain ⟨u, rfl, -⟩ := mk_ex a1
  obtain ⟨r, rfl, -⟩ := mk_ex a2
  have main : Ev (fun k => keelsonlaw2_VersionParses.f k (mk s) e (mk u) (mk r)) true := by
    have j0 : ∀ c : Bool, (c = false → s.length ≤ 500 ∧ u.length ≤ 500 ∧ r.length ≤ 500) → Ev (fun k => keelsonlaw2_VersionParses.j0 k (mk s) true c e (mk u) (mk r)) true := by
      intro c hc
      refine Ev.shift ?_
      simp only [keelsonlaw2_VersionParses.j0]
      cases c
      · obtain ⟨hs, hu, hr⟩ := hc rfl
        refine Ev.neg (by simp) (Ev.bind (Parse_f s) (Ev.bind (Parse_r s) ?_))
        refine Ev.pos (by simp) (Ev.pos rfl (Ev.bind (Right_f e u r (by omega) (by omega)) (Ev.bind (Right_r e u r (by omega) (by omega)) (Ev.pos (by simp) (Ev.bind (Print_f e u r (by omega) (by omega)) (Ev.bind (Print_r e u r (by omega) (by omega)) (Ev.eq_ (by simp))))))))
      · exact Ev.pos rfl (Ev.eq_ rfl)
    simp only [keelsonlaw2_VersionParses.f, mk_size]
    refine Ev.bind shown_ev (Ev.pos rfl ?_)
    by_cases h1 : (s.length : Int) > 500
    · exact Ev.pos h1 (j0 true (fun h => by cases h))
    · refine Ev.neg h1 ?_
      by_cases h2 : (u.length : Int) > 500
      · exact Ev.pos h2 (j0 true (fun h => by cases h))
      · refine Ev.neg h2 (j0 _ fun h => ?_)
        have := of_decide_eq_false h
        omega
  exact main.rounds
end Go.Proofs.YtpjhaaifgiicoaaDoor.Pure
