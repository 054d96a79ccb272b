import Derived.Test.YtjbbgekkombpnaaGreatDoorPureRelParse
import Derived.Test.YtjbbgekkombpnaaGreatDoorPureRef4
import Derived.Test.YtjbbgekkombpnaaGreatDoorPAx15
import Derived.Test.YtjbbgekkombpnaaGreatDoorPAx0
import Derived.Test.YtjbbgekkombpnaaGreatDoorPAx12
import Derived.Test.YtjbbgekkombpnaaGreatDoorPAx19
namespace Go.Proofs.YtjbbgekkombpnaaGreatDoor.Pure
open Go.RowKit Go.Proofs.YtjbbgekkombpnaaGreatDoor.PA Go.Proofs.YtjbbgekkombpnaaGreatDoorW.PrintWords Go.Proofs.YtjbbgekkombpnaaGreatDoorW.PrintLast Go.Proofs.YtjbbgekkombpnaaGreatDoorW.PrintMore
theorem Print_r (e : Int) (u r : Bs) (hu : u.length < 2000000000000000000) (hr : r.length < 2000000000000000000) : Ev (fun k => keelsonref2_Print.f k e (mk u) (mk r)) (mk (printV e u r)) := by
  simp only [keelsonref2_Print.f]
  unfold printV
  refine Ev.bind (Right_r e u r hu hr) ?_
  cases h : rightV e u r
  · exact Ev.neg (by simp) (Ev.eq_ rfl)
  · have := rightV_e h
    exact Ev.pos (by trivial) (Ev.bind (text_r e u r (by omega) (by omega) hu hr) (Ev.eq_ rfl))
theorem plain_r (s : Bs) : Ev (fun k => keelsonref3_plain.f k (mk s)) (plainV s) := by
  simp only [keelsonref3_plain.f]
  have hl := parseV_len s
  refine Ev.bind (Parse_r s) ?_
  unfold plainV okV toB
  by_cases h : (parseV s).2.2.2 = 0
  · rw [decide_eq_true h, Bool.true_and]
    refine Ev.pos h (Ev.bind (Print_r _ _ _ (by omega) (by omega)) (Ev.eq_ ?_))
    rw [mk_toList, mk_toList, Bool.eq_iff_iff]; simp
  · rw [decide_eq_false h, Bool.false_and]
    exact Ev.neg h (Ev.some_ _)
theorem Right_Ar (n : Bs) (op : Int) (v : Bs) (hn : n.length < 4611686018427387904) : Ev (fun k => keelsonref3_Right.f k (mk n) op (mk v)) (rightA n op v) := by
  have bad : ∀ a b c, Ev (fun k => keelsonref3_Right.j0 k true a b c) false := fun a b c => by
    refine Ev.shift ?_
    simp only [keelsonref3_Right.j0]
    exact Ev.pos trivial (Ev.some_ _)
  simp only [keelsonref3_Right.f]
  unfold rightA
  refine Ev.bind (Name_r n hn) ?_
  cases h : nameV n
  · exact Ev.neg (by simp) (by simpa using bad _ _ _)
  · refine Ev.pos rfl ?_
    rw [Bool.true_and]
    by_cases h0 : op < 0
    · rw [decide_eq_false (show ¬ 0 ≤ op by omega), Bool.false_and, Bool.false_and]
      exact Ev.pos h0 (bad _ _ _)
    · rw [decide_eq_true (show 0 ≤ op by omega), Bool.true_and]
      refine Ev.neg h0 ?_
      by_cases h5 : op > 5
      · rw [decide_eq_true h5, decide_eq_false (show ¬ op ≤ 5 by omega), Bool.false_and]
        exact bad _ _ _
      · rw [decide_eq_false h5, decide_eq_true (show op ≤ 5 by omega), Bool.true_and]
        refine Ev.shift ?_
        simp only [keelsonref3_Right.j0]
        refine Ev.neg (by simp) ?_
        by_cases hz : op = 0
        · rw [if_pos hz]
          exact Ev.pos hz (Ev.eq_ (by rw [mk_toList, Bool.eq_iff_iff]; simp))
        · rw [if_neg hz]
          exact Ev.neg hz (Ev.bind (plain_r v) (Ev.some_ _))
end Go.Proofs.YtjbbgekkombpnaaGreatDoor.Pure
