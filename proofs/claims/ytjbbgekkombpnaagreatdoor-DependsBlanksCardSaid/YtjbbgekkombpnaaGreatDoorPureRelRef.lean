import Derived.Test.YtjbbgekkombpnaaGreatDoorPureRelParse
import Derived.Test.YtjbbgekkombpnaaGreatDoorPureRef4
import Derived.Test.YtjbbgekkombpnaaGreatDoorPAx15
import Derived.Test.YtjbbgekkombpnaaGreatDoorPAx16
import Derived.Test.YtjbbgekkombpnaaGreatDoorPAx20
namespace Go.Proofs.YtjbbgekkombpnaaGreatDoor.Pure
open Go.RowKit Go.Proofs.YtjbbgekkombpnaaGreatDoor.PA Go.Proofs.YtjbbgekkombpnaaGreatDoorW.PrintWords Go.Proofs.YtjbbgekkombpnaaGreatDoorW.PrintLast Go.Proofs.YtjbbgekkombpnaaGreatDoorW.PrintMore
theorem Print_r (e : Int) (u r : Bs) (hu : u.length < 2000000000000000000) (hr : r.length < 2000000000000000000) : Ev (fun k => keelsonref2_Print.f k e (mk u) (mk r)) (mk (printV e u r)) := by
  simp only [keelsonref2_Print.f]
  unfold printV
  refine Ev.bind (Right_r e u r hu hr) ?_
  cases h : rightV e u r
  · exact Ev.neg (by simp) (Ev.eq_ rfl)
  · have := rightV_e h
    exact Ev.pos (by trivial) (Ev.bind (text_r e u r (by omega) (by omega) hu hr) (Ev.eq_ rfl))
theorem plain_r (s : Bs) : Ev (fun k => keelsonref3_plain.f k (mk s)) (plainV s) := by
  simp only [keelsonref3_plain.f]
  have hl := parseV_len s
  refine Ev.bind (Parse_r s) ?_
  unfold plainV okV toB
  by_cases h : (parseV s).2.2.2 = 0
  · rw [decide_eq_true h, Bool.true_and]
    refine Ev.pos h (Ev.bind (Print_r _ _ _ (by omega) (by omega)) (Ev.eq_ ?_))
    rw [mk_toList, mk_toList, Bool.eq_iff_iff]; simp
  · rw [decide_eq_false h, Bool.false_and]
    exact Ev.neg h (Ev.some_ _)
theorem Right_Ar (n : Bs) (op : Int) (v : Bs) (hn : n.length < 4611686018427387904) : Ev (fun k => keelsonref3_Right.f k (mk n) op (mk v)) (rightA n op v) := by
  have bad : ∀ a b c, Ev (fun k => keelsonref3_Right.j0 k true a b c) false := fun a b c => by
    refine Ev.shift ?_
    simp only [keelsonref3_Right.j0]
    exact Ev.pos trivial (Ev.some_ _)
  simp only [keelsonref3_Right.f]
  unfold rightA
  refine Ev.bind (Name_r n hn) ?_
  cases h : nameV n
  · exact Ev.neg (by simp) (by simpa using bad _ _ _)
  · refine Ev.pos rfl ?_
    rw [Bool.true_and]
    by_cases h0 : op < 0
    · rw [decide_eq_false (show ¬ 0 ≤ op by omega), Bool.false_and, Bool.false_and]
      exact Ev.pos h0 (bad _ _ _)
    · rw [decide_eq_true (show 0 ≤ op by omega), Bool.true_and]
      refine Ev.neg h0 ?_
      by_cases h5 : op > 5
      · rw [decide_eq_true h5, decide_eq_false (show ¬ op ≤ 5 by omega), Bool.false_and]
        exact bad _ _ _
      · rw [decide_eq_false h5, decide_eq_true (show op ≤ 5 by omega), Bool.true_and]
        refine Ev.shift ?_
        simp only [keelsonref3_Right.j0]
        refine Ev.neg (by simp) ?_
        by_cases hz : op = 0
        · rw [if_pos hz]
          exact Ev.pos hz (Ev.eq_ (by rw [mk_toList, Bool.eq_iff_iff]; simp))
        · rw [if_neg hz]
          exact Ev.neg hz (Ev.bind (plain_r v) (Ev.some_ _))
theorem Print_Ar (n : Bs) (op : Int) (v : Bs) (hn : n.length < 2000000000000000000) (hv : v.length < 2000000000000000000) : Ev (fun k => keelsonref3_Print.f k (mk n) op (mk v)) (mk (printA n op v)) := by
  simp only [keelsonref3_Print.f]
  unfold printA
  refine Ev.bind (Right_Ar n op v (by omega)) ?_
  cases h : rightA n op v
  · exact Ev.neg (by simp) (Ev.eq_ rfl)
  · refine Ev.pos rfl ?_
    rw [if_pos rfl]
    have hs := sgn_len op
    by_cases h0 : op = 0
    · have e : textA n op v = n := by unfold textA; rw [if_pos h0]
      rw [e]; exact Ev.pos h0 (Ev.some_ _)
    · have e : textA n op v = n ++ [32, 40] ++ sgn op ++ [32] ++ v ++ [41] := by unfold textA; rw [if_neg h0]
      rw [e]
      have l1 : (⟨#[32, 40]⟩ : ByteArray) = mk [32, 40] := rfl
      have l2 : (⟨#[32]⟩ : ByteArray) = mk [32] := rfl
      have l3 : (⟨#[41]⟩ : ByteArray) = mk [41] := rfl
      refine Ev.neg h0 (Ev.pos (by rw [mk_size]; omega) (Ev.bindc (show keelsonref3_Sign.f op = some (mk (sgn op)) by rw [Sign_r, sgn_mk]) ?_))
      simp only [l1, l2, l3, mk_app, mk_size, List.length_append, List.length_cons, List.length_nil]
      exact Ev.pos (by omega) (Ev.pos (by omega) (Ev.pos (by omega) (Ev.pos (by omega) (Ev.eq_ rfl))))
end Go.Proofs.YtjbbgekkombpnaaGreatDoor.Pure
