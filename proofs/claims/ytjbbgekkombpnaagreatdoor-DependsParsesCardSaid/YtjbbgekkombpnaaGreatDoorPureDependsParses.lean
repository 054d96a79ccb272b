import Derived.Test.YtjbbgekkombpnaaGreatDoorPureDepShown
import Derived.Test.YtjbbgekkombpnaaGreatDoorPAx18
namespace Go.Proofs.YtjbbgekkombpnaaGreatDoor.Pure
open Go.RowKit Go.Proofs.YtjbbgekkombpnaaGreatDoor.PA Go.Proofs.YtjbbgekkombpnaaGreatDoorW.PrintWords Go.Proofs.YtjbbgekkombpnaaGreatDoorW.PrintLast Go.Proofs.YtjbbgekkombpnaaGreatDoorW.PrintMore
theorem DependsParses (a0 : ByteArray) {P : Prop} (_ : P) : ∃ k, keelsonlaw4_DependsParses.f k a0 = some true := by
  obtain ⟨s, rfl, -⟩ := mk_ex a0
  have j0 : ∀ c : Bool, (c = false → s.length ≤ 1000) → Ev (fun k => keelsonlaw4_DependsParses.j0 k (mk s) true c) true := by
    intro c hc
    refine Ev.shift ?_
    simp only [keelsonlaw4_DependsParses.j0]
    cases c
    · have hs := hc rfl
      have h1 := depV_len s
      have h2 := datV_len s
      have e1 := DParse_f s (by omega)
      have e2 := RParse_f s (by omega)
      have e3 := DAtoms_f s (by omega)
      have e4 := RAtoms_f s (by omega)
      have e5 := same_f (depV s).1 (by omega) (fun g hg => by have := depV_mem s g hg; omega)
      have e6 := sameAtoms_f (datV s).1 (by omega)
      refine Ev.neg (by simp) ?_
      refine Ev.bind e1 (Ev.bind e2 (Ev.bind e3 (Ev.bind e4 (Ev.bind e5 ?_))))
      refine Ev.pos rfl (Ev.pos rfl (Ev.bind e6 (Ev.pos rfl (Ev.eq_ ?_))))
      simp
    · exact Ev.pos rfl (Ev.some_ _)
  have main : Ev (fun k => keelsonlaw4_DependsParses.f k (mk s)) true := by
    simp only [keelsonlaw4_DependsParses.f, mk_size]
    refine Ev.bind shown4_ev (Ev.pos rfl (j0 _ (fun h => ?_)))
    have := of_decide_eq_false h
    omega
  exact main.rounds
end Go.Proofs.YtjbbgekkombpnaaGreatDoor.Pure
