import Derived.Test.YtjbbgekkombpnaaGreatDoorPureDepJoin
import Derived.Test.YtjbbgekkombpnaaGreatDoorPAx21
namespace Go.Proofs.YtjbbgekkombpnaaGreatDoor.Pure
open Go.RowKit Go.Proofs.YtjbbgekkombpnaaGreatDoor.PA Go.Proofs.YtjbbgekkombpnaaGreatDoorW.PrintWords Go.Proofs.YtjbbgekkombpnaaGreatDoorW.PrintLast Go.Proofs.YtjbbgekkombpnaaGreatDoorW.PrintMore
theorem DependsPrints (l : List (List S3)) (a : List S3) {P Q : Prop} (_ : P) (_ : Q) : ∃ k, keelsonlaw4_DependsPrints.f k l a = some true := by
  have j0 : ∀ c : Bool, (c = false → SmL l ∧ a.length ≤ 40 ∧ ∀ x ∈ a, smS x) → Ev (fun k => keelsonlaw4_DependsPrints.j0 k l a true c) true := by
    intro c hc
    refine Ev.shift ?_
    simp only [keelsonlaw4_DependsPrints.j0]
    cases c
    · obtain ⟨h1, h2, h3⟩ := hc rfl
      refine Ev.neg (by simp) ?_
      refine Ev.bind h1.right (Ev.bind h1.rightr (Ev.pos (by simp) (Ev.bind h1.print (Ev.bind h1.printr (Ev.pos rfl (Ev.bind (DJoin_f a h2 h3) (Ev.bind (RJoin_f a h2 h3) (Ev.eq_ ?_))))))))
      simp
    · exact Ev.pos rfl (Ev.some_ _)
  have main : Ev (fun k => keelsonlaw4_DependsPrints.f k l a) true := by
    simp only [keelsonlaw4_DependsPrints.f]
    refine Ev.bind shown4_ev (Ev.bind (small_g l) (Ev.bind (light_f a) (Ev.pos rfl ?_)))
    cases hs : smallV l with
    | false => exact Ev.neg (by simp) (j0 true (fun h => by cases h))
    | true =>
      refine Ev.pos rfl (j0 _ (fun h => ?_))
      have hl : lightV a = true := by simpa using h
      exact ⟨smallV_true hs, lightV_true hl⟩
  exact main.rounds
end Go.Proofs.YtjbbgekkombpnaaGreatDoor.Pure
