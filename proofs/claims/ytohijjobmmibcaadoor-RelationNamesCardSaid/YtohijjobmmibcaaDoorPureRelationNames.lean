import Derived.Test.YtohijjobmmibcaaDoorPureRelNames
import Derived.Test.YtohijjobmmibcaaDoorPAx10
namespace Go.Proofs.YtohijjobmmibcaaDoor.Pure
open Go.RowKit Go.Proofs.YtohijjobmmibcaaDoor.PA Go.Proofs.YtohijjobmmibcaaDoorW.PrintWords Go.Proofs.YtohijjobmmibcaaDoorW.PrintLast Go.Proofs.YtohijjobmmibcaaDoorW.PrintMore
theorem RelationNames (a0 a1 : ByteArray) (op : Int) {P Q R : Prop} (_ : P) (_ : Q) (_ : R) : ∃ k, keelsonlaw3_RelationNames.f k a0 a1 op = some true := by
  obtain ⟨s, rfl, -⟩ := mk_ex a0
  have j0 : ∀ c : Bool, (c = false → s.length ≤ 500) → Ev (fun k => keelsonlaw3_RelationNames.j0 k (mk s) a1 op true c) true := by
    intro c hc
    refine Ev.shift ?_
    simp only [keelsonlaw3_RelationNames.j0]
    cases c
    · have := hc rfl
      refine Ev.neg (by simp) (Ev.bindc rfl (Ev.bind (Op_r a1) (Ev.bind (Name_f s (by omega)) (Ev.bind (Name_r s (by omega)) (Ev.pos (by simp) (Ev.pos rfl (Ev.pos (by simp) (Ev.bindc rfl (Ev.bindc (Sign_r op) (Ev.eq_ (by simp)))))))))))
    · exact Ev.pos rfl (Ev.eq_ rfl)
  have main : Ev (fun k => keelsonlaw3_RelationNames.f k (mk s) a1 op) true := by
    simp only [keelsonlaw3_RelationNames.f, mk_size]
    refine Ev.bind shown3_ev (Ev.pos rfl ?_)
    by_cases h1 : (s.length : Int) > 500
    · exact Ev.pos h1 (j0 true (fun h => by cases h))
    · exact Ev.neg h1 (j0 _ (fun _ => by omega))
  exact main.rounds
end Go.Proofs.YtohijjobmmibcaaDoor.Pure
