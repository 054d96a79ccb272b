import Derived.Test.YtohijjobmmibcaaGreatDoorPureRelRef
import Derived.Test.YtohijjobmmibcaaGreatDoorPAx15
namespace Go.Proofs.YtohijjobmmibcaaGreatDoor.Pure
open Go.RowKit Go.Proofs.YtohijjobmmibcaaGreatDoor.PA Go.Proofs.YtohijjobmmibcaaGreatDoorW.PrintWords Go.Proofs.YtohijjobmmibcaaGreatDoorW.PrintLast Go.Proofs.YtohijjobmmibcaaGreatDoorW.PrintMore
theorem RelationParses (a0 b : ByteArray) (op : Int) (c : ByteArray) {P Q R S : Prop} (_ : P) (_ : Q) (_ : R) (_ : S) : ∃ k, keelsonlaw3_RelationParses.f k a0 b op c = some true := by
  obtain ⟨s, rfl, -⟩ := mk_ex a0
  obtain ⟨n, rfl, -⟩ := mk_ex b
  obtain ⟨v, rfl, -⟩ := mk_ex c
  have j0 : ∀ c : Bool, (c = false → s.length ≤ 500 ∧ n.length ≤ 300 ∧ v.length ≤ 300) → Ev (fun k => keelsonlaw3_RelationParses.j0 k (mk s) true c (mk n) op (mk v)) true := by
    intro c hc
    refine Ev.shift ?_
    simp only [keelsonlaw3_RelationParses.j0]
    cases c
    · obtain ⟨h1, h2, h3⟩ := hc rfl
      refine Ev.neg (by simp) (Ev.bind (Parse_A s (by omega)) (Ev.bind (Parse_Ar s (by omega)) (Ev.pos (by simp) (Ev.pos (by trivial) (Ev.bind (Right_A n op v (by omega)) (Ev.bind (Right_Ar n op v (by omega)) (Ev.pos (by simp) (Ev.bind (Print_A n op v (by omega) (by omega)) (Ev.bind (Print_Ar n op v (by omega) (by omega)) (Ev.eq_ (by simp)))))))))))
    · exact Ev.pos (by trivial) (Ev.eq_ rfl)
  have main : Ev (fun k => keelsonlaw3_RelationParses.f k (mk s) (mk n) op (mk v)) true := by
    simp only [keelsonlaw3_RelationParses.f, keelsonlaw3_small.f, mk_size]
    refine Ev.bind shown3_ev ?_
    by_cases h1 : (n.length : Int) ≤ 300
    · simp only [if_pos h1]
      refine Ev.bindc rfl (Ev.pos (by trivial) ?_)
      by_cases h2 : (v.length : Int) ≤ 300
      · rw [decide_eq_true h2]
        refine Ev.pos (by trivial) (j0 _ (fun h => ?_))
        have := of_decide_eq_false h
        omega
      · rw [decide_eq_false h2]
        exact Ev.neg (by simp) (j0 true (fun h => by cases h))
    · simp only [if_neg h1]
      exact Ev.bindc rfl (Ev.pos (by trivial) (Ev.neg (by simp) (j0 true (fun h => by cases h))))
  exact main.rounds
end Go.Proofs.YtohijjobmmibcaaGreatDoor.Pure
