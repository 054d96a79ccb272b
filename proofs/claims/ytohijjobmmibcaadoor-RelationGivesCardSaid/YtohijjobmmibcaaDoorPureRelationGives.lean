import Derived.Test.YtohijjobmmibcaaDoorPureRel
import Derived.Test.YtohijjobmmibcaaDoorPAx9
namespace Go.Proofs.YtohijjobmmibcaaDoor.Pure
open Go.RowKit Go.Proofs.YtohijjobmmibcaaDoor.PA Go.Proofs.YtohijjobmmibcaaDoorW.PrintWords Go.Proofs.YtohijjobmmibcaaDoorW.PrintLast Go.Proofs.YtohijjobmmibcaaDoorW.PrintMore
theorem small_f (n : Bs) (op : Int) (v : Bs) : keelsonlaw3_small.f (mk n) op (mk v) = some (decide (n.length ≤ 300) && decide (v.length ≤ 300)) := by
  unfold keelsonlaw3_small.f
  rw [mk_size, mk_size]
  by_cases h : n.length ≤ 300
  · rw [if_pos (by omega), decide_eq_true h, Bool.true_and]
    congr 1; rw [decide_eq_decide]; omega
  · rw [if_neg (by omega), decide_eq_false h]; rfl
theorem RelationGives (a0 : ByteArray) (op : Int) (a2 a3 a4 : ByteArray) {P Q R S T : Prop} (_ : P) (_ : Q) (_ : R) (_ : S) (_ : T) : ∃ k, keelsonlaw3_RelationGives.f k a0 op a2 a3 a4 = some true := by
  obtain ⟨n, rfl, -⟩ := mk_ex a0
  obtain ⟨v, rfl, -⟩ := mk_ex a2
  obtain ⟨m, rfl, -⟩ := mk_ex a3
  obtain ⟨w, rfl, -⟩ := mk_ex a4
  have lit : (⟨#[]⟩ : ByteArray) = mk [] := rfl
  have j0 : ∀ c : Bool, Ev (fun k => keelsonlaw3_RelationGives.j0 k (mk m) (mk w) true c (mk n) op (mk v)) true := by
    intro c
    refine Ev.shift ?_
    simp only [keelsonlaw3_RelationGives.j0, lit]
    cases c
    · refine Ev.neg (by simp) (Ev.bind (Meets_f n op v m w) (Ev.bind (Provides_f n op v m 3 w) (Ev.bind (Provides_f n op v m 0 []) (Ev.bind (Provides_f n op v m 4 w) ?_))))
      have h0 : holdsV 0 w v = true := rfl
      refine Ev.pos ?_ ?_
      · unfold meetsV givesV
        by_cases h : op = 0
        · subst h; rw [h0]; simp
        · rw [decide_eq_false h]; simp
      · simp only [mk_toList]
        unfold givesV
        by_cases h : n = m
        · refine Ev.pos h (Ev.pos ?_ (Ev.eq_ ?_))
          · rw [decide_eq_true h]; by_cases h2 : op = 0 <;> simp [h2]
          · simp
        · refine Ev.neg h (Ev.pos ?_ (Ev.eq_ ?_))
          · rw [decide_eq_false h]; simp
          · simp
    · exact Ev.pos rfl (Ev.eq_ rfl)
  have main : Ev (fun k => keelsonlaw3_RelationGives.f k (mk n) op (mk v) (mk m) (mk w)) true := by
    simp only [keelsonlaw3_RelationGives.f, mk_size]
    refine Ev.bind shown3_ev (Ev.bindc (small_f n op v) (Ev.pos rfl ?_))
    cases hs : (decide (n.length ≤ 300) && decide (v.length ≤ 300))
    · exact Ev.neg (by simp) (j0 true)
    · refine Ev.pos rfl ?_
      by_cases h1 : (m.length : Int) > 300
      · exact Ev.pos h1 (j0 true)
      · exact Ev.neg h1 (j0 _)
  exact main.rounds
end Go.Proofs.YtohijjobmmibcaaDoor.Pure
