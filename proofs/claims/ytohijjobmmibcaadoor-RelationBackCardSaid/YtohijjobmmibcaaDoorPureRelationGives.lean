import Derived.Test.YtohijjobmmibcaaDoorPureRel
import Derived.Test.YtohijjobmmibcaaDoorPAx9
namespace Go.Proofs.YtohijjobmmibcaaDoor.Pure
open Go.RowKit Go.Proofs.YtohijjobmmibcaaDoor.PA Go.Proofs.YtohijjobmmibcaaDoorW.PrintWords Go.Proofs.YtohijjobmmibcaaDoorW.PrintLast Go.Proofs.YtohijjobmmibcaaDoorW.PrintMore
theorem small_f (n : Bs) (op : Int) (v : Bs) : keelsonlaw3_small.f (mk n) op (mk v) = some (decide (n.length ≤ 300) && decide (v.length ≤ 300)) := by
  unfold keelsonlaw3_small.f
  rw [mk_size, mk_size]
  by_cases h : n.length ≤ 300
  · rw [if_pos (by omega), decide_eq_true h, Bool.true_and]
    congr 1; rw [decide_eq_decide]; omega
  · rw [if_neg (by omega), decide_eq_false h]; rfl
end Go.Proofs.YtohijjobmmibcaaDoor.Pure
