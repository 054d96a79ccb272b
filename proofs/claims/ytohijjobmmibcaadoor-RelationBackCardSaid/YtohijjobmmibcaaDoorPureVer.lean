import Derived.Test.YtohijjobmmibcaaDoorPureLex
import Derived.Test.YtohijjobmmibcaaDoorPAx5
namespace Go.Proofs.YtohijjobmmibcaaDoor.Pure
open Go.RowKit Go.Proofs.YtohijjobmmibcaaDoor.PA Go.Proofs.YtohijjobmmibcaaDoorW.PrintWords Go.Proofs.YtohijjobmmibcaaDoorW.PrintLast Go.Proofs.YtohijjobmmibcaaDoorW.PrintMore
theorem digit_f (c : UInt8) : version_digit.f (c.toNat : Int) = some (dg c) := by
  unfold version_digit.f dg
  by_cases h : (c.toNat : Int) ≥ 48
  · rw [if_pos h]
    congr 1
    rw [decide_eq_decide]
    omega
  · rw [if_neg h]
    congr 1
    symm
    rw [decide_eq_false_iff_not]
    omega
theorem toByte (c : UInt8) : ((c.toNat : Int)).toNat.toUInt8 = c := by rw [Int.toNat_natCast]; exact UInt8.ofNat_toNat
end Go.Proofs.YtohijjobmmibcaaDoor.Pure
