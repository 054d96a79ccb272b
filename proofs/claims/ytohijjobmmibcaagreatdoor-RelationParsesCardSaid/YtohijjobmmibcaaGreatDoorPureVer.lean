import Derived.Test.YtohijjobmmibcaaGreatDoorPureLex
import Derived.Test.YtohijjobmmibcaaGreatDoorPAx6
namespace Go.Proofs.YtohijjobmmibcaaGreatDoor.Pure
open Go.RowKit Go.Proofs.YtohijjobmmibcaaGreatDoor.PA Go.Proofs.YtohijjobmmibcaaGreatDoorW.PrintWords Go.Proofs.YtohijjobmmibcaaGreatDoorW.PrintLast Go.Proofs.YtohijjobmmibcaaGreatDoorW.PrintMore
theorem digit_f (c : UInt8) : version_digit.f (c.toNat : Int) = some (dg c) := by
  unfold version_digit.f dg
  by_cases h : (c.toNat : Int) ≥ 48
  · rw [if_pos h]
    congr 1
    rw [decide_eq_decide]
    omega
  · rw [if_neg h]
    congr 1
    symm
    rw [decide_eq_false_iff_not]
    omega
theorem toByte (c : UInt8) : ((c.toNat : Int)).toNat.toUInt8 = c := by rw [Int.toNat_natCast]; exact UInt8.ofNat_toNat
theorem val_add : ∀ (l : Bs) (n : Nat), val n l = n * 10 ^ l.length + val 0 l
  | [], n => by show n = n * 10 ^ 0 + 0; rw [Nat.pow_zero, Nat.mul_one, Nat.add_zero]
  | c :: l, n => by
    rw [val_c, val_c, List.length_cons, Nat.pow_succ]
    rw [val_add l (10 * n + dv c), val_add l (10 * 0 + dv c)]
    rw [Nat.add_mul, Nat.mul_zero, Nat.zero_add, Nat.mul_comm 10 n, Nat.mul_assoc, Nat.mul_comm 10 (10 ^ l.length)]
    omega
theorem dv_lt {c : UInt8} (h : dg c = true) : dv c ≤ 9 := by unfold dg at h; unfold dv; simp at h; omega
theorem val_lt : ∀ (l : Bs), (∀ c ∈ l, dg c = true) → val 0 l < 10 ^ l.length
  | [], _ => by show 0 < 10 ^ 0; rw [Nat.pow_zero]; omega
  | c :: l, h => by
    have h1 := val_lt l (fun d hd => h d (by simp [hd]))
    have h2 := dv_lt (h c (by simp))
    rw [val_c, List.length_cons, Nat.pow_succ]
    rw [val_add, Nat.mul_zero, Nat.zero_add]
    generalize 10 ^ l.length = e at *
    have : dv c * e ≤ 9 * e := Nat.mul_le_mul_right _ h2
    omega
end Go.Proofs.YtohijjobmmibcaaGreatDoor.Pure
