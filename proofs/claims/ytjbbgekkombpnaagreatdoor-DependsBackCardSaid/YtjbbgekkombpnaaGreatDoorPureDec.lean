import Derived.Test.YtjbbgekkombpnaaGreatDoorPureRel
import Derived.Test.YtjbbgekkombpnaaGreatDoorPAx0
import Derived.Test.YtjbbgekkombpnaaGreatDoorPAx11
import Derived.Lib.ItoaNum
namespace Go.Proofs.YtjbbgekkombpnaaGreatDoor.Pure
open Go.RowKit Go.Proofs.YtjbbgekkombpnaaGreatDoor.PA Go.Proofs.YtjbbgekkombpnaaGreatDoorW.PrintWords Go.Proofs.YtjbbgekkombpnaaGreatDoorW.PrintLast Go.Proofs.YtjbbgekkombpnaaGreatDoorW.PrintMore
theorem decDigits_dg : ∀ (m n : Nat), n ≤ m → (∀ c ∈ Lib.decDigits n, dg c = true) ∧ Lib.decDigits n ≠ [] := by
  have one : ∀ d, d < 10 → dg (UInt8.ofNat (48 + d)) = true := by decide +kernel
  intro m
  induction m with
  | zero =>
    intro n h
    obtain rfl : n = 0 := by omega
    rw [Lib.decDigits, dif_pos (by omega)]
    exact ⟨fun c hc => by rw [List.mem_singleton.1 hc]; exact one 0 (by omega), by simp⟩
  | succ m ih =>
    intro n h
    rw [Lib.decDigits]
    by_cases h10 : n < 10
    · rw [dif_pos h10]
      exact ⟨fun c hc => by rw [List.mem_singleton.1 hc]; exact one n h10, by simp⟩
    · rw [dif_neg h10]
      refine ⟨fun c hc => ?_, by simp⟩
      rcases List.mem_append.1 hc with hc | hc
      · exact (ih (n / 10) (by omega)).1 c hc
      · rw [List.mem_singleton.1 hc]; exact one _ (Nat.mod_lt _ (by omega))
end Go.Proofs.YtjbbgekkombpnaaGreatDoor.Pure
