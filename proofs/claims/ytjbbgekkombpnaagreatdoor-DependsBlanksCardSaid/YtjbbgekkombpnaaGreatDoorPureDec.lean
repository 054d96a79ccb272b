import Derived.Test.YtjbbgekkombpnaaGreatDoorPureRel
import Derived.Test.YtjbbgekkombpnaaGreatDoorPAx12
import Derived.Lib.ItoaNum
namespace Go.Proofs.YtjbbgekkombpnaaGreatDoor.Pure
open Go.RowKit Go.Proofs.YtjbbgekkombpnaaGreatDoor.PA Go.Proofs.YtjbbgekkombpnaaGreatDoorW.PrintWords Go.Proofs.YtjbbgekkombpnaaGreatDoorW.PrintLast Go.Proofs.YtjbbgekkombpnaaGreatDoorW.PrintMore
theorem tmod_nat (n m : Nat) : Int.tmod (n : Int) (m : Int) = ((n % m : Nat) : Int) := by rw [Int.tmod_eq_emod_of_nonneg (by omega)]; rfl
theorem tdiv_nat (n m : Nat) : Int.tdiv (n : Int) (m : Int) = ((n / m : Nat) : Int) := by rw [Int.tdiv_eq_ediv_of_nonneg (by omega)]; rfl
theorem digit_lit : ∀ d, d < 10 → (⟨#[48, 49, 50, 51, 52, 53, 54, 55, 56, 57]⟩ : ByteArray).extract d (d + 1) = mk [UInt8.ofNat (48 + d)] := by decide +kernel
theorem dec_l0 : ∀ (m n : Nat) (s : Bs), n < 10 ^ m → s.length + m ≤ 100 → n < 9223372036854775808 →
    Ev (fun k => keelsonref2_Decimal.l0 k (n : Int) (mk s)) (if n = 0 ∧ s ≠ [] then mk s else mk (Lib.decDigits n ++ s)) := by
  intro m
  induction m with
  | zero =>
    intro n s hn hs hb
    have hn : n = 0 := by rw [Nat.pow_zero] at hn; omega
    subst hn
    by_cases h : s = []
    · subst h
      refine Ev.shift ?_
      simp only [keelsonref2_Decimal.l0, mk_toList]
      refine Ev.neg (by omega) (Ev.pos trivial ?_)
      rw [show ((0 : Nat) : Int) = 0 from rfl, show Int.tmod 0 10 = 0 from rfl, show wrap64 (0 + 1) = 1 from wrap_succ 0 (by omega)]
      refine Ev.pos (by omega) (Ev.pos (by omega) (Ev.pos (by omega) (Ev.pos (by decide +kernel) ?_)))
      refine Ev.shift ?_
      rw [show wrap64 (Int.tdiv 0 10) = 0 from wrap_nat 0 (by omega), show (⟨#[48, 49, 50, 51, 52, 53, 54, 55, 56, 57]⟩ : ByteArray).extract (0 : Int).toNat (1 : Int).toNat ++ mk [] = mk [48] by decide +kernel]
      simp only [keelsonref2_Decimal.l0, mk_toList]
      refine Ev.neg (by omega) (Ev.neg (by simp) (Ev.eq_ ?_))
      rw [if_neg (by simp), Lib.decDigits]
      rfl
    · rw [if_pos ⟨rfl, h⟩]
      refine Ev.shift ?_
      simp only [keelsonref2_Decimal.l0, mk_toList]
      exact Ev.neg (by omega) (Ev.neg h (Ev.eq_ rfl))
  | succ m ih =>
    intro n s hn hs hb
    by_cases h : n = 0 ∧ s ≠ []
    · rw [if_pos h]
      refine Ev.shift ?_
      simp only [keelsonref2_Decimal.l0, mk_toList]
      exact Ev.neg (by omega) (Ev.neg h.2 (Ev.eq_ rfl))
    · rw [if_neg h]
      have hd : n % 10 < 10 := Nat.mod_lt _ (by omega)
      have hlit := digit_lit (n % 10) hd
      have next : Ev (fun k => keelsonref2_Decimal.l0 k (wrap64 (Int.tdiv (n : Int) 10)) (((⟨#[48, 49, 50, 51, 52, 53, 54, 55, 56, 57]⟩ : ByteArray).extract (Int.tmod (n : Int) 10).toNat (wrap64 (Int.tmod (n : Int) 10 + 1)).toNat) ++ mk s)) (mk (Lib.decDigits n ++ s)) := by
        rw [show (10 : Int) = ((10 : Nat) : Int) from rfl, tmod_nat, tdiv_nat, wrap_succ _ (by omega), wrap_nat _ (by omega), Int.toNat_natCast, Int.toNat_natCast, hlit, mk_app]
        have := ih (n / 10) ([UInt8.ofNat (48 + n % 10)] ++ s) (by rw [Nat.pow_succ] at hn; omega) (by simp; omega) (by omega)
        rw [Lib.decDigits]
        by_cases h10 : n < 10
        · rw [dif_pos h10]
          rw [if_pos ⟨by omega, by simp⟩, Nat.mod_eq_of_lt h10] at this
          rw [Nat.mod_eq_of_lt h10]
          exact this
        · rw [dif_neg h10]
          rw [if_neg (by omega)] at this
          simpa using this
      have c1 : 0 ≤ Int.tmod (n : Int) 10 := by rw [show (10 : Int) = ((10 : Nat) : Int) from rfl, tmod_nat]; omega
      have c2 : Int.tmod (n : Int) 10 ≤ wrap64 (Int.tmod (n : Int) 10 + 1) := by rw [show (10 : Int) = ((10 : Nat) : Int) from rfl, tmod_nat, wrap_succ _ (by omega)]; omega
      have c3 : wrap64 (Int.tmod (n : Int) 10 + 1) ≤ 10 := by rw [show Int.tmod (n : Int) 10 = ((n % 10 : Nat) : Int) from tmod_nat n 10, wrap_succ _ (by omega)]; omega
      have c4 : ((⟨#[48, 49, 50, 51, 52, 53, 54, 55, 56, 57]⟩ : ByteArray).extract (Int.tmod (n : Int) 10).toNat (wrap64 (Int.tmod (n : Int) 10 + 1)).toNat).size + (mk s).size ≤ 9223372036854775807 := by
        rw [show Int.tmod (n : Int) 10 = ((n % 10 : Nat) : Int) from tmod_nat n 10, wrap_succ _ (by omega), Int.toNat_natCast, Int.toNat_natCast, hlit, mk_size, mk_size]
        simp only [List.length_cons, List.length_nil]; omega
      refine Ev.shift ?_
      simp only [keelsonref2_Decimal.l0]
      by_cases h0 : (n : Int) > 0
      · exact Ev.pos h0 (Ev.pos c1 (Ev.pos c2 (Ev.pos c3 (Ev.pos c4 next))))
      · refine Ev.neg h0 (Ev.pos ?_ (Ev.pos c1 (Ev.pos c2 (Ev.pos c3 (Ev.pos c4 next)))))
        rw [mk_toList]
        by_cases hs : s = []
        · exact hs
        · exact absurd ⟨by omega, hs⟩ h
theorem Decimal_f (n : Nat) (h : n < 9223372036854775808) : Ev (fun k => keelsonref2_Decimal.f k (n : Int)) (mk (Lib.decDigits n)) := by
  have := dec_l0 19 n [] (by omega) (by simp) h
  rw [if_neg (by simp), List.append_nil] at this
  exact this
theorem decDigits_dg : ∀ (m n : Nat), n ≤ m → (∀ c ∈ Lib.decDigits n, dg c = true) ∧ Lib.decDigits n ≠ [] := by
  have one : ∀ d, d < 10 → dg (UInt8.ofNat (48 + d)) = true := by decide +kernel
  intro m
  induction m with
  | zero =>
    intro n h
    obtain rfl : n = 0 := by omega
    rw [Lib.decDigits, dif_pos (by omega)]
    exact ⟨fun c hc => by rw [List.mem_singleton.1 hc]; exact one 0 (by omega), by simp⟩
  | succ m ih =>
    intro n h
    rw [Lib.decDigits]
    by_cases h10 : n < 10
    · rw [dif_pos h10]
      exact ⟨fun c hc => by rw [List.mem_singleton.1 hc]; exact one n h10, by simp⟩
    · rw [dif_neg h10]
      refine ⟨fun c hc => ?_, by simp⟩
      rcases List.mem_append.1 hc with hc | hc
      · exact (ih (n / 10) (by omega)).1 c hc
      · rw [List.mem_singleton.1 hc]; exact one _ (Nat.mod_lt _ (by omega))
theorem decDigits_len : ∀ (m n : Nat), n < 10 ^ (m + 1) → (Lib.decDigits n).length ≤ m + 1 := by
  intro m
  induction m with
  | zero =>
    intro n h
    rw [Lib.decDigits, dif_pos (by omega)]
    simp
  | succ m ih =>
    intro n h
    rw [Lib.decDigits]
    split
    · simp
    · have := ih (n / 10) (by rw [Nat.pow_succ] at h; omega)
      simp; omega
end Go.Proofs.YtjbbgekkombpnaaGreatDoor.Pure
