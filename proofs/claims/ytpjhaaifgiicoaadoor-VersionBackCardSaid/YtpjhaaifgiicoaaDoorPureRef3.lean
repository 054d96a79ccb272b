import Derived.Test.YtpjhaaifgiicoaaDoorPureVer3
import Derived.Test.YtpjhaaifgiicoaaDoorPureDec
import Derived.Test.YtpjhaaifgiicoaaDoorPAx10
import Derived.Test.YtpjhaaifgiicoaaDoorPAx0
import Derived.Test.YtpjhaaifgiicoaaDoorPAx3
import Derived.Test.YtpjhaaifgiicoaaDoorPAx6
import Derived.Test.YtpjhaaifgiicoaaDoorPAx5
import Derived.Test.YtpjhaaifgiicoaaDoorPAx12
namespace Go.Proofs.YtpjhaaifgiicoaaDoor.Pure
open Go.RowKit Go.Proofs.YtpjhaaifgiicoaaDoor.PA Go.Proofs.YtpjhaaifgiicoaaDoorW.PrintWords Go.Proofs.YtpjhaaifgiicoaaDoorW.PrintLast Go.Proofs.YtpjhaaifgiicoaaDoorW.PrintMore
theorem val_app (l : Bs) (c : UInt8) (n : Nat) : val n (l ++ [c]) = 10 * val n l + dv c := by unfold val; rw [List.foldl_append]; rfl
theorem dv_digit : ∀ d, d < 10 → dv (UInt8.ofNat (48 + d)) = d := by decide +kernel
theorem val_dec : ∀ (m n : Nat), n ≤ m → val 0 (Lib.decDigits n) = n := by
  intro m
  induction m with
  | zero =>
    intro n h
    obtain rfl : n = 0 := by omega
    rw [Lib.decDigits, dif_pos (by omega)]
    exact dv_digit 0 (by omega)
  | succ m ih =>
    intro n h
    rw [Lib.decDigits]
    by_cases h10 : n < 10
    · rw [dif_pos h10]
      show 10 * 0 + dv _ = n
      rw [dv_digit n h10]; omega
    · rw [dif_neg h10, val_app, ih (n / 10) (by omega), dv_digit _ (Nat.mod_lt _ (by omega))]
      omega
def numV (ep : Bs) : Int := if ep.length ≤ 9 ∧ ep ≠ [] ∧ ep.all dg = true ∧ Lib.decDigits (val 0 ep) = ep then (val 0 ep : Int) else -1
def refFin (s : Bs) (e : Int) (u r : Bs) : Int × Bs × Bs × Int := if rightV e u r = true then (if textV e u r = s then (e, u, r, 0) else if [48, 58] ++ textV e u r = s then (e, u, r, 0) else badV) else badV
def refUp (s : Bs) (e : Int) (up : Bs) : Int × Bs × Bs × Int := match lastAt 45 up with | some (u, r) => refFin s e u r | none => refFin s e up []
def refParseV (s : Bs) : Int × Bs × Bs × Int :=
  if s.length > 60 then (0, [], [], 9) else match cutAt 58 s with | some (ep, b) => refUp s (numV ep) b | none => refUp s 0 s
theorem parseU : ∀ (l : Bs) (acc : Nat), (∀ c ∈ l, dg c = true) → (acc + 1) * 10 ^ l.length ≤ 10000000000 → Lib.parseUint10 acc l = .ok (val acc l)
  | [], acc, _, _ => rfl
  | c :: l, acc, h, hb => by
    have hc := h c (by simp)
    have hd := dv_lt hc
    unfold dg at hc
    simp only [decide_eq_true_eq] at hc
    rw [List.length_cons, Nat.pow_succ] at hb
    have hpos : 0 < 10 ^ l.length := Nat.pow_pos (by omega)
    have hacc : acc + 1 ≤ 1000000000 := by
      have : (acc + 1) * 10 ≤ (acc + 1) * (10 ^ l.length * 10) := Nat.mul_le_mul_left _ (by omega)
      omega
    unfold Lib.parseUint10
    rw [if_pos hc, if_neg (by omega), if_neg (by unfold dv at hd; omega)]
    have e : acc * 10 + (c.toNat - 48) = 10 * acc + dv c := by unfold dv; omega
    rw [e, parseU l (10 * acc + dv c) (fun d hd => h d (by simp [hd])) ?_, val_c]
    have : (10 * acc + dv c + 1) * 10 ^ l.length ≤ ((acc + 1) * 10) * 10 ^ l.length := Nat.mul_le_mul_right _ (by omega)
    have e2 : ((acc + 1) * 10) * 10 ^ l.length = (acc + 1) * (10 ^ l.length * 10) := by rw [Nat.mul_assoc, Nat.mul_comm 10]
    omega
theorem atoi_digits (l : Bs) (h : ∀ c ∈ l, dg c = true) (h0 : l ≠ []) (h9 : l.length ≤ 9) : Lib.atoiAll l = .ok (val 0 l : Int) := by
  cases l with
  | nil => exact absurd rfl h0
  | cons c t =>
    have hc := h c (by simp)
    have hb : (0 + 1) * 10 ^ (c :: t).length ≤ 10000000000 := by
      have : 10 ^ (c :: t).length ≤ 10 ^ 9 := Nat.pow_le_pow_right (by omega) h9
      omega
    have hp := parseU (c :: t) 0 h hb
    have hv := val_lt (c :: t) h
    have : 10 ^ (c :: t).length ≤ 10 ^ 9 := Nat.pow_le_pow_right (by omega) h9
    unfold dg at hc
    simp only [decide_eq_true_eq] at hc
    rw [Lib.atoiAll_plain c t (by omega) (by omega)]
    unfold Lib.parseMag
    rw [if_neg h0, hp]
    unfold Lib.signless
    simp only []
    rw [if_neg (by omega)]
theorem dec_all (n : Nat) : ∀ c ∈ Lib.decDigits n, dg c = true := (decDigits_dg n n (Nat.le_refl _)).1
theorem itoa_nat (n : Nat) : Lib.itoa (n : Int) = Lib.decDigits n := by unfold Lib.itoa; rw [if_neg (by omega)]; simp
theorem numV_of (n : Nat) (h : n ≤ 999999999) : numV (Lib.decDigits n) = n := by
  unfold numV
  rw [val_dec n n (Nat.le_refl _)]
  rw [if_pos ⟨decDigits_len 8 n (by omega), (decDigits_dg n n (Nat.le_refl _)).2, List.all_eq_true.2 (dec_all n), rfl⟩]
theorem rightV_e {e : Int} {u r : Bs} (h : rightV e u r = true) : 0 ≤ e ∧ e ≤ 999999999 := by
  unfold rightV at h
  simp only [Bool.and_eq_true, decide_eq_true_eq] at h
  omega
end Go.Proofs.YtpjhaaifgiicoaaDoor.Pure
