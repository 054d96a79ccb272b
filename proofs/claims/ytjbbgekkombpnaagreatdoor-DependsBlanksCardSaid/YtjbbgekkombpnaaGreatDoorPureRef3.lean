import Derived.Test.YtjbbgekkombpnaaGreatDoorPureRef2
namespace Go.Proofs.YtjbbgekkombpnaaGreatDoor.Pure
open Go.RowKit Go.Proofs.YtjbbgekkombpnaaGreatDoor.PA Go.Proofs.YtjbbgekkombpnaaGreatDoorW.PrintWords Go.Proofs.YtjbbgekkombpnaaGreatDoorW.PrintLast Go.Proofs.YtjbbgekkombpnaaGreatDoorW.PrintMore
theorem byte_ne {c d : UInt8} (h : c ≠ d) : ¬ (c.toNat : Int) = (d.toNat : Int) := fun e => h (UInt8.toNat_inj.1 (by omega))
theorem val_app (l : Bs) (c : UInt8) (n : Nat) : val n (l ++ [c]) = 10 * val n l + dv c := by unfold val; rw [List.foldl_append]; rfl
theorem dv_digit : ∀ d, d < 10 → dv (UInt8.ofNat (48 + d)) = d := by decide +kernel
theorem val_dec : ∀ (m n : Nat), n ≤ m → val 0 (Lib.decDigits n) = n := by
  intro m
  induction m with
  | zero =>
    intro n h
    obtain rfl : n = 0 := by omega
    rw [Lib.decDigits, dif_pos (by omega)]
    exact dv_digit 0 (by omega)
  | succ m ih =>
    intro n h
    rw [Lib.decDigits]
    by_cases h10 : n < 10
    · rw [dif_pos h10]
      show 10 * 0 + dv _ = n
      rw [dv_digit n h10]; omega
    · rw [dif_neg h10, val_app, ih (n / 10) (by omega), dv_digit _ (Nat.mod_lt _ (by omega))]
      omega
def numV (ep : Bs) : Int := if ep.length ≤ 9 ∧ ep ≠ [] ∧ ep.all dg = true ∧ Lib.decDigits (val 0 ep) = ep then (val 0 ep : Int) else -1
theorem pow_12 : ∀ n, n ≤ 12 → 10 ^ n ≤ 1000000000000 := by decide
theorem num_l0 : ∀ (t p : Bs), p.length + t.length < 4611686018427387904 → (∀ c ∈ p, dg c = true) → p.length ≤ 12 →
    Ev (fun k => keelsonref2_number.l0 k (mk (p ++ t)) ((val 0 p : Nat) : Int) (p.length : Int)) (numV (p ++ t)) := by
  have fin : ∀ (p t : Bs), (∀ c ∈ p, dg c = true) → p.length ≤ 12 → (t = [] ∨ 12 ≤ p.length) → Ev (fun k => keelsonref2_number.j1 k (mk (p ++ t)) ((val 0 p : Nat) : Int) (p.length : Int) false) (numV (p ++ t)) := by
    intro p t hp hl ht
    refine Ev.shift ?_
    simp only [keelsonref2_number.j1, mk_toList, mk_size]
    refine Ev.neg (by simp) ?_
    unfold numV
    by_cases h0 : p ++ t = []
    · exact Ev.pos h0 (Ev.eq_ (by rw [if_neg (fun h => h.2.1 h0)]))
    · refine Ev.neg h0 ?_
      by_cases h9 : ((p ++ t).length : Int) > 9
      · exact Ev.pos h9 (Ev.eq_ (by rw [if_neg (fun h => by have := h.1; omega)]))
      · refine Ev.neg h9 ?_
        have ht : t = [] := by
          rcases ht with h | h
          · exact h
          · rw [List.length_append] at h9; omega
        subst ht
        rw [List.append_nil] at *
        have hv := val_lt p hp
        have hp12 := pow_12 p.length hl
        refine Ev.bind (Decimal_f (val 0 p) (by omega)) ?_
        simp only [mk_toList]
        have hall : p.all dg = true := List.all_eq_true.2 hp
        by_cases hd : Lib.decDigits (val 0 p) = p
        · exact Ev.pos hd (Ev.eq_ (by rw [if_pos ⟨by omega, h0, hall, hd⟩]))
        · exact Ev.neg hd (Ev.eq_ (by rw [if_neg (fun h => hd h.2.2.2)]))
  intro t
  induction t with
  | nil =>
    intro p h hp hl
    refine Ev.shift ?_
    simp only [keelsonref2_number.l0, mk_size, List.append_nil]
    refine Ev.neg (by omega) ?_
    have := fin p [] hp hl (.inl rfl)
    simpa using this
  | cons c t ih =>
    intro p h hp hl
    simp only [List.length_cons] at h
    refine Ev.shift ?_
    simp only [keelsonref2_number.l0, mk_size, List.length_append, List.length_cons]
    refine Ev.pos (by omega) ?_
    by_cases h12 : p.length < 12
    · rw [decide_eq_true (by omega)]
      refine Ev.shift ?_
      simp only [keelsonref2_number.j1, mk_size, mk_bt_at, List.length_append, List.length_cons]
      refine Ev.pos trivial (Ev.pos (by omega) (Ev.pos (by omega) (Ev.bindc (Digit_r c) ?_)))
      cases hc : dg c
      · refine Ev.neg (by simp) (Ev.eq_ ?_)
        unfold numV
        rw [if_neg]
        rintro ⟨_, _, h3, _⟩
        have := List.all_eq_true.1 h3 c (by simp)
        rw [hc] at this; cases this
      · refine Ev.pos rfl ?_
        have hv := val_lt p hp
        have hp12 := pow_12 p.length (by omega)
        have hd := dv_lt hc
        have e1 : wrap64 (wrap64 (10 * ((val 0 p : Nat) : Int)) + ((c.toNat : Int) - 48) % 256) = ((val 0 (p ++ [c]) : Nat) : Int) := by
          rw [val_app]
          have : (c.toNat : Int) - 48 = (dv c : Int) := by unfold dg at hc; unfold dv; simp at hc; omega
          rw [this, wrap_in (10 * _) (by omega) (by omega), wrap_in _ (by omega) (by omega)]
          omega
        rw [e1, wrap_succ _ (by omega)]
        have := ih (p ++ [c]) (by simp; omega) (by intro d hd; rcases List.mem_append.1 hd with h | h; exact hp d h; rw [List.mem_singleton.1 h]; exact hc) (by simp; omega)
        simpa using this
    · rw [decide_eq_false (by omega)]
      exact fin p (c :: t) hp hl (.inr (by omega))
theorem number_r (l : Bs) (h : l.length < 4611686018427387904) : Ev (fun k => keelsonref2_number.f k (mk l)) (numV l) := num_l0 l [] (by simpa using h) (by simp) (by simp)
def refFin (s : Bs) (e : Int) (u r : Bs) : Int × Bs × Bs × Int := if rightV e u r = true then (if textV e u r = s then (e, u, r, 0) else if [48, 58] ++ textV e u r = s then (e, u, r, 0) else badV) else badV
def refUp (s : Bs) (e : Int) (up : Bs) : Int × Bs × Bs × Int := match lastAt 45 up with | some (u, r) => refFin s e u r | none => refFin s e up []
def refParseV (s : Bs) : Int × Bs × Bs × Int :=
  if s.length > 60 then (0, [], [], 9) else match cutAt 58 s with | some (ep, b) => refUp s (numV ep) b | none => refUp s 0 s
theorem fin_r (s : Bs) (e : Int) (u r : Bs) (h1 : e ≤ 9223372036854775807) (hu : u.length < 1000) (hr : r.length < 1000) : Ev (fun k => keelsonref2_Parse.j3 k (mk s) e (mk u) (mk r)) (toB (refFin s e u r)) := by
  refine Ev.shift ?_
  simp only [keelsonref2_Parse.j3, lit0]
  refine Ev.bind (Right_r e u r (by omega) (by omega)) ?_
  unfold refFin
  cases hR : rightV e u r
  · exact Ev.neg (by simp) (Ev.eq_ rfl)
  · have h0 : 0 ≤ e := by
      unfold rightV at hR
      simp only [Bool.and_eq_true, decide_eq_true_eq] at hR
      omega
    refine Ev.pos rfl (Ev.bind (text_r e u r h0 h1 (by omega) (by omega)) ?_)
    simp only [mk_toList]
    by_cases ht : textV e u r = s
    · exact Ev.pos ht (Ev.eq_ (by rw [if_pos trivial, if_pos ht]; rfl))
    · refine Ev.neg ht (Ev.bind (text_r e u r h0 h1 (by omega) (by omega)) ?_)
      have hl : (textV e u r).length ≤ 60 := by
        unfold rightV at hR
        simp only [Bool.and_eq_true, decide_eq_true_eq] at hR
        omega
      rw [show (⟨#[48, 58]⟩ : ByteArray) = mk [48, 58] from rfl]
      simp only [mk_size, mk_app, mk_toList]
      refine Ev.pos (by omega) ?_
      by_cases h2 : [48, 58] ++ textV e u r = s
      · exact Ev.pos h2 (Ev.eq_ (by rw [if_pos trivial, if_neg ht, if_pos h2]; rfl))
      · exact Ev.neg h2 (Ev.eq_ (by rw [if_pos trivial, if_neg ht, if_neg h2]; rfl))
theorem up_l1 (s : Bs) (e : Int) (he : e ≤ 9223372036854775807) (up : Bs) (hup : up.length < 1000) : ∀ (m : Nat) (a b : Bs), a.length = m → up = a ++ b → 45 ∉ b →
    Ev (fun k => keelsonref2_Parse.l1 k (mk s) ((m : Int) - 1) e (mk up) (mk [])) (toB (refUp s e up)) := by
  intro m
  induction m with
  | zero =>
    intro a b ha hab hb
    obtain rfl : a = [] := List.length_eq_zero_iff.1 ha
    refine Ev.shift ?_
    simp only [keelsonref2_Parse.l1]
    refine Ev.neg (by omega) ?_
    have : lastAt 45 up = none := lastAt_none.2 (by rw [hab]; simpa using hb)
    unfold refUp
    rw [this]
    exact fin_r s e up [] he hup (by simp)
  | succ m ih =>
    intro a b ha hab hb
    obtain ⟨a', c, rfl⟩ : ∃ a' c, a = a' ++ [c] := ⟨a.dropLast, a.getLast (by intro h; subst h; simp at ha), (List.dropLast_concat_getLast _).symm⟩
    have ha' : a'.length = m := by simpa using ha
    have hup' : up = a' ++ c :: b := by rw [hab]; simp
    have hlen : up.length = a'.length + (b.length + 1) := by rw [hup']; simp
    refine Ev.shift ?_
    simp only [keelsonref2_Parse.l1, mk_size]
    have hbt : bt (mk up) (((m + 1 : Nat) : Int) - 1) = (c.toNat : Int) := by
      rw [show (((m + 1 : Nat) : Int) - 1) = ((a'.length : Nat) : Int) by omega, hup', mk_bt_at]
    rw [hbt]
    refine Ev.pos (by omega) (Ev.pos (by omega) (Ev.pos (by omega) ?_))
    by_cases hc : c = 45
    · subst hc
      refine Ev.pos rfl ?_
      rw [wrap_in _ (by omega) (by omega)]
      refine Ev.pos (by omega) (Ev.pos (by omega) (Ev.pos (by omega) ?_))
      have hl : lastAt 45 up = some (a', b) := lastAt_some.2 ⟨hup', hb⟩
      have e1 : (mk up).extract 0 (((m + 1 : Nat) : Int) - 1).toNat = mk a' := by
        rw [show (((m + 1 : Nat) : Int) - 1).toNat = a'.length by omega, mk_ext_from, hup']; simp
      have e2 : (mk up).extract (((m + 1 : Nat) : Int) - 1 + 1).toNat up.length = mk b := by
        rw [mk_ext_to, hup', show (((m + 1 : Nat) : Int) - 1 + 1).toNat = (a' ++ [45]).length by simp; omega, show a' ++ 45 :: b = (a' ++ [45]) ++ b by simp, List.drop_left]
      rw [e1, e2]
      unfold refUp
      rw [hl]
      exact fin_r s e a' b he (by omega) (by omega)
    · refine Ev.neg (byte_ne hc) ?_
      rw [wrap_in _ (by omega) (by omega), show (((m + 1 : Nat) : Int) - 1 - 1) = ((m : Nat) : Int) - 1 by omega]
      exact ih a' (c :: b) ha' hup' (by simp [Ne.symm hc, hb])
theorem up_r (s : Bs) (e : Int) (he : e ≤ 9223372036854775807) (up : Bs) (hup : up.length < 1000) : Ev (fun k => keelsonref2_Parse.j1 k (mk s) e (mk up) (mk [])) (toB (refUp s e up)) := by
  refine Ev.shift ?_
  simp only [keelsonref2_Parse.j1, mk_size]
  rw [wrap_in _ (by omega) (by omega)]
  exact up_l1 s e he up hup up.length up [] rfl (by simp) (by simp)
theorem numV_le (ep : Bs) : numV ep ≤ 999999999 := by
  unfold numV
  split
  · rename_i h
    have h1 := val_lt ep (List.all_eq_true.1 h.2.2.1)
    have h2 : 10 ^ ep.length ≤ 10 ^ 9 := Nat.pow_le_pow_right (by omega) h.1
    omega
  · omega
theorem parse_l0 (s : Bs) (hs : s.length ≤ 60) : ∀ (t p : Bs), s = p ++ t → 58 ∉ p → Ev (fun k => keelsonref2_Parse.l0 k (mk s) (p.length : Int) 0 (mk s) (mk [])) (toB (match cutAt 58 s with | some (ep, b) => refUp s (numV ep) b | none => refUp s 0 s)) := by
  intro t
  induction t with
  | nil =>
    intro p hp h58
    rw [List.append_nil] at hp
    subst hp
    refine Ev.shift ?_
    simp only [keelsonref2_Parse.l0, mk_size]
    refine Ev.neg (by omega) ?_
    rw [cutAt_none.2 h58]
    exact up_r s 0 (by omega) s (by omega)
  | cons c t ih =>
    intro p hp h58
    have hlen : s.length = p.length + (t.length + 1) := by rw [hp]; simp
    refine Ev.shift ?_
    simp only [keelsonref2_Parse.l0, mk_size]
    have hbt : bt (mk s) (p.length : Int) = (c.toNat : Int) := by rw [hp, mk_bt_at]
    rw [hbt]
    refine Ev.pos (by omega) (Ev.pos (by omega) ?_)
    by_cases hc : c = 58
    · subst hc
      have hcut : cutAt 58 s = some (p, t) := cutAt_some.2 ⟨hp, h58⟩
      have e1 : (mk s).extract 0 ((p.length : Int)).toNat = mk p := by rw [Int.toNat_natCast, mk_ext_from, hp]; simp
      have e2 : (mk s).extract (((p.length + 1 : Nat) : Int)).toNat s.length = mk t := by
        rw [Int.toNat_natCast, mk_ext_to, hp, show p.length + 1 = (p ++ [58]).length by simp, show p ++ 58 :: t = (p ++ [58]) ++ t by simp, List.drop_left]
      rw [e1, wrap_succ _ (by omega), e2, hcut]
      refine Ev.pos rfl (Ev.pos (by omega) (Ev.bind (number_r p (by omega)) (Ev.pos (by omega) (Ev.pos (by omega) ?_))))
      have := numV_le p
      exact up_r s (numV p) (by omega) t (by omega)
    · refine Ev.neg (byte_ne hc) ?_
      rw [wrap_succ _ (by omega)]
      have := ih (p ++ [c]) (by rw [hp]; simp) (by simp [h58, Ne.symm hc])
      simpa using this
theorem Parse_r0 (s : Bs) : Ev (fun k => keelsonref2_Parse.f k (mk s)) (toB (refParseV s)) := by
  simp only [keelsonref2_Parse.f, mk_size, lit0]
  unfold refParseV
  by_cases h : s.length > 60
  · exact Ev.pos (by omega) (Ev.eq_ (by rw [if_pos h]; rfl))
  · refine Ev.neg (by omega) ?_
    rw [if_neg h]
    exact parse_l0 s (by omega) s [] rfl (by simp)
theorem parseU : ∀ (l : Bs) (acc : Nat), (∀ c ∈ l, dg c = true) → (acc + 1) * 10 ^ l.length ≤ 10000000000 → Lib.parseUint10 acc l = .ok (val acc l)
  | [], acc, _, _ => rfl
  | c :: l, acc, h, hb => by
    have hc := h c (by simp)
    have hd := dv_lt hc
    unfold dg at hc
    simp only [decide_eq_true_eq] at hc
    rw [List.length_cons, Nat.pow_succ] at hb
    have hpos : 0 < 10 ^ l.length := Nat.pow_pos (by omega)
    have hacc : acc + 1 ≤ 1000000000 := by
      have : (acc + 1) * 10 ≤ (acc + 1) * (10 ^ l.length * 10) := Nat.mul_le_mul_left _ (by omega)
      omega
    unfold Lib.parseUint10
    rw [if_pos hc, if_neg (by omega), if_neg (by unfold dv at hd; omega)]
    have e : acc * 10 + (c.toNat - 48) = 10 * acc + dv c := by unfold dv; omega
    rw [e, parseU l (10 * acc + dv c) (fun d hd => h d (by simp [hd])) ?_, val_c]
    have : (10 * acc + dv c + 1) * 10 ^ l.length ≤ ((acc + 1) * 10) * 10 ^ l.length := Nat.mul_le_mul_right _ (by omega)
    have e2 : ((acc + 1) * 10) * 10 ^ l.length = (acc + 1) * (10 ^ l.length * 10) := by rw [Nat.mul_assoc, Nat.mul_comm 10]
    omega
theorem atoi_digits (l : Bs) (h : ∀ c ∈ l, dg c = true) (h0 : l ≠ []) (h9 : l.length ≤ 9) : Lib.atoiAll l = .ok (val 0 l : Int) := by
  cases l with
  | nil => exact absurd rfl h0
  | cons c t =>
    have hc := h c (by simp)
    have hb : (0 + 1) * 10 ^ (c :: t).length ≤ 10000000000 := by
      have : 10 ^ (c :: t).length ≤ 10 ^ 9 := Nat.pow_le_pow_right (by omega) h9
      omega
    have hp := parseU (c :: t) 0 h hb
    have hv := val_lt (c :: t) h
    have : 10 ^ (c :: t).length ≤ 10 ^ 9 := Nat.pow_le_pow_right (by omega) h9
    unfold dg at hc
    simp only [decide_eq_true_eq] at hc
    rw [Lib.atoiAll_plain c t (by omega) (by omega)]
    unfold Lib.parseMag
    rw [if_neg h0, hp]
    unfold Lib.signless
    simp only []
    rw [if_neg (by omega)]
theorem dec_all (n : Nat) : ∀ c ∈ Lib.decDigits n, dg c = true := (decDigits_dg n n (Nat.le_refl _)).1
theorem itoa_nat (n : Nat) : Lib.itoa (n : Int) = Lib.decDigits n := by unfold Lib.itoa; rw [if_neg (by omega)]; simp
theorem numV_of (n : Nat) (h : n ≤ 999999999) : numV (Lib.decDigits n) = n := by
  unfold numV
  rw [val_dec n n (Nat.le_refl _)]
  rw [if_pos ⟨decDigits_len 8 n (by omega), (decDigits_dg n n (Nat.le_refl _)).2, List.all_eq_true.2 (dec_all n), rfl⟩]
theorem rightV_e {e : Int} {u r : Bs} (h : rightV e u r = true) : 0 ≤ e ∧ e ≤ 999999999 := by
  unfold rightV at h
  simp only [Bool.and_eq_true, decide_eq_true_eq] at h
  omega
end Go.Proofs.YtjbbgekkombpnaaGreatDoor.Pure
