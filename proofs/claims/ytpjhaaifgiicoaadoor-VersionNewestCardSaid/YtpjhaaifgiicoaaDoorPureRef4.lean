import Derived.Test.YtpjhaaifgiicoaaDoorPureRef3
namespace Go.Proofs.YtpjhaaifgiicoaaDoor.Pure
open Go.RowKit Go.Proofs.YtpjhaaifgiicoaaDoor.PA Go.Proofs.YtpjhaaifgiicoaaDoorW.PrintWords Go.Proofs.YtpjhaaifgiicoaaDoorW.PrintLast Go.Proofs.YtpjhaaifgiicoaaDoorW.PrintMore
def tailV (u r : Bs) : Bs := u ++ (if r = [] then [] else 45 :: r)
def headV (e : Int) : Bs := if e = 0 then [] else Lib.itoa e ++ [58]
theorem textV_eq (e : Int) (u r : Bs) : textV e u r = headV e ++ tailV u r := rfl
theorem fin_eq (s b : Bs) (e : Int) (H : ∀ x : Bs, x.length ≤ b.length → ((headV e ++ x = s ∨ [48, 58] ++ (headV e ++ x) = s) ↔ x = b)) : finV e b = refUp s e b := by
  have yes : ∀ u r, tailV u r = b → refFin s e u r = if rightV e u r = true then (e, u, r, 0) else badV := by
    intro u r h
    unfold refFin
    have h1 := (H (tailV u r) (by rw [h]; exact Nat.le_refl _)).2 h
    rw [textV_eq]
    rcases h1 with h1 | h1
    · rw [if_pos h1]
    · rw [if_pos h1]
      split <;> first | rfl | (split <;> rfl)
  unfold finV refUp
  cases hl : lastAt 45 b with
  | none =>
    simp only []
    rw [yes b [] (by simp [tailV])]
  | some p =>
    obtain ⟨u, r⟩ := p
    obtain ⟨hb, hr⟩ := lastAt_some.1 hl
    simp only []
    by_cases h0 : r = []
    · subst h0
      rw [if_pos rfl]
      unfold refFin
      rw [textV_eq]
      have ht : tailV u [] = u := by simp [tailV]
      have hne : ¬ u = b := by intro h; have := congrArg List.length (h.trans hb); simp at this
      have h1 := mt (H u (by rw [hb]; simp)).1 hne
      rw [ht, if_neg (fun h => h1 (.inl h)), if_neg (fun h => h1 (.inr h))]
      split <;> rfl
    · rw [if_neg h0, yes u r (by simp [tailV, h0, hb])]
theorem bad_up (s b : Bs) (e : Int) (h : ¬ (0 ≤ e ∧ e ≤ 999999999)) : refUp s e b = badV ∧ finV e b = badV := by
  have hR : ∀ u r, rightV e u r = false := by
    intro u r
    cases hx : rightV e u r
    · rfl
    · exact absurd (rightV_e hx) h
  unfold refUp finV
  cases hl : lastAt 45 b with
  | none => simp [refFin, hR]
  | some p => simp [refFin, hR]
theorem parse_eq (s : Bs) : refParseV s = parseV s := by
  unfold refParseV parseV
  by_cases hs : s.length > 60
  · rw [if_pos hs, if_pos hs]
  · rw [if_neg hs, if_neg hs]
    cases hc : cutAt 58 s with
    | none =>
      have h58 := cutAt_none.1 hc
      refine (fin_eq s s 0 fun x _ => ?_).symm
      simp only [headV, if_true, List.nil_append]
      constructor
      · rintro (h | h)
        · exact h
        · exact absurd (by rw [← h]; simp) h58
      · intro h; exact .inl h
    | some p =>
      obtain ⟨ep, b⟩ := p
      obtain ⟨hsb, h58⟩ := cutAt_some.1 hc
      simp only []
      by_cases hn : ep.length ≤ 9 ∧ ep ≠ [] ∧ ep.all dg = true ∧ Lib.decDigits (val 0 ep) = ep
      · have hnum : numV ep = ((val 0 ep : Nat) : Int) := by unfold numV; rw [if_pos hn]
        have hat := atoi_digits ep (List.all_eq_true.1 hn.2.2.1) hn.2.1 hn.1
        rw [hat, hnum]
        simp only []
        rw [if_neg (by omega), itoa_nat, if_pos hn.2.2.2]
        refine (fin_eq s b _ fun x hx => ?_).symm
        by_cases h0 : val 0 ep = 0
        · have hep : ep = [48] := by
            rw [h0] at hn
            rw [← hn.2.2.2, Lib.decDigits]
            rfl
          simp only [headV, h0]
          subst hep
          constructor
          · rintro (h | h)
            · have := congrArg List.length (h.trans hsb)
              simp at this; omega
            · rw [hsb] at h
              simpa using h
          · rintro rfl
            exact .inr (by rw [hsb]; simp)
        · have hh : headV ((val 0 ep : Nat) : Int) = ep ++ [58] := by
            unfold headV
            rw [if_neg (by omega), itoa_nat, hn.2.2.2]
          rw [hh]
          constructor
          · rintro (h | h)
            · rw [hsb] at h
              simpa using h
            · exfalso
              have h1 : cutAt 58 s = some ([48], ep ++ 58 :: x) := cutAt_some.2 ⟨by rw [← h]; simp, by simp⟩
              rw [hc] at h1
              have h2 : ep = [48] := by
                have := Option.some.inj h1
                exact (Prod.mk.inj this).1
              exact h0 (by rw [h2]; rfl)
          · rintro rfl
            exact .inl (by rw [hsb]; simp)
      · have hnum : numV ep = -1 := by unfold numV; rw [if_neg hn]
        rw [hnum, (bad_up s b (-1) (by omega)).1]
        rcases hv : Lib.atoiAll ep with v | _ | _
        · simp only []
          by_cases hneg : v < 0
          · rw [if_pos hneg]
          · rw [if_neg hneg]
            by_cases hi : Lib.itoa v = ep
            · rw [if_pos hi]
              by_cases hbig : v ≤ 999999999
              · exfalso
                obtain ⟨n, rfl⟩ : ∃ n : Nat, v = n := ⟨v.toNat, by omega⟩
                rw [itoa_nat] at hi
                have := numV_of n (by omega)
                rw [hi, hnum] at this
                omega
              · rw [(bad_up s b v (by omega)).2]
            · rw [if_neg hi]
        · rfl
        · rfl
theorem Parse_r (s : Bs) : Ev (fun k => keelsonref2_Parse.f k (mk s)) (toB (parseV s)) := by
  rw [← parse_eq]; exact Parse_r0 s
theorem sign_r (a : Int) : keelsonref2_sign.f a = some (cmpI a 0) := by
  unfold keelsonref2_sign.f cmpI
  by_cases h : a < 0
  · rw [if_pos h, if_pos h]
  · rw [if_neg h, if_neg h]
    by_cases h2 : a > 0
    · rw [if_pos h2, if_pos h2]
    · rw [if_neg h2, if_neg h2]
def wtR (c : UInt8) : Int := if dg c = true then 0 else if c.toNat = 126 then -1 else if lt c = true then c.toNat else 1000 + c.toNat
def wtRAt (l : Bs) (i : Nat) : Int := match l[i]? with | some c => wtR c | none => 0
theorem weight_r (l : Bs) (i : Nat) (h : l.length < 4611686018427387904) : Ev (fun k => keelsonref2_weight.f k (mk l) (i : Int)) (wtRAt l i) := by
  have j0 : i < l.length → Ev (fun k => keelsonref2_weight.j0 k (mk l) (i : Int) true) 0 := fun _ => by
    refine Ev.shift ?_
    simp only [keelsonref2_weight.j0]
    exact Ev.pos trivial (Ev.some_ _)
  simp only [keelsonref2_weight.f, mk_size]
  unfold wtRAt
  by_cases hi : i < l.length
  · have e : bt (mk l) (i : Int) = (l[i].toNat : Int) := by rw [mk_bt]; simp [hi]
    rw [List.getElem?_eq_getElem hi, e]
    have hb := l[i].toNat_lt
    simp only []
    refine Ev.neg (by omega) (Ev.pos (by omega) (Ev.pos (by omega) (Ev.bindc (Digit_r l[i]) ?_)))
    unfold wtR
    cases hd : dg l[i]
    · refine Ev.shift ?_
      simp only [keelsonref2_weight.j0, mk_size, e]
      refine Ev.neg (by simp) (Ev.pos (by omega) (Ev.pos (by omega) ?_))
      have e0 : ∀ x y : Int, (if (false : Bool) = true then x else y) = y := fun x y => rfl
      have e1 : ∀ x y : Int, (if (true : Bool) = true then x else y) = x := fun x y => rfl
      rw [e0]
      by_cases h1 : l[i].toNat = 126
      · rw [if_pos h1]; exact Ev.pos (by omega) (Ev.eq_ rfl)
      · rw [if_neg h1]
        refine Ev.neg (by omega) (Ev.bindc (Letter_r l[i]) ?_)
        cases hl : lt l[i]
        · rw [e0]
          refine Ev.neg (by simp) (Ev.eq_ ?_)
          rw [wrap_in (l[i].toNat : Int) (by omega) (by omega), wrap_in _ (by omega) (by omega)]
        · rw [e1]
          refine Ev.pos rfl (Ev.eq_ ?_)
          rw [wrap_in _ (by omega) (by omega)]
    · exact j0 hi
  · rw [List.getElem?_eq_none (by omega)]
    refine Ev.pos (by omega) ?_
    refine Ev.shift ?_
    simp only [keelsonref2_weight.j0]
    exact Ev.pos trivial (Ev.some_ _)
theorem wt_both (c d : UInt8) (hc : dg c = false) (hd : dg d = false) : cmpI (wtR c - wtR d) 0 = cmpI (wt c) (wt d) := by
  unfold wtR wt
  rw [hc, hd]
  have h1 := c.toNat_lt
  have h2 := d.toNat_lt
  have r : ∀ c : UInt8, lt c = true → c.toNat ≤ 122 := byte_all (by decide +kernel)
  have r1 := r c
  have r2 := r d
  cases e1 : lt c <;> cases e2 : lt d <;> simp only [Bool.false_eq_true, if_false, if_true, e1, e2, true_imp_iff, false_imp_iff] at * <;> unfold cmpI <;> (repeat' split) <;> omega
theorem wt_one (c : UInt8) (hc : dg c = false) : cmpI (wtR c - 0) 0 = cmpI (wt c) 0 ∧ cmpI (0 - wtR c) 0 = cmpI 0 (wt c) ∧ cmpI (wt c) 0 ≠ 0 := by
  have h0 := wt_nz c hc
  unfold wtR
  unfold wt at *
  rw [hc]
  cases e1 : lt c <;> simp only [Bool.false_eq_true, if_false, if_true, e1] at * <;> unfold cmpI <;> (repeat' split) <;> omega
theorem digits_l1 (l : Bs) (hl : l.length < 4611686018427387904) : ∀ (t p q : Bs), l = p ++ (t ++ q) →
    Ev (fun k => keelsonref2_digits.l1 k (mk l) ((p.length + t.length : Nat) : Int) (p.length : Int)) (mk (t.dropWhile (· == 48)), ((p.length + t.length : Nat) : Int)) := by
  intro t
  induction t with
  | nil =>
    intro p q h
    have hlen : l.length = p.length + q.length := by rw [h]; simp
    refine Ev.shift ?_
    simp only [keelsonref2_digits.l1, mk_size, List.length_nil, Nat.add_zero]
    refine Ev.neg (by omega) (Ev.pos (by omega) (Ev.pos (by omega) (Ev.pos (by omega) (Ev.eq_ ?_))))
    rw [Int.toNat_natCast, mk_ext]
    simp
  | cons c t ih =>
    intro p q h
    have hlen : l.length = p.length + (t.length + 1 + q.length) := by rw [h]; simp; omega
    refine Ev.shift ?_
    simp only [keelsonref2_digits.l1, mk_size, List.length_cons]
    have hbt : bt (mk l) (p.length : Int) = (c.toNat : Int) := by rw [h, List.cons_append, mk_bt_at]
    rw [hbt]
    refine Ev.pos (by omega) (Ev.pos (by omega) (Ev.pos (by omega) ?_))
    by_cases hc : c = 48
    · subst hc
      refine Ev.pos rfl ?_
      rw [wrap_succ _ (by omega), List.dropWhile_cons_of_pos (by simp)]
      have := ih (p ++ [48]) q (by rw [h]; simp)
      simpa [Nat.add_assoc, Nat.add_comm 1] using this
    · refine Ev.neg (byte_ne hc) (Ev.pos (by omega) (Ev.pos (by omega) (Ev.eq_ ?_)))
      rw [List.dropWhile_cons_of_neg (by simpa using hc), Int.toNat_natCast, Int.toNat_natCast, mk_ext, h]
      congr 2
      rw [show p.length + (t.length + 1) = (p ++ c :: t).length by simp, show p ++ (c :: t ++ q) = (p ++ c :: t) ++ q by simp, List.take_left, List.drop_left]
theorem digits_l0 (l : Bs) (hl : l.length < 4611686018427387904) (from_ : Bs) : ∀ (t d : Bs), l = from_ ++ (d ++ t) → (∀ c ∈ d, dg c = true) →
    Ev (fun k => keelsonref2_digits.l0 k (mk l) (from_.length : Int) ((from_.length + d.length : Nat) : Int)) (mk ((d ++ t.takeWhile dg).dropWhile (· == 48)), ((from_.length + (d ++ t.takeWhile dg).length : Nat) : Int)) := by
  intro t
  induction t with
  | nil =>
    intro d h hd
    have hlen : l.length = from_.length + d.length := by rw [h]; simp
    refine Ev.shift ?_
    simp only [keelsonref2_digits.l0, mk_size, List.takeWhile_nil, List.append_nil]
    refine Ev.neg (by omega) (Ev.shift ?_)
    simp only [keelsonref2_digits.j1]
    exact digits_l1 l hl d from_ [] (by rw [h])
  | cons c t ih =>
    intro d h hd
    have hlen : l.length = from_.length + (d.length + (t.length + 1)) := by rw [h]; simp
    refine Ev.shift ?_
    simp only [keelsonref2_digits.l0, mk_size]
    have hbt : bt (mk l) ((from_.length + d.length : Nat) : Int) = (c.toNat : Int) := by
      rw [h, show from_.length + d.length = (from_ ++ d).length by simp, show from_ ++ (d ++ c :: t) = (from_ ++ d) ++ c :: t by simp, mk_bt_at]
    rw [hbt]
    refine Ev.pos (by omega) (Ev.pos (by omega) (Ev.bindc (Digit_r c) ?_))
    cases hc : dg c
    · refine Ev.neg (by simp) (Ev.shift ?_)
      simp only [keelsonref2_digits.j1]
      rw [List.takeWhile_cons_of_neg (by simp [hc]), List.append_nil]
      exact digits_l1 l hl d from_ (c :: t) (by rw [h])
    · refine Ev.pos rfl ?_
      rw [wrap_succ _ (by omega), List.takeWhile_cons_of_pos hc]
      have := ih (d ++ [c]) (by rw [h]; simp) (by intro x hx; rcases List.mem_append.1 hx with h | h; exact hd x h; rw [List.mem_singleton.1 h]; exact hc)
      simpa [Nat.add_assoc] using this
theorem digits_r (l : Bs) (hl : l.length < 4611686018427387904) (p t : Bs) (h : l = p ++ t) : Ev (fun k => keelsonref2_digits.f k (mk l) (p.length : Int)) (mk ((t.takeWhile dg).dropWhile (· == 48)), ((p.length + (t.takeWhile dg).length : Nat) : Int)) := by
  have := digits_l0 l hl p t [] (by rw [h]; simp) (by simp)
  simpa [keelsonref2_digits.f] using this
theorem numbers_r0 (a b : Bs) (ha : a.length < 4611686018427387904) (hb : b.length < 4611686018427387904) : keelsonref2_numbers.f (mk a) (mk b) = some (orI [cmpI (a.length : Int) (b.length : Int), sgS a b]) := by
  unfold keelsonref2_numbers.f orI sgS
  simp only [mk_size, mk_toList]
  by_cases h : (a.length : Int) = (b.length : Int)
  · rw [if_pos h, if_pos (cmpI_zero.2 h)]
    simp only [orI]
    (repeat' split) <;> first | rfl | simp_all
  · rw [if_neg h, if_neg (fun h2 => h (cmpI_zero.1 h2)), sign_r, wrap_in _ (by omega) (by omega)]
    simp only [Option.bind_some]
    congr 1
    unfold cmpI
    (repeat' split) <;> omega
end Go.Proofs.YtpjhaaifgiicoaaDoor.Pure
