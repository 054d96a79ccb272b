import Derived.Test.YtjbbgekkombpnaaGreatDoorPureRef3
namespace Go.Proofs.YtjbbgekkombpnaaGreatDoor.Pure
open Go.RowKit Go.Proofs.YtjbbgekkombpnaaGreatDoor.PA Go.Proofs.YtjbbgekkombpnaaGreatDoorW.PrintWords Go.Proofs.YtjbbgekkombpnaaGreatDoorW.PrintLast Go.Proofs.YtjbbgekkombpnaaGreatDoorW.PrintMore
def tailV (u r : Bs) : Bs := u ++ (if r = [] then [] else 45 :: r)
def headV (e : Int) : Bs := if e = 0 then [] else Lib.itoa e ++ [58]
theorem textV_eq (e : Int) (u r : Bs) : textV e u r = headV e ++ tailV u r := rfl
theorem fin_eq (s b : Bs) (e : Int) (H : ∀ x : Bs, x.length ≤ b.length → ((headV e ++ x = s ∨ [48, 58] ++ (headV e ++ x) = s) ↔ x = b)) : finV e b = refUp s e b := by
  have yes : ∀ u r, tailV u r = b → refFin s e u r = if rightV e u r = true then (e, u, r, 0) else badV := by
    intro u r h
    unfold refFin
    have h1 := (H (tailV u r) (by rw [h]; exact Nat.le_refl _)).2 h
    rw [textV_eq]
    rcases h1 with h1 | h1
    · rw [if_pos h1]
    · rw [if_pos h1]
      split <;> first | rfl | (split <;> rfl)
  unfold finV refUp
  cases hl : lastAt 45 b with
  | none =>
    simp only []
    rw [yes b [] (by simp [tailV])]
  | some p =>
    obtain ⟨u, r⟩ := p
    obtain ⟨hb, hr⟩ := lastAt_some.1 hl
    simp only []
    by_cases h0 : r = []
    · subst h0
      rw [if_pos rfl]
      unfold refFin
      rw [textV_eq]
      have ht : tailV u [] = u := by simp [tailV]
      have hne : ¬ u = b := by intro h; have := congrArg List.length (h.trans hb); simp at this
      have h1 := mt (H u (by rw [hb]; simp)).1 hne
      rw [ht, if_neg (fun h => h1 (.inl h)), if_neg (fun h => h1 (.inr h))]
      split <;> rfl
    · rw [if_neg h0, yes u r (by simp [tailV, h0, hb])]
theorem bad_up (s b : Bs) (e : Int) (h : ¬ (0 ≤ e ∧ e ≤ 999999999)) : refUp s e b = badV ∧ finV e b = badV := by
  have hR : ∀ u r, rightV e u r = false := by
    intro u r
    cases hx : rightV e u r
    · rfl
    · exact absurd (rightV_e hx) h
  unfold refUp finV
  cases hl : lastAt 45 b with
  | none => simp [refFin, hR]
  | some p => simp [refFin, hR]
theorem parse_eq (s : Bs) : refParseV s = parseV s := by
  unfold refParseV parseV
  by_cases hs : s.length > 60
  · rw [if_pos hs, if_pos hs]
  · rw [if_neg hs, if_neg hs]
    cases hc : cutAt 58 s with
    | none =>
      have h58 := cutAt_none.1 hc
      refine (fin_eq s s 0 fun x _ => ?_).symm
      simp only [headV, if_true, List.nil_append]
      constructor
      · rintro (h | h)
        · exact h
        · exact absurd (by rw [← h]; simp) h58
      · intro h; exact .inl h
    | some p =>
      obtain ⟨ep, b⟩ := p
      obtain ⟨hsb, h58⟩ := cutAt_some.1 hc
      simp only []
      by_cases hn : ep.length ≤ 9 ∧ ep ≠ [] ∧ ep.all dg = true ∧ Lib.decDigits (val 0 ep) = ep
      · have hnum : numV ep = ((val 0 ep : Nat) : Int) := by unfold numV; rw [if_pos hn]
        have hat := atoi_digits ep (List.all_eq_true.1 hn.2.2.1) hn.2.1 hn.1
        rw [hat, hnum]
        simp only []
        rw [if_neg (by omega), itoa_nat, if_pos hn.2.2.2]
        refine (fin_eq s b _ fun x hx => ?_).symm
        by_cases h0 : val 0 ep = 0
        · have hep : ep = [48] := by
            rw [h0] at hn
            rw [← hn.2.2.2, Lib.decDigits]
            rfl
          simp only [headV, h0]
          subst hep
          constructor
          · rintro (h | h)
            · have := congrArg List.length (h.trans hsb)
              simp at this; omega
            · rw [hsb] at h
              simpa using h
          · rintro rfl
            exact .inr (by rw [hsb]; simp)
        · have hh : headV ((val 0 ep : Nat) : Int) = ep ++ [58] := by
            unfold headV
            rw [if_neg (by omega), itoa_nat, hn.2.2.2]
          rw [hh]
          constructor
          · rintro (h | h)
            · rw [hsb] at h
              simpa using h
            · exfalso
              have h1 : cutAt 58 s = some ([48], ep ++ 58 :: x) := cutAt_some.2 ⟨by rw [← h]; simp, by simp⟩
              rw [hc] at h1
              have h2 : ep = [48] := by
                have := Option.some.inj h1
                exact (Prod.mk.inj this).1
              exact h0 (by rw [h2]; rfl)
          · rintro rfl
            exact .inl (by rw [hsb]; simp)
      · have hnum : numV ep = -1 := by unfold numV; rw [if_neg hn]
        rw [hnum, (bad_up s b (-1) (by omega)).1]
        rcases hv : Lib.atoiAll ep with v | _ | _
        · simp only []
          by_cases hneg : v < 0
          · rw [if_pos hneg]
          · rw [if_neg hneg]
            by_cases hi : Lib.itoa v = ep
            · rw [if_pos hi]
              by_cases hbig : v ≤ 999999999
              · exfalso
                obtain ⟨n, rfl⟩ : ∃ n : Nat, v = n := ⟨v.toNat, by omega⟩
                rw [itoa_nat] at hi
                have := numV_of n (by omega)
                rw [hi, hnum] at this
                omega
              · rw [(bad_up s b v (by omega)).2]
            · rw [if_neg hi]
        · rfl
        · rfl
theorem Parse_r (s : Bs) : Ev (fun k => keelsonref2_Parse.f k (mk s)) (toB (parseV s)) := by
  rw [← parse_eq]; exact Parse_r0 s
end Go.Proofs.YtjbbgekkombpnaaGreatDoor.Pure
