import Derived.Test.YtpjhaaifgiicoaaDoorPureVersionParses
import Derived.Test.YtpjhaaifgiicoaaDoorPAx12
namespace Go.Proofs.YtpjhaaifgiicoaaDoor.Pure
open Go.RowKit Go.Proofs.YtpjhaaifgiicoaaDoor.PA Go.Proofs.YtpjhaaifgiicoaaDoorW.PrintWords Go.Proofs.YtpjhaaifgiicoaaDoorW.PrintLast Go.Proofs.YtpjhaaifgiicoaaDoorW.PrintMore
theorem parse_form (s : Bs) : (∃ e u r, parseV s = (e, u, r, 0) ∧ rightV e u r = true ∧ (textV e u r = s ∨ [48, 58] ++ textV e u r = s)) ∨ (∃ x, x ≠ 0 ∧ parseV s = (0, [], [], x)) := by
  rw [← parse_eq]
  have fin : ∀ e u r, (∃ e' u' r', refFin s e u r = (e', u', r', 0) ∧ rightV e' u' r' = true ∧ (textV e' u' r' = s ∨ [48, 58] ++ textV e' u' r' = s)) ∨ (∃ x, x ≠ 0 ∧ refFin s e u r = (0, [], [], x)) := by
    intro e u r
    unfold refFin
    by_cases h : rightV e u r = true
    · rw [if_pos h]
      by_cases h1 : textV e u r = s
      · rw [if_pos h1]; exact .inl ⟨e, u, r, rfl, h, .inl h1⟩
      · rw [if_neg h1]
        by_cases h2 : [48, 58] ++ textV e u r = s
        · rw [if_pos h2]; exact .inl ⟨e, u, r, rfl, h, .inr h2⟩
        · rw [if_neg h2]; exact .inr ⟨4, by decide, rfl⟩
    · rw [if_neg h]; exact .inr ⟨4, by decide, rfl⟩
  have up : ∀ e b, (∃ e' u' r', refUp s e b = (e', u', r', 0) ∧ rightV e' u' r' = true ∧ (textV e' u' r' = s ∨ [48, 58] ++ textV e' u' r' = s)) ∨ (∃ x, x ≠ 0 ∧ refUp s e b = (0, [], [], x)) := by
    intro e b
    unfold refUp
    cases lastAt 45 b with
    | none => exact fin e b []
    | some p => exact fin e p.1 p.2
  unfold refParseV
  split
  · exact .inr ⟨9, by decide, rfl⟩
  · cases cutAt 58 s with
    | none => exact up 0 s
    | some p => exact up _ p.2
theorem right_facts {e : Int} {u r : Bs} (h : rightV e u r = true) : u ≠ [] ∧ (45 ∈ u → r ≠ []) ∧ (58 ∈ u → e ≠ 0) ∧ 45 ∉ r ∧ 58 ∉ r ∧ (textV e u r).length ≤ 60 := by
  unfold rightV at h
  simp only [Bool.and_eq_true, decide_eq_true_eq, Bool.not_eq_true', Bool.and_eq_false_iff, decide_eq_false_iff_not] at h
  obtain ⟨⟨⟨⟨⟨⟨⟨_, _⟩, hf⟩, h45⟩, h58⟩, _⟩, hr⟩, hl⟩ := h
  rw [List.all_eq_true] at hr
  refine ⟨?_, ?_, ?_, ?_, ?_, hl⟩
  · rintro rfl; simp [fstDg] at hf
  · intro h; rcases h45 with h1 | h1
    · exact absurd h h1
    · exact h1
  · intro h; rcases h58 with h1 | h1
    · exact absurd h h1
    · exact h1
  · intro h; exact absurd (hr 45 h) (by decide)
  · intro h; exact absurd (hr 58 h) (by decide)
theorem fin_tail {e : Int} {u r : Bs} (h : rightV e u r = true) : finV e (tailV u r) = (e, u, r, 0) := by
  obtain ⟨_, h45, _, hr, _, _⟩ := right_facts h
  unfold finV tailV
  by_cases h0 : r = []
  · subst h0
    have hu : (45 : UInt8) ∉ u := fun h => h45 h rfl
    rw [if_pos rfl, List.append_nil, lastAt_none.2 hu]
    simp only []
    rw [if_pos h]
  · rw [if_neg h0, lastAt_some.2 ⟨rfl, hr⟩]
    simp only []
    rw [if_neg h0, if_pos h]
theorem parse_text {e : Int} {u r : Bs} (h : rightV e u r = true) : parseV (textV e u r) = (e, u, r, 0) := by
  obtain ⟨_, _, h58, _, hr58, hl⟩ := right_facts h
  have he := rightV_e h
  unfold parseV
  rw [if_neg (by omega), textV_eq]
  unfold headV
  by_cases h0 : e = 0
  · subst h0
    rw [if_pos rfl, List.nil_append]
    have : (58 : UInt8) ∉ tailV u r := by
      unfold tailV
      intro hm
      rcases List.mem_append.1 hm with h1 | h1
      · exact h58 h1 rfl
      · split at h1
        · simp at h1
        · rcases List.mem_cons.1 h1 with h2 | h2
          · exact absurd h2 (by decide)
          · exact hr58 h2
    rw [cutAt_none.2 this]
    exact fin_tail h
  · obtain ⟨n, rfl⟩ : ∃ n : Nat, e = n := ⟨e.toNat, by omega⟩
    have hi := itoa_nat n
    have hd := dec_all n
    have h1 : (58 : UInt8) ∉ Lib.itoa (n : Int) := by
      rw [hi]; intro hm; exact absurd (hd 58 hm) (by decide)
    rw [if_neg h0, List.append_assoc, List.singleton_append, cutAt_some.2 ⟨rfl, h1⟩]
    simp only []
    have hnum := numV_of n (by omega)
    have hn : (Lib.decDigits n).length ≤ 9 ∧ Lib.decDigits n ≠ [] := by
      unfold numV at hnum
      split at hnum
      · rename_i h2; exact ⟨h2.1, h2.2.1⟩
      · omega
    rw [hi, atoi_digits _ hd hn.2 hn.1, val_dec n n (Nat.le_refl _)]
    simp only []
    rw [if_neg (by omega), if_pos hi]
    exact fin_tail h
theorem lit48 : (⟨#[48, 58]⟩ : ByteArray) = mk [48, 58] := rfl
theorem printV_len (e : Int) (u r : Bs) : (printV e u r).length ≤ 60 := by
  unfold printV
  split
  · rename_i h; exact (right_facts h).2.2.2.2.2
  · simp
theorem VersionBack (a0 : ByteArray) (e : Int) (a1 a2 : ByteArray) {P Q R S : Prop} (_ : P) (_ : Q) (_ : R) (_ : S) : ∃ k, keelsonlaw2_VersionBack.f k a0 e a1 a2 = some true := by
  obtain ⟨s, rfl, -⟩ := mk_ex a0
  obtain ⟨u, rfl, -⟩ := mk_ex a1
  obtain ⟨r, rfl, -⟩ := mk_ex a2
  have main : Ev (fun k => keelsonlaw2_VersionBack.f k (mk s) e (mk u) (mk r)) true := by
    have j1 : u.length ≤ 500 → r.length ≤ 500 → Ev (fun k => keelsonlaw2_VersionBack.j1 k false e (mk u) (mk r)) true := by
      intro hu hr
      refine Ev.shift ?_
      simp only [keelsonlaw2_VersionBack.j1]
      refine Ev.neg (by simp) (Ev.bind (Print_f e u r (by omega) (by omega)) (Ev.bind (Parse_f _) (Ev.bind (Right_f e u r (by omega) (by omega)) ?_)))
      have hl := printV_len e u r
      cases h : rightV e u r
      · refine Ev.neg (by simp) (Ev.eq_ ?_)
        unfold printV
        rw [h, mk_toList]; simp
      · refine Ev.pos rfl ?_
        have hp : printV e u r = textV e u r := by unfold printV; rw [if_pos h]
        rw [hp] at hl ⊢
        rw [parse_text h]
        exact Ev.pos rfl (Ev.pos (by simp [toB]) (Ev.eq_ (by rw [mk_size]; exact decide_eq_true (show ((textV e u r).length : Int) ≤ 60 by omega))))
    have j0 : ∀ c : Bool, (c = false → s.length ≤ 500 ∧ u.length ≤ 500 ∧ r.length ≤ 500) → Ev (fun k => keelsonlaw2_VersionBack.j0 k (mk s) true c e (mk u) (mk r)) true := by
      intro c hc
      refine Ev.shift ?_
      simp only [keelsonlaw2_VersionBack.j0]
      cases c
      · obtain ⟨hs, hu, hr⟩ := hc rfl
        have hl := parseV_len s
        refine Ev.neg (by simp) (Ev.bind (Parse_f s) (Ev.bind (Print_f _ _ _ (by omega) (by omega)) ?_))
        rcases parse_form s with ⟨e', u', r', h1, h2, h3⟩ | ⟨x, hx, h1⟩
        · rw [h1]
          have hp : printV e' u' r' = textV e' u' r' := by unfold printV; rw [if_pos h2]
          have hl' := (right_facts h2).2.2.2.2.2
          simp only [toB, hp, mk_toList, mk_size, lit48, mk_app]
          refine Ev.pos trivial ?_
          by_cases h4 : textV e' u' r' = s
          · exact Ev.pos h4 (j1 hu hr)
          · refine Ev.neg h4 (Ev.pos (by omega) (Ev.pos (h3.resolve_left h4) (j1 hu hr)))
        · rw [h1]
          refine Ev.neg (by simpa [toB] using hx) ?_
          simpa [toB, mk_toList] using j1 hu hr
      · exact Ev.pos rfl (Ev.eq_ rfl)
    simp only [keelsonlaw2_VersionBack.f, mk_size]
    refine Ev.bind shown_ev (Ev.pos rfl ?_)
    by_cases h1 : (s.length : Int) > 500
    · exact Ev.pos h1 (j0 true (fun h => by cases h))
    · refine Ev.neg h1 ?_
      by_cases h2 : (u.length : Int) > 500
      · exact Ev.pos h2 (j0 true (fun h => by cases h))
      · refine Ev.neg h2 (j0 _ fun h => ?_)
        have := of_decide_eq_false h
        omega
  exact main.rounds
end Go.Proofs.YtpjhaaifgiicoaaDoor.Pure
