import Derived.Test.YtooomjcdlfdnmaaGreatDoorEntOrder
import Derived.Test.YtooomjcdlfdnmaaGreatDoorPAx12
import Derived.Test.YtooomjcdlfdnmaaGreatDoorPAx11
namespace Go.Proofs.YtooomjcdlfdnmaaGreatDoor.Ent
open Go Go.RowKit Go.Shelf Go.Proofs.YtooomjcdlfdnmaaGreatDoorW.PrintWords Go.Proofs.YtooomjcdlfdnmaaGreatDoor.PA Go.Proofs.YtooomjcdlfdnmaaGreatDoor.Pure
set_option linter.unusedVariables false
def lightV6 (a : List S27) : Bool := decide (a.length ≤ 20) && a.all (fun x => decide (x.f0.size ≤ 100) && decide (x.f2.size ≤ 100))
theorem light6_l0 (a : List S27) (hl : a.length ≤ 20) : ∀ (n i : Nat), n + i = a.length → Ev (fun k => keelsonlaw6_light.l0 k a (i : Int)) ((a.drop i).all (fun x => decide (x.f0.size ≤ 100) && decide (x.f2.size ≤ 100)))
  | 0, i, h => by
    rw [List.drop_of_length_le (by omega)]
    refine Ev.shift ?_
    simp only [keelsonlaw6_light.l0]
    exact Ev.neg (by omega) (Ev.some_ _)
  | n + 1, i, h => by
    have hi : i < a.length := by omega
    rw [List.drop_eq_getElem_cons hi, List.all_cons]
    refine Ev.shift ?_
    simp only [keelsonlaw6_light.l0, rdT a i hi]
    refine Ev.pos (by omega) (Ev.pos (by omega) ?_)
    by_cases h1 : (a[i].f0.size : Int) > 100
    · rw [decide_eq_false (show ¬ a[i].f0.size ≤ 100 by omega)]
      exact Ev.pos h1 (Ev.eq_ (by simp))
    · refine Ev.neg h1 ?_
      rw [decide_eq_true (show a[i].f0.size ≤ 100 by omega)]
      by_cases h2 : (a[i].f2.size : Int) > 100
      · rw [decide_eq_false (show ¬ a[i].f2.size ≤ 100 by omega)]
        exact Ev.pos h2 (Ev.eq_ (by simp))
      · rw [decide_eq_true (show a[i].f2.size ≤ 100 by omega), Bool.true_and, Bool.true_and, wrap_succ i (by omega)]
        exact Ev.neg h2 (light6_l0 a hl n (i + 1) (by omega))
theorem light6_f (a : List S27) : Ev (fun k => keelsonlaw6_light.f k a) (lightV6 a) := by
  simp only [keelsonlaw6_light.f]
  unfold lightV6
  by_cases h : (a.length : Int) > 20
  · rw [decide_eq_false (show ¬ a.length ≤ 20 by omega)]
    exact Ev.pos h (Ev.eq_ (by simp))
  · rw [decide_eq_true (show a.length ≤ 20 by omega), Bool.true_and]
    refine Ev.neg h ?_
    have := light6_l0 a (by omega) a.length 0 (by omega)
    simpa using this
theorem lightV6_true {a : List S27} (h : lightV6 a = true) : a.length ≤ 20 ∧ ∀ x ∈ a, smS x := by
  unfold lightV6 at h
  rw [Bool.and_eq_true] at h
  refine ⟨of_decide_eq_true h.1, fun x hx => ?_⟩
  have := List.all_eq_true.1 h.2 x hx
  rw [Bool.and_eq_true] at this
  have h1 := of_decide_eq_true this.1
  have h2 := of_decide_eq_true this.2
  exact ⟨by omega, by omega⟩
def smallV6 (e : E6) : Bool := lightV6 e.f4 && (lightV6 e.f5 && (decide (e.f0.size ≤ 100) && (decide (e.f1.size ≤ 100) && (decide (e.f2.length ≤ 15) && (decide (e.f3.length ≤ 15) && (e.f2.all lightV6 && e.f3.all lightV6))))))
theorem small6_l1 (e : E6) (hl : e.f3.length ≤ 15) : ∀ (n i : Nat), n + i = e.f3.length → Ev (fun k => keelsonlaw6_small.l1 k (i : Int) e.f0 e.f1 e.f2 e.f3 e.f4 e.f5) ((e.f3.drop i).all lightV6)
  | 0, i, h => by
    rw [List.drop_of_length_le (by omega)]
    refine Ev.shift ?_
    simp only [keelsonlaw6_small.l1]
    exact Ev.neg (by omega) (Ev.some_ _)
  | n + 1, i, h => by
    have hi : i < e.f3.length := by omega
    rw [List.drop_eq_getElem_cons hi, List.all_cons]
    refine Ev.shift ?_
    simp only [keelsonlaw6_small.l1, rdL e.f3 i hi]
    refine Ev.pos (by omega) (Ev.pos (by omega) (Ev.bind (light6_f _) ?_))
    cases lightV6 e.f3[i] with
    | false => exact Ev.neg (by simp) (Ev.eq_ (by simp))
    | true =>
      rw [Bool.true_and, wrap_succ i (by omega)]
      exact Ev.pos rfl (small6_l1 e hl n (i + 1) (by omega))
theorem small6_l0 (e : E6) (hl : e.f2.length ≤ 15) (hl3 : e.f3.length ≤ 15) : ∀ (n i : Nat), n + i = e.f2.length → Ev (fun k => keelsonlaw6_small.l0 k (i : Int) e.f0 e.f1 e.f2 e.f3 e.f4 e.f5) ((e.f2.drop i).all lightV6 && e.f3.all lightV6)
  | 0, i, h => by
    rw [List.drop_of_length_le (by omega)]
    refine Ev.shift ?_
    simp only [keelsonlaw6_small.l0]
    have := small6_l1 e hl3 e.f3.length 0 (by omega)
    rw [List.drop_zero] at this
    exact Ev.neg (by omega) (by simpa using this)
  | n + 1, i, h => by
    have hi : i < e.f2.length := by omega
    rw [List.drop_eq_getElem_cons hi, List.all_cons]
    refine Ev.shift ?_
    simp only [keelsonlaw6_small.l0, rdL e.f2 i hi]
    refine Ev.pos (by omega) (Ev.pos (by omega) (Ev.bind (light6_f _) ?_))
    cases lightV6 e.f2[i] with
    | false => exact Ev.neg (by simp) (Ev.eq_ (by simp))
    | true =>
      rw [Bool.true_and, wrap_succ i (by omega)]
      exact Ev.pos rfl (small6_l0 e hl hl3 n (i + 1) (by omega))
theorem small6_f (e : E6) : Ev (fun k => keelsonlaw6_small.f k e.f0 e.f1 e.f2 e.f3 e.f4 e.f5) (smallV6 e) := by
  have bad : Ev (fun k => keelsonlaw6_small.j0 k true e.f0 e.f1 e.f2 e.f3 e.f4 e.f5) false := by
    refine Ev.shift ?_
    simp only [keelsonlaw6_small.j0]
    exact Ev.pos trivial (Ev.some_ _)
  simp only [keelsonlaw6_small.f]
  unfold smallV6
  refine Ev.bind (light6_f e.f4) (Ev.bind (light6_f e.f5) ?_)
  cases lightV6 e.f4 with
  | false => exact Ev.neg (by simp) bad
  | true =>
    refine Ev.pos rfl ?_
    cases lightV6 e.f5 with
    | false => exact Ev.neg (by simp) bad
    | true =>
      refine Ev.pos rfl ?_
      simp only [Bool.true_and]
      by_cases h0 : (e.f0.size : Int) > 100
      · rw [decide_eq_false (show ¬ e.f0.size ≤ 100 by omega), Bool.false_and]; exact Ev.pos h0 bad
      refine Ev.neg h0 ?_
      rw [decide_eq_true (show e.f0.size ≤ 100 by omega), Bool.true_and]
      by_cases h1 : (e.f1.size : Int) > 100
      · rw [decide_eq_false (show ¬ e.f1.size ≤ 100 by omega), Bool.false_and]; exact Ev.pos h1 bad
      refine Ev.neg h1 ?_
      rw [decide_eq_true (show e.f1.size ≤ 100 by omega), Bool.true_and]
      by_cases h2 : (e.f2.length : Int) > 15
      · rw [decide_eq_false (show ¬ e.f2.length ≤ 15 by omega), Bool.false_and]; exact Ev.pos h2 bad
      refine Ev.neg h2 ?_
      rw [decide_eq_true (show e.f2.length ≤ 15 by omega), Bool.true_and]
      by_cases h3 : (e.f3.length : Int) > 15
      · rw [decide_eq_false (show ¬ e.f3.length ≤ 15 by omega), Bool.false_and, decide_eq_true h3]; exact bad
      rw [decide_eq_true (show e.f3.length ≤ 15 by omega), Bool.true_and, decide_eq_false h3]
      refine Ev.shift ?_
      simp only [keelsonlaw6_small.j0]
      have := small6_l0 e (by omega) (by omega) e.f2.length 0 (by omega)
      rw [List.drop_zero] at this
      exact Ev.neg (by simp) this
theorem smallV6_true {e : E6} (h : smallV6 e = true) : SmE e ∧ e.f5.length ≤ 20 := by
  unfold smallV6 at h
  simp only [Bool.and_eq_true, decide_eq_true_eq] at h
  obtain ⟨h4, h5, h0, h1, h2, h3, g2, g3⟩ := h
  have l4 := lightV6_true h4
  have l5 := lightV6_true h5
  have k2 := fun g hg => lightV6_true (List.all_eq_true.1 g2 g hg)
  have k3 := fun g hg => lightV6_true (List.all_eq_true.1 g3 g hg)
  exact ⟨⟨by omega, by omega, ⟨by omega, fun g hg => by have := (k2 g hg).1; omega, fun g hg => (k2 g hg).2⟩, ⟨by omega, fun g hg => by have := (k3 g hg).1; omega, fun g hg => (k3 g hg).2⟩, by omega, l4.2, by omega, l5.2⟩, l5.1⟩
theorem qb_small {w : World} (hG : GL w) {e : E6} {a : EA} (h : EC w e a) : QB w 14 #[.agg (ecs e a)] (.bool (smallV6 e)) := fun W hb => by
  obtain ⟨k, hk⟩ := small6_f e
  have h := h.below hb
  exact keelsonlaw6_small.calls k e.f0 e.f1 a.A2 a.c2 e.f2 a.A3 a.c3 e.f3 a.A4 a.c4 e.f4 a.A5 a.c5 e.f5 _ W (hG.below hb) h.r2 h.k2 h.r3 h.k3 h.r4 h.k4 h.r5 h.k5 (hk k (Nat.le_refl _))
theorem qb_light {w : World} (hG : GL w) {A : Option Addr} {c : Nat} {l : List S27} (hr : Kd.C KA w A l.length l) (hc : l.length ≤ c) : QB w 15 #[.slice A l.length c] (.bool (lightV6 l)) := fun W hb => by
  obtain ⟨k, hk⟩ := light6_f l
  have hk := hk k (Nat.le_refl _)
  refine (keelsonlaw6_light.calls k A c l _ W (hG.below hb) (Kd.C_below hr hb) hc hk).mono ?_
  rintro en w' ⟨h1, h2⟩
  exact ⟨h1, h2.below⟩
end Go.Proofs.YtooomjcdlfdnmaaGreatDoor.Ent
