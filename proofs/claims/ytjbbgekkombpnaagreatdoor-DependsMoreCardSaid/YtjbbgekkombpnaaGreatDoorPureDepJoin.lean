import Derived.Test.YtjbbgekkombpnaaGreatDoorPureDepTextRef
import Derived.Test.YtjbbgekkombpnaaGreatDoorPureDepShown
import Derived.Test.YtjbbgekkombpnaaGreatDoorPAx18
namespace Go.Proofs.YtjbbgekkombpnaaGreatDoor.Pure
open Go.RowKit Go.Proofs.YtjbbgekkombpnaaGreatDoor.PA Go.Proofs.YtjbbgekkombpnaaGreatDoorW.PrintWords Go.Proofs.YtjbbgekkombpnaaGreatDoorW.PrintLast Go.Proofs.YtjbbgekkombpnaaGreatDoorW.PrintMore
open Go.Lib (join joinTail)
theorem printS_len (x : S3) (h : smS x) : (printS x).length ≤ 4100 := by
  unfold printS printA
  split
  · unfold textA
    have h1 := bs_len x.f0
    have h2 := bs_len x.f2
    have h3 := sgn_len x.f1
    obtain ⟨a, b⟩ := h
    split
    · omega
    · simp only [List.length_append, List.length_cons, List.length_nil]; omega
  · simp
theorem joinTail_len (sep : Bs) (M : Nat) : ∀ r : List Bs, (∀ x ∈ r, x.length ≤ M) → (joinTail sep r).length ≤ r.length * (sep.length + M)
  | [], _ => by simp [joinTail]
  | x :: r, h => by
    have ih := joinTail_len sep M r (fun y hy => h y (by simp [hy]))
    have hx := h x (by simp)
    rw [joinTail_cons, List.length_append, List.length_append, List.length_cons, Nat.succ_mul]
    omega
theorem join_len (sep : Bs) (M : Nat) (r : List Bs) (h : ∀ x ∈ r, x.length ≤ M) : (join r sep).length ≤ r.length * (sep.length + M) := by
  cases r with
  | nil => simp [Lib.join_nil]
  | cons x r =>
    have h1 := joinTail_len sep M r (fun y hy => h y (by simp [hy]))
    have hx := h x (by simp)
    rw [Lib.join_cons, List.length_append, List.length_cons, Nat.succ_mul]
    omega
theorem textG_len (g : List S3) (hg : g.length ≤ 6) (hs : ∀ x ∈ g, smS x) : (textG g).length ≤ 30000 := by
  have := join_len [32, 124, 32] 4100 (g.map printS) (fun x hx => by obtain ⟨y, hy, rfl⟩ := List.mem_map.1 hx; exact printS_len y (hs y hy))
  rw [List.length_map] at this
  unfold textG
  simp only [List.length_cons, List.length_nil] at this
  omega
theorem rightL_len {l : List (List S3)} (h : rightL l = true) : l.length ≤ 12 ∧ ∀ g ∈ l, 1 ≤ g.length ∧ g.length ≤ 6 ∧ ∀ x ∈ g, rightS x = true := by
  unfold rightL at h
  rw [Bool.and_eq_true] at h
  refine ⟨of_decide_eq_true h.2, fun g hg => ?_⟩
  have := List.all_eq_true.1 h.1 g hg
  unfold rightG at this
  simp only [Bool.and_eq_true, decide_eq_true_eq] at this
  exact ⟨this.1.1, this.1.2, fun x hx => List.all_eq_true.1 this.2 x hx⟩
theorem textL_len (l : List (List S3)) (hl : l.length ≤ 12) (hg : ∀ g ∈ l, g.length ≤ 6) (hs : ∀ g ∈ l, ∀ x ∈ g, smS x) : (textL l).length ≤ 500000 := by
  have := join_len [44, 32] 30000 (l.map textG) (fun x hx => by obtain ⟨y, hy, rfl⟩ := List.mem_map.1 hx; exact textG_len y (hg y hy) (hs y hy))
  rw [List.length_map] at this
  unfold textL
  simp only [List.length_cons, List.length_nil] at this
  omega
structure SmL (l : List (List S3)) : Prop where
  len : l.length ≤ 40
  each : ∀ g ∈ l, g.length ≤ 40
  sm : ∀ g ∈ l, ∀ x ∈ g, smS x
theorem SmL.print {l : List (List S3)} (h : SmL l) : Ev (fun k => depends_Print.f k l) (Pure.mk (printL l)) :=
  DPrint_f l (by have := h.len; omega) (fun g hg => by have := h.each g hg; omega) h.sm (fun hr => ⟨fun g hg => by have := textG_len g ((rightL_len hr).2 g hg).2.1 (h.sm g hg); omega, by have := textL_len l (rightL_len hr).1 (fun g hg => ((rightL_len hr).2 g hg).2.1) h.sm; omega⟩)
def lightV (a : List S3) : Bool := decide (a.length ≤ 40) && a.all (fun x => decide (x.f0.size ≤ 100) && decide (x.f2.size ≤ 100))
theorem light_l0 (a : List S3) (hl : a.length ≤ 40) : ∀ (n i : Nat), n + i = a.length → Ev (fun k => keelsonlaw4_light.l0 k a (i : Int)) ((a.drop i).all (fun x => decide (x.f0.size ≤ 100) && decide (x.f2.size ≤ 100)))
  | 0, i, h => by
    rw [List.drop_of_length_le (by omega)]
    refine Ev.shift ?_
    simp only [keelsonlaw4_light.l0]
    exact Ev.neg (by omega) (Ev.some_ _)
  | n + 1, i, h => by
    have hi : i < a.length := by omega
    rw [List.drop_eq_getElem_cons hi, List.all_cons]
    refine Ev.shift ?_
    simp only [keelsonlaw4_light.l0, rdT a i hi]
    refine Ev.pos (by omega) (Ev.pos (by omega) ?_)
    by_cases h1 : (a[i].f0.size : Int) > 100
    · rw [decide_eq_false (show ¬ a[i].f0.size ≤ 100 by omega)]
      exact Ev.pos h1 (Ev.eq_ (by simp))
    · refine Ev.neg h1 ?_
      rw [decide_eq_true (show a[i].f0.size ≤ 100 by omega)]
      by_cases h2 : (a[i].f2.size : Int) > 100
      · rw [decide_eq_false (show ¬ a[i].f2.size ≤ 100 by omega)]
        exact Ev.pos h2 (Ev.eq_ (by simp))
      · rw [decide_eq_true (show a[i].f2.size ≤ 100 by omega), Bool.true_and, Bool.true_and, wrap_succ i (by omega)]
        exact Ev.neg h2 (light_l0 a hl n (i + 1) (by omega))
theorem light_f (a : List S3) : Ev (fun k => keelsonlaw4_light.f k a) (lightV a) := by
  simp only [keelsonlaw4_light.f]
  unfold lightV
  by_cases h : (a.length : Int) > 40
  · rw [decide_eq_false (show ¬ a.length ≤ 40 by omega)]
    exact Ev.pos h (Ev.eq_ (by simp))
  · rw [decide_eq_true (show a.length ≤ 40 by omega), Bool.true_and]
    refine Ev.neg h ?_
    have := light_l0 a (by omega) a.length 0 (by omega)
    simpa using this
theorem lightV_true {a : List S3} (h : lightV a = true) : a.length ≤ 40 ∧ ∀ x ∈ a, smS x := by
  unfold lightV at h
  rw [Bool.and_eq_true] at h
  refine ⟨of_decide_eq_true h.1, fun x hx => ?_⟩
  have := List.all_eq_true.1 h.2 x hx
  rw [Bool.and_eq_true] at this
  have h1 := of_decide_eq_true this.1
  have h2 := of_decide_eq_true this.2
  exact ⟨by omega, by omega⟩
def smallV (l : List (List S3)) : Bool := decide (l.length ≤ 40) && l.all lightV
theorem small_l0 (l : List (List S3)) (hl : l.length ≤ 40) : ∀ (n i : Nat), n + i = l.length → Ev (fun k => keelsonlaw4_small.l0 k l (i : Int)) ((l.drop i).all lightV)
  | 0, i, h => by
    rw [List.drop_of_length_le (by omega)]
    refine Ev.shift ?_
    simp only [keelsonlaw4_small.l0]
    exact Ev.neg (by omega) (Ev.some_ _)
  | n + 1, i, h => by
    have hi : i < l.length := by omega
    rw [List.drop_eq_getElem_cons hi, List.all_cons]
    refine Ev.shift ?_
    simp only [keelsonlaw4_small.l0, rdL l i hi]
    refine Ev.pos (by omega) (Ev.pos (by omega) (Ev.bind (light_f l[i]) ?_))
    cases lightV l[i] with
    | false => exact Ev.neg (by simp) (Ev.eq_ (by simp))
    | true =>
      refine Ev.pos rfl ?_
      rw [Bool.true_and, wrap_succ i (by omega)]
      exact small_l0 l hl n (i + 1) (by omega)
theorem small_g (l : List (List S3)) : Ev (fun k => keelsonlaw4_small.f k l) (smallV l) := by
  simp only [keelsonlaw4_small.f]
  unfold smallV
  by_cases h : (l.length : Int) > 40
  · rw [decide_eq_false (show ¬ l.length ≤ 40 by omega)]
    exact Ev.pos h (Ev.eq_ (by simp))
  · rw [decide_eq_true (show l.length ≤ 40 by omega), Bool.true_and]
    refine Ev.neg h ?_
    have := small_l0 l (by omega) l.length 0 (by omega)
    simpa using this
end Go.Proofs.YtjbbgekkombpnaaGreatDoor.Pure
