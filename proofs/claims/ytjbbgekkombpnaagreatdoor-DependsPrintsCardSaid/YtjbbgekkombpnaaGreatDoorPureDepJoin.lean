import Derived.Test.YtjbbgekkombpnaaGreatDoorPureDepTextRef
import Derived.Test.YtjbbgekkombpnaaGreatDoorPureDepShown
import Derived.Test.YtjbbgekkombpnaaGreatDoorPAx18
namespace Go.Proofs.YtjbbgekkombpnaaGreatDoor.Pure
open Go.RowKit Go.Proofs.YtjbbgekkombpnaaGreatDoor.PA Go.Proofs.YtjbbgekkombpnaaGreatDoorW.PrintWords Go.Proofs.YtjbbgekkombpnaaGreatDoorW.PrintLast Go.Proofs.YtjbbgekkombpnaaGreatDoorW.PrintMore
open Go.Lib (join joinTail)
theorem printS_len (x : S3) (h : smS x) : (printS x).length ≤ 300 := by
  unfold printS printA
  split
  · unfold textA
    have h1 := bs_len x.f0
    have h2 := bs_len x.f2
    have h3 := sgn_len x.f1
    obtain ⟨a, b⟩ := h
    split
    · omega
    · simp only [List.length_append, List.length_cons, List.length_nil]; omega
  · simp
theorem joinTail_len (sep : Bs) (M : Nat) : ∀ r : List Bs, (∀ x ∈ r, x.length ≤ M) → (joinTail sep r).length ≤ r.length * (sep.length + M)
  | [], _ => by simp [joinTail]
  | x :: r, h => by
    have ih := joinTail_len sep M r (fun y hy => h y (by simp [hy]))
    have hx := h x (by simp)
    rw [joinTail_cons, List.length_append, List.length_append, List.length_cons, Nat.succ_mul]
    omega
theorem join_len (sep : Bs) (M : Nat) (r : List Bs) (h : ∀ x ∈ r, x.length ≤ M) : (join r sep).length ≤ r.length * (sep.length + M) := by
  cases r with
  | nil => simp [Lib.join_nil]
  | cons x r =>
    have h1 := joinTail_len sep M r (fun y hy => h y (by simp [hy]))
    have hx := h x (by simp)
    rw [Lib.join_cons, List.length_append, List.length_cons, Nat.succ_mul]
    omega
theorem textG_len (g : List S3) (hg : g.length ≤ 40) (hs : ∀ x ∈ g, smS x) : (textG g).length ≤ 12200 := by
  have := join_len [32, 124, 32] 300 (g.map printS) (fun x hx => by obtain ⟨y, hy, rfl⟩ := List.mem_map.1 hx; exact printS_len y (hs y hy))
  rw [List.length_map] at this
  unfold textG
  simp only [List.length_cons, List.length_nil] at this
  omega
theorem textL_len (l : List (List S3)) (hl : l.length ≤ 40) (hg : ∀ g ∈ l, g.length ≤ 40) (hs : ∀ g ∈ l, ∀ x ∈ g, smS x) : (textL l).length ≤ 500000 := by
  have := join_len [44, 32] 12200 (l.map textG) (fun x hx => by obtain ⟨y, hy, rfl⟩ := List.mem_map.1 hx; exact textG_len y (hg y hy) (hs y hy))
  rw [List.length_map] at this
  unfold textL
  simp only [List.length_cons, List.length_nil] at this
  omega
structure SmL (l : List (List S3)) : Prop where
  len : l.length ≤ 40
  each : ∀ g ∈ l, g.length ≤ 40
  sm : ∀ g ∈ l, ∀ x ∈ g, smS x
theorem SmL.print {l : List (List S3)} (h : SmL l) : Ev (fun k => depends_Print.f k l) (Pure.mk (printL l)) :=
  DPrint_f l (by have := h.len; omega) (fun g hg => by have := h.each g hg; omega) h.sm (fun _ => ⟨fun g hg => by have := textG_len g (h.each g hg) (h.sm g hg); omega, by have := textL_len l h.len h.each h.sm; omega⟩)
theorem SmL.printr {l : List (List S3)} (h : SmL l) : Ev (fun k => keelsonref4_Print.f k l) (Pure.mk (printL l)) :=
  RPrint_f l (by have := h.len; omega) (fun g hg => by have := h.each g hg; omega) h.sm (fun _ => by have := textL_len l h.len h.each h.sm; omega)
theorem SmL.right {l : List (List S3)} (h : SmL l) : Ev (fun k => depends_Right.f k l) (rightL l) :=
  DRight_f l (by have := h.len; omega) (fun g hg => by have := h.each g hg; omega) h.sm
theorem SmL.rightr {l : List (List S3)} (h : SmL l) : Ev (fun k => keelsonref4_Right.f k l) (rightL l) :=
  RRight_f l (by have := h.len; omega) (fun g hg => by have := h.each g hg; omega) h.sm
def ones (a : List S3) : List (List S3) := a.map (fun x => [x])
theorem ones_take {a : List S3} {i : Nat} (hi : i < a.length) : ones (a.take (i + 1)) = ones (a.take i) ++ [[a[i]]] := by
  unfold ones
  rw [List.take_add_one, List.getElem?_eq_getElem hi, List.map_append]
  rfl
theorem ones_sm {a : List S3} (hl : a.length ≤ 40) (hs : ∀ x ∈ a, smS x) : SmL (ones a) := by
  refine ⟨by simp [ones, hl], fun g hg => ?_, fun g hg x hx => ?_⟩
  · obtain ⟨y, _, rfl⟩ := List.mem_map.1 hg; simp
  · obtain ⟨y, hy, rfl⟩ := List.mem_map.1 hg
    obtain rfl := List.mem_singleton.1 hx
    exact hs _ hy
theorem DJoin_l0 (a : List S3) (hl : a.length ≤ 40) (hs : ∀ x ∈ a, smS x) : ∀ (n i : Nat) (acc : List (List S3)), n + i = a.length → acc = ones (a.take i) → Ev (fun k => depends_Join.l0 k acc a (a.length : Int) (i : Int)) (mk (printL (ones a)))
  | 0, i, acc, h, hacc => by
    rw [List.take_of_length_le (by omega)] at hacc
    subst hacc
    refine Ev.shift ?_
    simp only [depends_Join.l0]
    exact Ev.neg (by omega) (Ev.bind (ones_sm hl hs).print (Ev.some_ _))
  | n + 1, i, acc, h, hacc => by
    have hi : i < a.length := by omega
    refine Ev.shift ?_
    simp only [depends_Join.l0, rdT a i hi]
    have hal : acc.length < 5864062014805 := by rw [hacc]; simp [ones]; omega
    refine Ev.pos (by omega) (Ev.pos (by omega) (Ev.pos (by omega) (Ev.pos hal ?_)))
    rw [wrap_succ i (by omega)]
    refine DJoin_l0 a hl hs n (i + 1) _ (by omega) ?_
    rw [hacc, ones_take hi]
theorem DJoin_f (a : List S3) (hl : a.length ≤ 40) (hs : ∀ x ∈ a, smS x) : Ev (fun k => depends_Join.f k a) (mk (printL (ones a))) := by
  simp only [depends_Join.f]
  exact DJoin_l0 a hl hs a.length 0 [] (by omega) rfl
theorem RJoin_l0 (a : List S3) (hl : a.length ≤ 40) (hs : ∀ x ∈ a, smS x) : ∀ (n i : Nat) (acc : List (List S3)), n + i = a.length → acc = ones (a.take i) → Ev (fun k => keelsonref4_Join.l0 k a acc (i : Int)) (mk (printL (ones a)))
  | 0, i, acc, h, hacc => by
    rw [List.take_of_length_le (by omega)] at hacc
    subst hacc
    refine Ev.shift ?_
    simp only [keelsonref4_Join.l0]
    exact Ev.neg (by omega) (Ev.bind (ones_sm hl hs).printr (Ev.some_ _))
  | n + 1, i, acc, h, hacc => by
    have hi : i < a.length := by omega
    refine Ev.shift ?_
    simp only [keelsonref4_Join.l0, rdT a i hi]
    have hal : acc.length < 5864062014805 := by rw [hacc]; simp [ones]; omega
    refine Ev.pos (by omega) (Ev.pos (by omega) (Ev.pos hal ?_))
    rw [wrap_succ i (by omega)]
    refine RJoin_l0 a hl hs n (i + 1) _ (by omega) ?_
    rw [hacc, ones_take hi]
theorem RJoin_f (a : List S3) (hl : a.length ≤ 40) (hs : ∀ x ∈ a, smS x) : Ev (fun k => keelsonref4_Join.f k a) (mk (printL (ones a))) := by
  simp only [keelsonref4_Join.f]
  exact RJoin_l0 a hl hs a.length 0 [] (by omega) rfl
def lightV (a : List S3) : Bool := decide (a.length ≤ 40) && a.all (fun x => decide (x.f0.size ≤ 100) && decide (x.f2.size ≤ 100))
theorem light_l0 (a : List S3) (hl : a.length ≤ 40) : ∀ (n i : Nat), n + i = a.length → Ev (fun k => keelsonlaw4_light.l0 k a (i : Int)) ((a.drop i).all (fun x => decide (x.f0.size ≤ 100) && decide (x.f2.size ≤ 100)))
  | 0, i, h => by
    rw [List.drop_of_length_le (by omega)]
    refine Ev.shift ?_
    simp only [keelsonlaw4_light.l0]
    exact Ev.neg (by omega) (Ev.some_ _)
  | n + 1, i, h => by
    have hi : i < a.length := by omega
    rw [List.drop_eq_getElem_cons hi, List.all_cons]
    refine Ev.shift ?_
    simp only [keelsonlaw4_light.l0, rdT a i hi]
    refine Ev.pos (by omega) (Ev.pos (by omega) ?_)
    by_cases h1 : (a[i].f0.size : Int) > 100
    · rw [decide_eq_false (show ¬ a[i].f0.size ≤ 100 by omega)]
      exact Ev.pos h1 (Ev.eq_ (by simp))
    · refine Ev.neg h1 ?_
      rw [decide_eq_true (show a[i].f0.size ≤ 100 by omega)]
      by_cases h2 : (a[i].f2.size : Int) > 100
      · rw [decide_eq_false (show ¬ a[i].f2.size ≤ 100 by omega)]
        exact Ev.pos h2 (Ev.eq_ (by simp))
      · rw [decide_eq_true (show a[i].f2.size ≤ 100 by omega), Bool.true_and, Bool.true_and, wrap_succ i (by omega)]
        exact Ev.neg h2 (light_l0 a hl n (i + 1) (by omega))
theorem light_f (a : List S3) : Ev (fun k => keelsonlaw4_light.f k a) (lightV a) := by
  simp only [keelsonlaw4_light.f]
  unfold lightV
  by_cases h : (a.length : Int) > 40
  · rw [decide_eq_false (show ¬ a.length ≤ 40 by omega)]
    exact Ev.pos h (Ev.eq_ (by simp))
  · rw [decide_eq_true (show a.length ≤ 40 by omega), Bool.true_and]
    refine Ev.neg h ?_
    have := light_l0 a (by omega) a.length 0 (by omega)
    simpa using this
theorem lightV_true {a : List S3} (h : lightV a = true) : a.length ≤ 40 ∧ ∀ x ∈ a, smS x := by
  unfold lightV at h
  rw [Bool.and_eq_true] at h
  refine ⟨of_decide_eq_true h.1, fun x hx => ?_⟩
  have := List.all_eq_true.1 h.2 x hx
  rw [Bool.and_eq_true] at this
  exact ⟨of_decide_eq_true this.1, of_decide_eq_true this.2⟩
def smallV (l : List (List S3)) : Bool := decide (l.length ≤ 40) && l.all lightV
theorem small_l0 (l : List (List S3)) (hl : l.length ≤ 40) : ∀ (n i : Nat), n + i = l.length → Ev (fun k => keelsonlaw4_small.l0 k l (i : Int)) ((l.drop i).all lightV)
  | 0, i, h => by
    rw [List.drop_of_length_le (by omega)]
    refine Ev.shift ?_
    simp only [keelsonlaw4_small.l0]
    exact Ev.neg (by omega) (Ev.some_ _)
  | n + 1, i, h => by
    have hi : i < l.length := by omega
    rw [List.drop_eq_getElem_cons hi, List.all_cons]
    refine Ev.shift ?_
    simp only [keelsonlaw4_small.l0, rdL l i hi]
    refine Ev.pos (by omega) (Ev.pos (by omega) (Ev.bind (light_f l[i]) ?_))
    cases lightV l[i] with
    | false => exact Ev.neg (by simp) (Ev.eq_ (by simp))
    | true =>
      refine Ev.pos rfl ?_
      rw [Bool.true_and, wrap_succ i (by omega)]
      exact small_l0 l hl n (i + 1) (by omega)
theorem small_g (l : List (List S3)) : Ev (fun k => keelsonlaw4_small.f k l) (smallV l) := by
  simp only [keelsonlaw4_small.f]
  unfold smallV
  by_cases h : (l.length : Int) > 40
  · rw [decide_eq_false (show ¬ l.length ≤ 40 by omega)]
    exact Ev.pos h (Ev.eq_ (by simp))
  · rw [decide_eq_true (show l.length ≤ 40 by omega), Bool.true_and]
    refine Ev.neg h ?_
    have := small_l0 l (by omega) l.length 0 (by omega)
    simpa using this
theorem smallV_true {l : List (List S3)} (h : smallV l = true) : SmL l := by
  unfold smallV at h
  rw [Bool.and_eq_true] at h
  have hg := fun g hg => lightV_true (List.all_eq_true.1 h.2 g hg)
  exact ⟨of_decide_eq_true h.1, fun g hm => (hg g hm).1, fun g hm => (hg g hm).2⟩
end Go.Proofs.YtjbbgekkombpnaaGreatDoor.Pure
