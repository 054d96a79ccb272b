import Derived.Test.YtooomjcdlfdnmaaGreatDoorPureDepTextRef
namespace Go.Proofs.YtooomjcdlfdnmaaGreatDoor.Pure
open Go.RowKit Go.Proofs.YtooomjcdlfdnmaaGreatDoor.PA Go.Proofs.YtooomjcdlfdnmaaGreatDoorW.PrintWords Go.Proofs.YtooomjcdlfdnmaaGreatDoorW.PrintLast Go.Proofs.YtooomjcdlfdnmaaGreatDoorW.PrintMore
open Go.Lib (join joinTail)
theorem printS_len (x : S3) (h : smS x) : (printS x).length ≤ 4100 := by
  unfold printS printA
  split
  · unfold textA
    have h1 := bs_len x.f0
    have h2 := bs_len x.f2
    have h3 := sgn_len x.f1
    obtain ⟨a, b⟩ := h
    split
    · omega
    · simp only [List.length_append, List.length_cons, List.length_nil]; omega
  · simp
theorem joinTail_len (sep : Bs) (M : Nat) : ∀ r : List Bs, (∀ x ∈ r, x.length ≤ M) → (joinTail sep r).length ≤ r.length * (sep.length + M)
  | [], _ => by simp [joinTail]
  | x :: r, h => by
    have ih := joinTail_len sep M r (fun y hy => h y (by simp [hy]))
    have hx := h x (by simp)
    rw [joinTail_cons, List.length_append, List.length_append, List.length_cons, Nat.succ_mul]
    omega
theorem join_len (sep : Bs) (M : Nat) (r : List Bs) (h : ∀ x ∈ r, x.length ≤ M) : (join r sep).length ≤ r.length * (sep.length + M) := by
  cases r with
  | nil => simp [Lib.join_nil]
  | cons x r =>
    have h1 := joinTail_len sep M r (fun y hy => h y (by simp [hy]))
    have hx := h x (by simp)
    rw [Lib.join_cons, List.length_append, List.length_cons, Nat.succ_mul]
    omega
theorem textG_len (g : List S3) (hg : g.length ≤ 6) (hs : ∀ x ∈ g, smS x) : (textG g).length ≤ 30000 := by
  have := join_len [32, 124, 32] 4100 (g.map printS) (fun x hx => by obtain ⟨y, hy, rfl⟩ := List.mem_map.1 hx; exact printS_len y (hs y hy))
  rw [List.length_map] at this
  unfold textG
  simp only [List.length_cons, List.length_nil] at this
  omega
theorem rightL_len {l : List (List S3)} (h : rightL l = true) : l.length ≤ 12 ∧ ∀ g ∈ l, 1 ≤ g.length ∧ g.length ≤ 6 ∧ ∀ x ∈ g, rightS x = true := by
  unfold rightL at h
  rw [Bool.and_eq_true] at h
  refine ⟨of_decide_eq_true h.2, fun g hg => ?_⟩
  have := List.all_eq_true.1 h.1 g hg
  unfold rightG at this
  simp only [Bool.and_eq_true, decide_eq_true_eq] at this
  exact ⟨this.1.1, this.1.2, fun x hx => List.all_eq_true.1 this.2 x hx⟩
theorem textL_len (l : List (List S3)) (hl : l.length ≤ 12) (hg : ∀ g ∈ l, g.length ≤ 6) (hs : ∀ g ∈ l, ∀ x ∈ g, smS x) : (textL l).length ≤ 500000 := by
  have := join_len [44, 32] 30000 (l.map textG) (fun x hx => by obtain ⟨y, hy, rfl⟩ := List.mem_map.1 hx; exact textG_len y (hg y hy) (hs y hy))
  rw [List.length_map] at this
  unfold textL
  simp only [List.length_cons, List.length_nil] at this
  omega
structure SmL (l : List (List S3)) : Prop where
  len : l.length ≤ 40
  each : ∀ g ∈ l, g.length ≤ 40
  sm : ∀ g ∈ l, ∀ x ∈ g, smS x
theorem SmL.print {l : List (List S3)} (h : SmL l) : Ev (fun k => depends_Print.f k l) (Pure.mk (printL l)) :=
  DPrint_f l (by have := h.len; omega) (fun g hg => by have := h.each g hg; omega) h.sm (fun hr => ⟨fun g hg => by have := textG_len g ((rightL_len hr).2 g hg).2.1 (h.sm g hg); omega, by have := textL_len l (rightL_len hr).1 (fun g hg => ((rightL_len hr).2 g hg).2.1) h.sm; omega⟩)
theorem SmL.right {l : List (List S3)} (h : SmL l) : Ev (fun k => depends_Right.f k l) (rightL l) :=
  DRight_f l (by have := h.len; omega) (fun g hg => by have := h.each g hg; omega) h.sm
def ones (a : List S3) : List (List S3) := a.map (fun x => [x])
theorem ones_take {a : List S3} {i : Nat} (hi : i < a.length) : ones (a.take (i + 1)) = ones (a.take i) ++ [[a[i]]] := by
  unfold ones
  rw [List.take_add_one, List.getElem?_eq_getElem hi, List.map_append]
  rfl
theorem ones_sm {a : List S3} (hl : a.length ≤ 40) (hs : ∀ x ∈ a, smS x) : SmL (ones a) := by
  refine ⟨by simp [ones, hl], fun g hg => ?_, fun g hg x hx => ?_⟩
  · obtain ⟨y, _, rfl⟩ := List.mem_map.1 hg; simp
  · obtain ⟨y, hy, rfl⟩ := List.mem_map.1 hg
    obtain rfl := List.mem_singleton.1 hx
    exact hs _ hy
theorem DJoin_l0 (a : List S3) (hl : a.length ≤ 40) (hs : ∀ x ∈ a, smS x) : ∀ (n i : Nat) (acc : List (List S3)), n + i = a.length → acc = ones (a.take i) → Ev (fun k => depends_Join.l0 k acc a (a.length : Int) (i : Int)) (mk (printL (ones a)))
  | 0, i, acc, h, hacc => by
    rw [List.take_of_length_le (by omega)] at hacc
    subst hacc
    refine Ev.shift ?_
    simp only [depends_Join.l0]
    exact Ev.neg (by omega) (Ev.bind (ones_sm hl hs).print (Ev.some_ _))
  | n + 1, i, acc, h, hacc => by
    have hi : i < a.length := by omega
    refine Ev.shift ?_
    simp only [depends_Join.l0, rdT a i hi]
    have hal : acc.length < 5864062014805 := by rw [hacc]; simp [ones]; omega
    refine Ev.pos (by omega) (Ev.pos (by omega) (Ev.pos (by omega) (Ev.pos hal ?_)))
    rw [wrap_succ i (by omega)]
    refine DJoin_l0 a hl hs n (i + 1) _ (by omega) ?_
    rw [hacc, ones_take hi]
theorem DJoin_f (a : List S3) (hl : a.length ≤ 40) (hs : ∀ x ∈ a, smS x) : Ev (fun k => depends_Join.f k a) (mk (printL (ones a))) := by
  simp only [depends_Join.f]
  exact DJoin_l0 a hl hs a.length 0 [] (by omega) rfl
end Go.Proofs.YtooomjcdlfdnmaaGreatDoor.Pure
