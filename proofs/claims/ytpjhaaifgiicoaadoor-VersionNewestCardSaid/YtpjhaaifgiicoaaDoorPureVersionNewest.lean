import Derived.Test.YtpjhaaifgiicoaaDoorPureRef5
import Derived.Test.YtpjhaaifgiicoaaDoorPureVersionOrders
import Derived.Test.YtpjhaaifgiicoaaDoorPAx14
import Derived.Test.YtpjhaaifgiicoaaDoorPAx16
import Derived.Test.YtpjhaaifgiicoaaDoorPAx17
namespace Go.Proofs.YtpjhaaifgiicoaaDoor.Pure
open Go.RowKit Go.Proofs.YtpjhaaifgiicoaaDoor.PA Go.Proofs.YtpjhaaifgiicoaaDoorW.PrintWords Go.Proofs.YtpjhaaifgiicoaaDoorW.PrintLast Go.Proofs.YtpjhaaifgiicoaaDoorW.PrintMore
theorem three (A B C : Int) (hA : -1 ≤ A ∧ A ≤ 1) (hB : -1 ≤ B ∧ B ≤ 1) (z1 : A = 0 → C = B) (z2 : B = 0 → A = C) (t : A = -1 → B = -1 → C = -1) : (A = 0 ∧ C = B) ∨ (B = 0 ∧ C = A) ∨ (A = -1 ∧ B = -1 ∧ C = -1) ∨ (A = 1) ∨ (B = 1) := by
  by_cases h1 : A = 0
  · exact .inl ⟨h1, z1 h1⟩
  · by_cases h2 : B = 0
    · exact .inr (.inl ⟨h2, (z2 h2).symm⟩)
    · by_cases h3 : A = 1
      · exact .inr (.inr (.inr (.inl h3)))
      · by_cases h4 : B = 1
        · exact .inr (.inr (.inr (.inr h4)))
        · exact .inr (.inr (.inl ⟨by omega, by omega, t (by omega) (by omega)⟩))
theorem cmpI_three (a b c : Int) : (cmpI a b = 0 ∧ cmpI a c = cmpI b c) ∨ (cmpI b c = 0 ∧ cmpI a c = cmpI a b) ∨ (cmpI a b = -1 ∧ cmpI b c = -1 ∧ cmpI a c = -1) ∨ (cmpI a b = 1) ∨ (cmpI b c = 1) := by
  unfold cmpI; (repeat' split) <;> omega
theorem cmpT_three (a b c : Bs) : (cmpT a b = 0 ∧ cmpT a c = cmpT b c) ∨ (cmpT b c = 0 ∧ cmpT a c = cmpT a b) ∨ (cmpT a b = -1 ∧ cmpT b c = -1 ∧ cmpT a c = -1) ∨ (cmpT a b = 1) ∨ (cmpT b c = 1) := by
  have r1 := cmpT_range a b
  have r2 := cmpT_range b c
  exact three _ _ _ (by omega) (by omega) (fun h => lex_zero_l _ h) (fun h => lex_zero_r _ h) (fun h k => lex_trans h k)
theorem or_three (a b c : Int) : (a ≠ 0 ∧ orI [a, b, c] = a) ∨ (a = 0 ∧ b ≠ 0 ∧ orI [a, b, c] = b) ∨ (a = 0 ∧ b = 0 ∧ orI [a, b, c] = c) := by
  simp only [orI]; (repeat' split) <;> omega
theorem compareV_tr (e : Int) (u r : Bs) (e' : Int) (u' r' : Bs) (e'' : Int) (u'' r'' : Bs) (h1 : compareV e u r e' u' r' ≤ 0) (h2 : compareV e' u' r' e'' u'' r'' < 0) : compareV e u r e'' u'' r'' < 0 := by
  unfold compareV at *
  have a1 := cmpI_three e e' e''
  have a2 := cmpT_three u u' u''
  have a3 := cmpT_three r r' r''
  have o1 := or_three (cmpI e e') (cmpT u u') (cmpT r r')
  have o2 := or_three (cmpI e' e'') (cmpT u' u'') (cmpT r' r'')
  have o3 := or_three (cmpI e e'') (cmpT u u'') (cmpT r r'')
  generalize orI [cmpI e e', cmpT u u', cmpT r r'] = x at *
  generalize orI [cmpI e' e'', cmpT u' u'', cmpT r' r''] = y at *
  generalize orI [cmpI e e'', cmpT u u'', cmpT r r''] = z at *
  rcases o1 with o1 | o1 | o1 <;> rcases o2 with o2 | o2 | o2 <;> rcases o3 with o3 | o3 | o3 <;> rcases a1 with a1 | a1 | a1 | a1 | a1 <;> omega
theorem orderV_lt {x m i : Bs} (h1 : orderV x m ≤ 0) (h2 : orderV i m > 0) : orderV x i < 0 := by
  have h3 : orderV m i < 0 := by rw [orderV_flip]; omega
  unfold orderV at h1 h3 ⊢
  clear h2
  by_cases hx : (parseV x).2.2.2 = 0
  · rw [if_pos hx] at h1 ⊢
    by_cases hm : (parseV m).2.2.2 = 0
    · rw [if_pos hm] at h1 h3
      by_cases hi : (parseV i).2.2.2 = 0
      · rw [if_pos hi] at h3 ⊢
        exact compareV_tr _ _ _ _ _ _ _ _ _ h1 h3
      · rw [if_neg hi] at h3; omega
    · rw [if_neg hm] at h1; omega
  · rw [if_neg hx] at h1 ⊢
    by_cases hi : (parseV i).2.2.2 = 0
    · rw [if_pos hi]; omega
    · rw [if_neg hi] at h3
      rw [if_neg hi] at h3
      split at h3 <;> omega
def newV (l : List Bs) : Nat → Nat → Int → Int
  | 0, _, b => b
  | n + 1, i, b => if i < l.length then newV l n (i + 1) (if b < 0 then i else if orderV (l.getD i []) (l.getD b.toNat []) > 0 then i else b) else b
theorem rd_nat (l : List Bs) (i : Nat) (h : i < l.length) : rdOf ByteArray.empty (l.map mk) (i : Int) = mk (l.getD i []) := by
  unfold rdOf
  simp [h]
theorem new_f (l : List Bs) (hl : l.length < 1000) : ∀ (n i : Nat) (b : Int), l.length - i = n → i ≤ l.length → -1 ≤ b → b < l.length →
    Ev (fun k => version_Newest.l0 k (l.map mk) b (l.map mk) (l.length : Int) (i : Int)) (newV l n i b) := by
  intro n
  induction n with
  | zero =>
    intro i b hn hi _ _
    refine Ev.shift ?_
    simp only [version_Newest.l0]
    exact Ev.neg (by omega) (Ev.eq_ rfl)
  | succ n ih =>
    intro i b hn hi hb hb2
    have hlt : i < l.length := by omega
    refine Ev.shift ?_
    simp only [version_Newest.l0, List.length_map, newV]
    rw [if_pos hlt]
    refine Ev.pos (by omega) (Ev.pos (by omega) (Ev.pos (by omega) ?_))
    rw [wrap_succ _ (by omega)]
    by_cases h0 : b < 0
    · rw [if_pos h0]
      exact Ev.pos h0 (ih (i + 1) i (by omega) (by omega) (by omega) (by omega))
    · rw [if_neg h0]
      obtain ⟨m, rfl⟩ : ∃ m : Nat, b = m := ⟨b.toNat, by omega⟩
      refine Ev.neg h0 (Ev.pos (by omega) (Ev.pos (by omega) ?_))
      rw [rd_nat l i hlt, rd_nat l m (by omega), Int.toNat_natCast]
      refine Ev.bind (Order_f _ _) ?_
      by_cases h1 : orderV (l.getD i []) (l.getD m []) > 0
      · rw [if_pos h1]
        exact Ev.pos h1 (ih (i + 1) i (by omega) (by omega) (by omega) (by omega))
      · rw [if_neg h1]
        exact Ev.neg h1 (ih (i + 1) m (by omega) (by omega) hb hb2)
theorem new_r (l : List Bs) (hl : l.length < 1000) : ∀ (n i : Nat) (b : Int), l.length - i = n → i ≤ l.length → -1 ≤ b → b < l.length →
    Ev (fun k => keelsonref2_Newest.l0 k (l.map mk) b (i : Int)) (newV l n i b) := by
  intro n
  induction n with
  | zero =>
    intro i b hn hi _ _
    refine Ev.shift ?_
    simp only [keelsonref2_Newest.l0, List.length_map]
    exact Ev.neg (by omega) (Ev.eq_ rfl)
  | succ n ih =>
    intro i b hn hi hb hb2
    have hlt : i < l.length := by omega
    refine Ev.shift ?_
    simp only [keelsonref2_Newest.l0, List.length_map, newV]
    rw [if_pos hlt]
    refine Ev.pos (by omega) ?_
    rw [wrap_succ _ (by omega)]
    by_cases h0 : b < 0
    · rw [if_pos h0]
      exact Ev.pos h0 (ih (i + 1) i (by omega) (by omega) (by omega) (by omega))
    · rw [if_neg h0]
      obtain ⟨m, rfl⟩ : ∃ m : Nat, b = m := ⟨b.toNat, by omega⟩
      refine Ev.neg h0 (Ev.pos (by omega) (Ev.pos (by omega) (Ev.pos (by omega) ?_)))
      rw [rd_nat l i hlt, rd_nat l m (by omega), Int.toNat_natCast]
      refine Ev.bind (Order_r _ _) ?_
      by_cases h1 : orderV (l.getD i []) (l.getD m []) > 0
      · rw [if_pos h1]
        exact Ev.pos h1 (ih (i + 1) i (by omega) (by omega) (by omega) (by omega))
      · rw [if_neg h1]
        exact Ev.neg h1 (ih (i + 1) m (by omega) (by omega) hb hb2)
def bestV (l : List Bs) (i : Nat) (b : Int) : Prop := (b < 0 → i = 0) ∧ -1 ≤ b ∧ b < l.length ∧ (0 ≤ b → b < i ∧ ∀ j : Nat, j < i → orderV (l.getD j []) (l.getD b.toNat []) ≤ 0 ∧ ((j : Int) < b → orderV (l.getD j []) (l.getD b.toNat []) ≠ 0))
theorem best_new (l : List Bs) : ∀ (n i : Nat) (b : Int), l.length - i = n → i ≤ l.length → bestV l i b → bestV l l.length (newV l n i b) := by
  intro n
  induction n with
  | zero =>
    intro i b hn hi h
    obtain rfl : i = l.length := by omega
    exact h
  | succ n ih =>
    intro i b hn hi h
    have hlt : i < l.length := by omega
    simp only [newV]
    rw [if_pos hlt]
    obtain ⟨h1, h2, h3, h4⟩ := h
    refine ih (i + 1) _ (by omega) (by omega) ?_
    by_cases h0 : b < 0
    · rw [if_pos h0]
      have := h1 h0
      subst this
      refine ⟨by omega, by omega, by omega, fun _ => ⟨by omega, fun j hj => ?_⟩⟩
      obtain rfl : j = 0 := by omega
      exact ⟨by rw [show ((0 : Nat) : Int).toNat = 0 from rfl, orderV_self]; exact Int.le_refl _, by omega⟩
    · rw [if_neg h0]
      obtain ⟨m, rfl⟩ : ∃ m : Nat, b = m := ⟨b.toNat, by omega⟩
      obtain ⟨h5, h6⟩ := h4 (by omega)
      simp only [Int.toNat_natCast] at h6 ⊢
      by_cases hg : orderV (l.getD i []) (l.getD m []) > 0
      · rw [if_pos hg]
        refine ⟨by omega, by omega, by omega, fun _ => ⟨by omega, fun j hj => ?_⟩⟩
        rw [Int.toNat_natCast]
        by_cases hji : j = i
        · subst hji
          exact ⟨by rw [orderV_self]; exact Int.le_refl _, by omega⟩
        · have := (h6 j (by omega)).1
          have hlt := orderV_lt this hg
          exact ⟨by omega, fun _ => by omega⟩
      · rw [if_neg hg]
        refine ⟨by omega, by omega, h3, fun _ => ⟨by omega, fun j hj => ?_⟩⟩
        rw [Int.toNat_natCast]
        by_cases hji : j = i
        · subst hji
          exact ⟨by omega, by omega⟩
        · exact h6 j (by omega)
theorem law_l1 (l : List Bs) (hl : l.length < 1000) (m : Nat) (hm : m < l.length) (H : ∀ j : Nat, j < l.length → orderV (l.getD j []) (l.getD m []) ≤ 0 ∧ (j < m → orderV (l.getD j []) (l.getD m []) ≠ 0)) :
    ∀ (n i : Nat), l.length - i = n → i ≤ l.length → Ev (fun k => keelsonlaw2_VersionNewest.l1 k (l.map mk) (m : Int) (i : Int)) true := by
  intro n
  induction n with
  | zero =>
    intro i hn hi
    refine Ev.shift ?_
    simp only [keelsonlaw2_VersionNewest.l1, List.length_map]
    exact Ev.neg (by omega) (Ev.eq_ rfl)
  | succ n ih =>
    intro i hn hi
    have hlt : i < l.length := by omega
    refine Ev.shift ?_
    simp only [keelsonlaw2_VersionNewest.l1, List.length_map]
    rw [rd_nat l i hlt, rd_nat l m hm, wrap_succ _ (by omega)]
    obtain ⟨h1, h2⟩ := H i hlt
    refine Ev.pos (by omega) (Ev.pos (by omega) (Ev.pos (by omega) (Ev.pos (by omega) (Ev.bind (Order_f _ _) (Ev.neg (by omega) ?_)))))
    by_cases h3 : i < m
    · exact Ev.pos (by omega) (Ev.bind (Order_f _ _) (Ev.neg (h2 h3) (ih (i + 1) (by omega) (by omega))))
    · exact Ev.neg (by omega) (ih (i + 1) (by omega) (by omega))
theorem law_l0 (l : List Bs) (hl : l.length < 1000) : ∀ (n i : Nat), l.length - i = n → i ≤ l.length → Ev (fun k => keelsonlaw2_VersionNewest.l0 k (l.map mk) (i : Int)) true := by
  intro n
  induction n with
  | zero =>
    intro i hn hi
    refine Ev.shift ?_
    simp only [keelsonlaw2_VersionNewest.l0, List.length_map]
    refine Ev.neg (by omega) ?_
    have hf := new_f l hl l.length 0 (-1) (by omega) (by omega) (by omega) (by omega)
    have hr := new_r l hl l.length 0 (-1) (by omega) (by omega) (by omega) (by omega)
    have hb := best_new l l.length 0 (-1) (by omega) (by omega) ⟨fun _ => rfl, by omega, by omega, by omega⟩
    have ef : Ev (fun k => version_Newest.f k (l.map mk)) (newV l l.length 0 (-1)) := by
      simp only [version_Newest.f, List.length_map]; exact hf
    have er : Ev (fun k => keelsonref2_Newest.f k (l.map mk)) (newV l l.length 0 (-1)) := by
      simp only [keelsonref2_Newest.f]; exact hr
    refine Ev.bind ef (Ev.bind er (Ev.pos rfl ?_))
    generalize newV l l.length 0 (-1) = b at *
    obtain ⟨h1, h2, h3, h4⟩ := hb
    have hj : ((decide (b < 0)) != ((l.length : Int) == 0)) = false := by
      by_cases h0 : b < 0
      · have := h1 h0
        rw [decide_eq_true h0, this]; rfl
      · have h5 : (((l.length : Int) == 0)) = false := by rw [beq_eq_false_iff_ne]; omega
        rw [decide_eq_false h0, h5]; rfl
    rw [hj]
    refine Ev.shift ?_
    simp only [keelsonlaw2_VersionNewest.j2]
    refine Ev.neg (by simp) ?_
    by_cases h0 : b < 0
    · have h5 := h1 h0
      refine Ev.shift ?_
      simp only [keelsonlaw2_VersionNewest.l1, List.length_map]
      exact Ev.neg (by omega) (Ev.eq_ rfl)
    · obtain ⟨m, rfl⟩ : ∃ m : Nat, b = m := ⟨b.toNat, by omega⟩
      obtain ⟨h5, h6⟩ := h4 (by omega)
      rw [Int.toNat_natCast] at h6
      exact law_l1 l hl m (by omega) (fun j hj => ⟨(h6 j hj).1, fun h => (h6 j hj).2 (by omega)⟩) l.length 0 (by omega) (by omega)
  | succ n ih =>
    intro i hn hi
    have hlt : i < l.length := by omega
    refine Ev.shift ?_
    simp only [keelsonlaw2_VersionNewest.l0, List.length_map]
    rw [rd_nat l i hlt, wrap_succ _ (by omega), mk_size]
    refine Ev.pos (by omega) (Ev.pos (by omega) ?_)
    by_cases h : ((l.getD i []).length : Int) > 200
    · exact Ev.pos h (Ev.eq_ rfl)
    · exact Ev.neg h (ih (i + 1) (by omega) (by omega))
theorem VersionNewest (a : List ByteArray) {P : Prop} (_ : P) : ∃ k, keelsonlaw2_VersionNewest.f k a = some true := by
  obtain ⟨l, rfl⟩ : ∃ l : List Bs, a = l.map mk := ⟨a.map fun s => s.data.toList, by rw [List.map_map]; symm; exact (List.map_congr_left (g := id) (fun s _ => mk_data s)).trans (by simp)⟩
  have j0 : ∀ c : Bool, (c = false → l.length ≤ 300) → Ev (fun k => keelsonlaw2_VersionNewest.j0 k (l.map mk) true c) true := by
    intro c hc
    refine Ev.shift ?_
    simp only [keelsonlaw2_VersionNewest.j0]
    cases c
    · have := hc rfl
      exact Ev.neg (by simp) (law_l0 l (by omega) l.length 0 (by omega) (by omega))
    · exact Ev.pos rfl (Ev.eq_ rfl)
  have main : Ev (fun k => keelsonlaw2_VersionNewest.f k (l.map mk)) true := by
    simp only [keelsonlaw2_VersionNewest.f, List.length_map]
    refine Ev.bind shown_ev (Ev.pos rfl (j0 _ fun h => ?_))
    have := of_decide_eq_false h
    omega
  exact main.rounds
end Go.Proofs.YtpjhaaifgiicoaaDoor.Pure
