import Derived.Test.YtpjhaaifgiicoaaDoorPureRef4
namespace Go.Proofs.YtpjhaaifgiicoaaDoor.Pure
open Go.RowKit Go.Proofs.YtpjhaaifgiicoaaDoor.PA Go.Proofs.YtpjhaaifgiicoaaDoorW.PrintWords Go.Proofs.YtpjhaaifgiicoaaDoorW.PrintLast Go.Proofs.YtpjhaaifgiicoaaDoorW.PrintMore
theorem wtR_range (l : Bs) (i : Nat) : -1 ≤ wtRAt l i ∧ wtRAt l i ≤ 1256 := by
  unfold wtRAt
  split
  · rename_i c _
    have := c.toNat_lt
    unfold wtR
    (repeat' split) <;> omega
  · omega
theorem wtR_at (p : Bs) (t : Bs) : wtRAt (p ++ t) p.length = (match t with | [] => 0 | c :: _ => wtR c) := by
  unfold wtRAt
  cases t with
  | nil => simp
  | cons c t => simp
theorem hd_nd : ∀ (t : Bs), (match t with | [] => false | c :: _ => !dg c) = false → t.takeWhile nd = []
  | [], _ => rfl
  | c :: t, h => by
    have : dg c = true := by simpa using h
    rw [List.takeWhile_cons_of_neg (nd_not this)]
theorem both_dg (x y : Bs) (hx : x.takeWhile nd = []) (hy : y.takeWhile nd = []) : cmpT x y = if cmpI (val 0 (x.takeWhile dg)) (val 0 (y.takeWhile dg)) = 0 then cmpT (x.dropWhile dg) (y.dropWhile dg) else cmpI (val 0 (x.takeWhile dg)) (val 0 (y.takeWhile dg)) := by
  unfold cmpT
  rw [lex_zero_l _ (keyW_digits x hx), lex_zero_r _ (keyW_digits y hy), lex_cc, if_pos (cmpI_self _), lex_cc]
theorem numbers_r (x y : Bs) (hx : ∀ c ∈ x, dg c = true) (hy : ∀ c ∈ y, dg c = true) (lx : x.length < 4611686018427387904) (ly : y.length < 4611686018427387904) :
    keelsonref2_numbers.f (mk (x.dropWhile (· == 48))) (mk (y.dropWhile (· == 48))) = some (cmpI (val 0 x) (val 0 y)) := by
  have h1 := (List.dropWhile_suffix (l := x) (· == 48)).length_le
  have h2 := (List.dropWhile_suffix (l := y) (· == 48)).length_le
  rw [numbers_r0 _ _ (by omega) (by omega), nums x y hx hy]
def needT (x y : Bs) : Bool := (match x with | [] => false | c :: _ => !dg c) || (match y with | [] => false | c :: _ => !dg c)
theorem textR (a b : Bs) (ha : a.length < 2000000000000000000) (hb : b.length < 2000000000000000000) : ∀ (n : Nat) (x y p q : Bs), x.length + y.length ≤ n → a = p ++ x → b = q ++ y →
    Ev (fun k => keelsonref2_CompareText.l1 k (mk a) (mk b) (p.length : Int) (q.length : Int)) (cmpT x y) ∧
    Ev (fun k => keelsonref2_CompareText.l0 k (mk a) (mk b) (p.length : Int) (q.length : Int)) (cmpT x y) := by
  intro n
  induction n with
  | zero =>
    intro x y p q h h1 h2
    obtain rfl : x = [] := List.length_eq_zero_iff.1 (by omega)
    obtain rfl : y = [] := List.length_eq_zero_iff.1 (by omega)
    have la : a.length = p.length := by rw [h1]; simp
    have lb : b.length = q.length := by rw [h2]; simp
    have e0 : Ev (fun k => keelsonref2_CompareText.l0 k (mk a) (mk b) (p.length : Int) (q.length : Int)) (cmpT [] []) := by
      refine Ev.shift ?_
      simp only [keelsonref2_CompareText.l0, mk_size]
      refine Ev.neg (by omega) (Ev.shift ?_)
      simp only [keelsonref2_CompareText.j1]
      exact Ev.neg (by simp; omega) (Ev.eq_ rfl)
    refine ⟨?_, e0⟩
    refine Ev.shift ?_
    simp only [keelsonref2_CompareText.l1, mk_size]
    refine Ev.neg (by omega) (Ev.neg (by omega) (Ev.shift ?_))
    simp only [keelsonref2_CompareText.j3]
    refine Ev.neg (by simp) ?_
    have d1 := digits_r a (by omega) p [] h1
    have d2 := digits_r b (by omega) q [] h2
    refine Ev.bind d1 (Ev.bind d2 (Ev.bindc (numbers_r [] [] (by simp) (by simp) (by simp) (by simp)) (Ev.pos rfl ?_)))
    simpa using e0
  | succ n ih =>
    intro x y p q h h1 h2
    have la : a.length = p.length + x.length := by rw [h1]; simp
    have lb : b.length = q.length + y.length := by rw [h2]; simp
    have j3 : Ev (fun k => keelsonref2_CompareText.j3 k (mk a) (mk b) (p.length : Int) (q.length : Int) (needT x y)) (cmpT x y) := by
      refine Ev.shift ?_
      simp only [keelsonref2_CompareText.j3]
      cases hn : needT x y
      · refine Ev.neg (by simp) ?_
        unfold needT at hn
        rw [Bool.or_eq_false_iff] at hn
        have nx := hd_nd x hn.1
        have ny := hd_nd y hn.2
        have tx := (List.takeWhile_prefix (l := x) dg).length_le
        have ty := (List.takeWhile_prefix (l := y) dg).length_le
        refine Ev.bind (digits_r a (by omega) p x h1) (Ev.bind (digits_r b (by omega) q y h2) (Ev.bindc (numbers_r _ _ (all_dg x) (all_dg y) (by omega) (by omega)) ?_))
        rw [both_dg x y nx ny]
        by_cases hc : cmpI (val 0 (x.takeWhile dg) : Int) (val 0 (y.takeWhile dg)) = 0
        · rw [if_pos hc]
          refine Ev.pos hc ?_
          have ex : x = x.takeWhile dg ++ x.dropWhile dg := List.takeWhile_append_dropWhile.symm
          have ey : y = y.takeWhile dg ++ y.dropWhile dg := List.takeWhile_append_dropWhile.symm
          have ex' := congrArg List.length ex
          have ey' := congrArg List.length ey
          rw [List.length_append] at ex' ey'
          by_cases hz : (x.takeWhile dg).length + (y.takeWhile dg).length = 0
          · have zx : x = [] := by
              cases x with
              | nil => rfl
              | cons c t =>
                have hd : dg c = true := by simpa using hn.1
                rw [List.takeWhile_cons_of_pos hd] at hz; simp at hz
            have zy : y = [] := by
              cases y with
              | nil => rfl
              | cons c t =>
                have hd : dg c = true := by simpa using hn.2
                rw [List.takeWhile_cons_of_pos hd] at hz; simp at hz
            subst zx; subst zy
            have := (ih [] [] p q (by simp) h1 h2).2
            simpa using this
          · have := (ih (x.dropWhile dg) (y.dropWhile dg) (p ++ x.takeWhile dg) (q ++ y.takeWhile dg) (by omega) (by rw [List.append_assoc, ← ex]; exact h1) (by rw [List.append_assoc, ← ey]; exact h2)).2
            rw [List.length_append, List.length_append] at this
            exact this
        · rw [if_neg hc]
          exact Ev.neg hc (Ev.some_ _)
      · refine Ev.pos rfl ?_
        have r1 := wtR_range a p.length
        have r2 := wtR_range b q.length
        refine Ev.bind (weight_r a p.length (by omega)) (Ev.bind (weight_r b q.length (by omega)) (Ev.bindc (sign_r _) ?_))
        rw [wrap_in _ (by omega) (by omega), h1, h2, wtR_at, wtR_at, ← h1, ← h2]
        have stop : ∀ w : Int, w ≠ 0 → cmpT x y = w → Ev (fun k => if w = 0 then keelsonref2_CompareText.l1 k (mk a) (mk b) (wrap64 ((p.length : Int) + 1)) (wrap64 ((q.length : Int) + 1)) else some w) (cmpT x y) := by
          intro w hw hc
          rw [hc]
          exact Ev.neg hw (Ev.some_ _)
        cases x with
        | nil =>
          cases y with
          | nil => simp [needT] at hn
          | cons d t =>
            have hd : dg d = false := by simpa [needT] using hn
            have w1 := wt_one d hd
            have wn : cmpI 0 (wt d) ≠ 0 := by rw [cmpI_flip]; have := w1.2.2; omega
            refine stop _ (by rw [w1.2.1]; exact wn) ?_
            rw [w1.2.1]
            unfold cmpT
            rw [keyW_nil, keyW_c, if_neg (dg_not hd), lex_nc, if_neg wn]
        | cons c s =>
          cases hc : dg c
          · have w1 := wt_one c hc
            cases y with
            | nil =>
              refine stop _ (by rw [w1.1]; exact w1.2.2) ?_
              rw [w1.1]
              unfold cmpT
              rw [keyW_nil, keyW_c, if_neg (dg_not hc), lex_cn, if_neg w1.2.2]
            | cons d t =>
              cases hd : dg d
              · simp only []
                rw [wt_both c d hc hd]
                by_cases hw : cmpI (wt c) (wt d) = 0
                · refine Ev.pos hw ?_
                  simp only [List.length_cons] at la lb h
                  have := (ih s t (p ++ [c]) (q ++ [d]) (by omega) (by rw [h1]; simp) (by rw [h2]; simp)).1
                  rw [wrap_succ _ (by omega), wrap_succ _ (by omega)]
                  have e : cmpT (c :: s) (d :: t) = cmpT s t := by
                    unfold cmpT
                    rw [keyW_c, keyW_c, if_neg (dg_not hc), if_neg (dg_not hd), lex_cc, if_pos hw]
                  rw [e]
                  simpa using this
                · refine stop _ hw ?_
                  unfold cmpT
                  rw [keyW_c, keyW_c, if_neg (dg_not hc), if_neg (dg_not hd), lex_cc, if_neg hw]
              · have wd : wtR d = 0 := by unfold wtR; rw [if_pos hd]
                simp only []
                rw [wd]
                refine stop _ (by rw [w1.1]; exact w1.2.2) ?_
                rw [w1.1]
                unfold cmpT
                rw [keyW_c, keyW_c, if_neg (dg_not hc), if_pos hd, lex_cc, if_neg w1.2.2]
          · have wc : wtR c = 0 := by unfold wtR; rw [if_pos hc]
            cases y with
            | nil => simp [needT, hc] at hn
            | cons d t =>
              have hd : dg d = false := by simpa [needT, hc] using hn
              have w1 := wt_one d hd
              have wn : cmpI 0 (wt d) ≠ 0 := by rw [cmpI_flip]; have := w1.2.2; omega
              simp only []
              rw [wc]
              refine stop _ (by rw [w1.2.1]; exact wn) ?_
              rw [w1.2.1]
              unfold cmpT
              rw [keyW_c, keyW_c, if_pos hc, if_neg (dg_not hd), lex_cc, if_neg wn]
    have l1 : Ev (fun k => keelsonref2_CompareText.l1 k (mk a) (mk b) (p.length : Int) (q.length : Int)) (cmpT x y) := by
      refine Ev.shift ?_
      simp only [keelsonref2_CompareText.l1, mk_size]
      cases x with
      | nil =>
        refine Ev.neg (by rw [la]; simp) ?_
        cases y with
        | nil => exact Ev.neg (by rw [lb]; simp) (by simpa [needT] using j3)
        | cons d t =>
          have e : bt (mk b) (q.length : Int) = (d.toNat : Int) := by rw [h2, mk_bt_at]
          rw [e]
          exact Ev.pos (by rw [lb]; simp only [List.length_cons]; omega) (Ev.pos (by omega) (Ev.bindc (Digit_r d) (by simpa [needT] using j3)))
      | cons c s =>
        have e1 : bt (mk a) (p.length : Int) = (c.toNat : Int) := by rw [h1, mk_bt_at]
        rw [e1]
        refine Ev.pos (by rw [la]; simp only [List.length_cons]; omega) (Ev.pos (by omega) (Ev.bindc (Digit_r c) ?_))
        cases hc : dg c
        · exact Ev.neg (by simp) (by simpa [needT, hc] using j3)
        · refine Ev.pos rfl ?_
          cases y with
          | nil => exact Ev.neg (by rw [lb]; simp) (by simpa [needT, hc] using j3)
          | cons d t =>
            have e : bt (mk b) (q.length : Int) = (d.toNat : Int) := by rw [h2, mk_bt_at]
            rw [e]
            exact Ev.pos (by rw [lb]; simp only [List.length_cons]; omega) (Ev.pos (by omega) (Ev.bindc (Digit_r d) (by simpa [needT, hc] using j3)))
    refine ⟨l1, ?_⟩
    by_cases hx : x = []
    · by_cases hy : y = []
      · subst hx; subst hy
        exact (ih [] [] p q (by simp) h1 h2).2
      · have := List.length_pos_iff.2 hy
        subst hx
        refine Ev.shift ?_
        simp only [keelsonref2_CompareText.l0, mk_size]
        refine Ev.neg (by rw [la]; simp) (Ev.shift ?_)
        simp only [keelsonref2_CompareText.j1]
        exact Ev.pos (by simp; omega) l1
    · have := List.length_pos_iff.2 hx
      refine Ev.shift ?_
      simp only [keelsonref2_CompareText.l0, mk_size]
      refine Ev.pos (by omega) (Ev.shift ?_)
      simp only [keelsonref2_CompareText.j1]
      exact Ev.pos trivial l1
theorem CompareText_r (a b : Bs) (ha : a.length < 2000000000000000000) (hb : b.length < 2000000000000000000) : Ev (fun k => keelsonref2_CompareText.f k (mk a) (mk b)) (cmpT a b) := by
  have := (textR a b ha hb _ a b [] [] (Nat.le_refl _) rfl rfl).2
  simpa [keelsonref2_CompareText.f] using this
theorem Compare_r (e : Int) (u r : Bs) (e' : Int) (u' r' : Bs) (hu : u.length < 1000000) (hr : r.length < 1000000) (hu' : u'.length < 1000000) (hr' : r'.length < 1000000) :
    Ev (fun k => keelsonref2_Compare.f k e (mk u) (mk r) e' (mk u') (mk r')) (compareV e u r e' u' r') := by
  simp only [keelsonref2_Compare.f]
  unfold compareV
  simp only [orI]
  by_cases h : e = e'
  · rw [if_pos (cmpI_zero.2 h)]
    refine Ev.pos h (Ev.bind (CompareText_r u u' (by omega) (by omega)) ?_)
    by_cases h2 : cmpT u u' = 0
    · rw [if_pos h2]
      refine Ev.pos h2 (Ev.bind (CompareText_r r r' (by omega) (by omega)) (Ev.eq_ ?_))
      split
      · rename_i h; exact h
      · rfl
    · rw [if_neg h2]
      exact Ev.neg h2 (Ev.some_ _)
  · rw [if_neg (fun h2 => h (cmpI_zero.1 h2))]
    refine Ev.neg h ?_
    by_cases h2 : e < e'
    · rw [cmpI_neg.2 h2]; exact Ev.pos h2 (Ev.some_ _)
    · rw [cmpI_pos.2 (by omega)]; exact Ev.neg h2 (Ev.some_ _)
theorem Order_r (a b : Bs) : Ev (fun k => keelsonref2_Order.f k (mk a) (mk b)) (orderV a b) := by
  simp only [keelsonref2_Order.f]
  refine Ev.bind (Parse_r a) (Ev.bind (Parse_r b) ?_)
  have la := parseV_len a
  have lb := parseV_len b
  unfold orderV toB
  generalize parseV a = p at *
  generalize parseV b = q at *
  obtain ⟨e, u, r, x⟩ := p
  obtain ⟨e', u', r', y⟩ := q
  simp only [] at *
  have go : ∀ c, Ev (fun k => keelsonref2_Order.j0 k x y c e (mk u) (mk r) e' (mk u') (mk r')) (if c = true then 0 else if x = 0 then if y = 0 then compareV e u r e' u' r' else 1 else -1) := by
    intro c
    refine Ev.shift ?_
    simp only [keelsonref2_Order.j0]
    cases c
    · rw [if_neg (by simp)]
      refine Ev.neg (by simp) ?_
      by_cases hx : x = 0
      · rw [if_pos hx]
        refine Ev.pos hx ?_
        by_cases hy : y = 0
        · rw [if_pos hy]
          exact Ev.pos hy (Ev.bind (Compare_r _ _ _ _ _ _ (by omega) (by omega) (by omega) (by omega)) (Ev.eq_ rfl))
        · rw [if_neg hy]; exact Ev.neg hy (Ev.some_ _)
      · rw [if_neg hx]; exact Ev.neg hx (Ev.some_ _)
    · exact Ev.pos rfl (Ev.eq_ rfl)
  by_cases hx : x = 0
  · have := go false
    rw [if_neg (by simp), if_pos hx] at this
    rw [if_pos hx]
    exact Ev.pos hx this
  · rw [if_neg hx]
    refine Ev.neg hx ?_
    have := go (y != 0)
    rw [if_neg hx] at this
    by_cases hy : y = 0
    · rw [if_pos hy]
      subst hy
      simpa using this
    · rw [if_neg hy]
      have h1 : (y != 0) = true := by rw [bne_iff_ne]; exact hy
      rw [h1] at this ⊢
      exact this
end Go.Proofs.YtpjhaaifgiicoaaDoor.Pure
