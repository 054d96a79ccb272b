import Derived.Test.YtjbbgekkombpnaaGreatDoorPureRel
import Derived.Test.YtjbbgekkombpnaaGreatDoorPureDec
import Derived.Test.YtjbbgekkombpnaaGreatDoorPAx15
namespace Go.Proofs.YtjbbgekkombpnaaGreatDoor.Pure
open Go.RowKit Go.Proofs.YtjbbgekkombpnaaGreatDoor.PA Go.Proofs.YtjbbgekkombpnaaGreatDoorW.PrintWords Go.Proofs.YtjbbgekkombpnaaGreatDoorW.PrintLast Go.Proofs.YtjbbgekkombpnaaGreatDoorW.PrintMore
theorem Digit_r (c : UInt8) : keelsonref2_Digit.f (c.toNat : Int) = some (dg c) := digit_f c
theorem Letter_r (c : UInt8) : keelsonref2_Letter.f (c.toNat : Int) = some (lt c) := by
  have h : ∀ c : UInt8, keelsonref2_Letter.f (c.toNat : Int) = some (lt c) := byte_all (by decide +kernel)
  exact h c
theorem has_l0 (c : UInt8) : ∀ (t p : Bs), p.length + t.length < 4611686018427387904 → Ev (fun k => keelsonref2_has.l0 k (mk (p ++ t)) (c.toNat : Int) (p.length : Int)) (decide (c ∈ t)) := by
  intro t
  induction t with
  | nil =>
    intro p h
    refine Ev.shift ?_
    simp only [keelsonref2_has.l0, mk_size, List.append_nil]
    exact Ev.neg (by omega) (Ev.eq_ (by simp))
  | cons d t ih =>
    intro p h
    refine Ev.shift ?_
    simp only [keelsonref2_has.l0, mk_size, mk_bt_at]
    simp only [List.length_cons, List.length_append] at *
    refine Ev.pos (by omega) (Ev.pos (by omega) ?_)
    by_cases hd : d = c
    · exact Ev.pos (by rw [hd]) (Ev.eq_ (by simp [hd]))
    · refine Ev.neg (fun h => hd (UInt8.toNat_inj.1 (by omega))) ?_
      rw [wrap_succ _ (by omega)]
      have := ih (p ++ [d]) (by simp; omega)
      have e : decide (c ∈ d :: t) = decide (c ∈ t) := by rw [decide_eq_decide]; simp [Ne.symm hd]
      rw [e]
      simpa using this
theorem has_r (l : Bs) (c : UInt8) (h : l.length < 4611686018427387904) : Ev (fun k => keelsonref2_has.f k (mk l) (c.toNat : Int)) (decide (c ∈ l)) := has_l0 c l [] (by simpa using h)
theorem text_r (e : Int) (u r : Bs) (h0 : 0 ≤ e) (h1 : e ≤ 9223372036854775807) (hu : u.length < 2000000000000000000) (hr : r.length < 2000000000000000000) : Ev (fun k => keelsonref2_text.f k e (mk u) (mk r)) (mk (textV e u r)) := by
  obtain ⟨n, rfl⟩ : ∃ n : Nat, e = n := ⟨e.toNat, by omega⟩
  have hl := Lib.itoa_length_le (n : Int) (by omega) h1
  have hi : Lib.itoa (n : Int) = Lib.decDigits n := by unfold Lib.itoa; rw [if_neg (by omega)]; simp
  rw [hi] at hl
  unfold textV
  simp only [keelsonref2_text.f, mk_toList, mk_size, lit45, lit58, mk_app, List.length_append, List.length_cons, List.length_nil]
  by_cases he : (n : Int) = 0
  · refine Ev.pos he ?_
    rw [if_pos he]
    by_cases hr0 : r = []
    · exact Ev.pos hr0 (Ev.eq_ (by rw [if_pos hr0]; simp))
    · exact Ev.neg hr0 (Ev.pos (by omega) (Ev.pos (by omega) (Ev.eq_ (by rw [if_neg hr0]; simp))))
  · refine Ev.neg he (Ev.bind (Decimal_f n (by omega)) ?_)
    simp only [mk_size, mk_app, List.length_append, List.length_cons, List.length_nil]
    rw [if_neg he, hi]
    refine Ev.pos (by omega) (Ev.pos (by omega) ?_)
    by_cases hr0 : r = []
    · exact Ev.pos hr0 (Ev.eq_ (by rw [if_pos hr0]; simp))
    · exact Ev.neg hr0 (Ev.pos (by omega) (Ev.pos (by omega) (Ev.eq_ (by rw [if_neg hr0]; simp))))
theorem okU_lt {c : UInt8} (h : lt c = true) : okU c = true := by unfold okU okR; simp [h]
theorem okU_dg {c : UInt8} (h : dg c = true) : okU c = true := by unfold okU okR; simp [h]
theorem okU_else : ∀ {c : UInt8}, lt c = false → dg c = false → okU c = decide (c ∈ ([46, 43, 126, 45, 58] : Bs)) := by
  have h : ∀ c : UInt8, lt c = false → dg c = false → okU c = decide (c ∈ ([46, 43, 126, 45, 58] : Bs)) := byte_all (by decide +kernel)
  exact fun {c} => h c
theorem okR_lt {c : UInt8} (h : lt c = true) : okR c = true := by unfold okR; simp [h]
theorem okR_dg {c : UInt8} (h : dg c = true) : okR c = true := by unfold okR; simp [h]
theorem okR_else : ∀ {c : UInt8}, lt c = false → dg c = false → okR c = decide (c ∈ ([46, 43, 126] : Bs)) := by
  have h : ∀ c : UInt8, lt c = false → dg c = false → okR c = decide (c ∈ ([46, 43, 126] : Bs)) := byte_all (by decide +kernel)
  exact fun {c} => h c
theorem right_l1 (e : Int) (u : Bs) (h0 : 0 ≤ e) (h1 : e ≤ 999999999) (hu : u.length < 2000000000000000000) : ∀ (t p : Bs), p.length + t.length < 2000000000000000000 →
    Ev (fun k => keelsonref2_Right.l1 k (p.length : Int) e (mk u) (mk (p ++ t))) (t.all okR && decide ((textV e u (p ++ t)).length ≤ 60)) := by
  intro t
  induction t with
  | nil =>
    intro p h
    refine Ev.shift ?_
    simp only [keelsonref2_Right.l1, mk_size, List.append_nil]
    refine Ev.neg (by omega) (Ev.bind (text_r e u p h0 (by omega) hu (by simpa using h)) (Ev.eq_ ?_))
    rw [mk_size, List.all_nil, Bool.true_and, decide_eq_decide]; omega
  | cons c t ih =>
    intro p h
    simp only [List.length_cons] at h
    have next : Ev (fun k => keelsonref2_Right.l1 k (wrap64 ((p.length : Int) + 1)) e (mk u) (mk (p ++ c :: t))) (t.all okR && decide ((textV e u (p ++ c :: t)).length ≤ 60)) := by
      rw [wrap_succ _ (by omega)]
      have := ih (p ++ [c]) (by simp; omega)
      simpa using this
    refine Ev.shift ?_
    simp only [keelsonref2_Right.l1, mk_size, mk_bt_at, List.length_append, List.length_cons, List.all_cons]
    refine Ev.pos (by omega) (Ev.pos (by omega) (Ev.bindc (Letter_r c) ?_))
    cases hl : lt c
    · refine Ev.neg (by simp) (Ev.bindc (Digit_r c) ?_)
      cases hd : dg c
      · refine Ev.neg (by simp) (Ev.bind (has_r [46, 43, 126] c (by simp)) ?_)
        rw [okR_else hl hd]
        cases hm : decide (c ∈ ([46, 43, 126] : Bs))
        · exact Ev.neg (by simp) (Ev.eq_ (by simp))
        · rw [Bool.true_and]; exact Ev.pos rfl next
      · rw [okR_dg hd, Bool.true_and]; exact Ev.pos rfl next
    · rw [okR_lt hl, Bool.true_and]; exact Ev.pos rfl next
theorem right_l0 (e : Int) (r : Bs) (h0 : 0 ≤ e) (h1 : e ≤ 999999999) (hr : r.length < 2000000000000000000) : ∀ (t p : Bs), p.length + t.length < 2000000000000000000 →
    Ev (fun k => keelsonref2_Right.l0 k (p.length : Int) e (mk (p ++ t)) (mk r)) (t.all okU && (r.all okR && decide ((textV e (p ++ t) r).length ≤ 60))) := by
  intro t
  induction t with
  | nil =>
    intro p h
    refine Ev.shift ?_
    simp only [keelsonref2_Right.l0, mk_size, List.append_nil]
    refine Ev.neg (by omega) ?_
    rw [List.all_nil, Bool.true_and]
    exact right_l1 e p h0 h1 (by simpa using h) r [] (by simpa using hr)
  | cons c t ih =>
    intro p h
    simp only [List.length_cons] at h
    have next : Ev (fun k => keelsonref2_Right.l0 k (wrap64 ((p.length : Int) + 1)) e (mk (p ++ c :: t)) (mk r)) (t.all okU && (r.all okR && decide ((textV e (p ++ c :: t) r).length ≤ 60))) := by
      rw [wrap_succ _ (by omega)]
      have := ih (p ++ [c]) (by simp; omega)
      simpa using this
    refine Ev.shift ?_
    simp only [keelsonref2_Right.l0, mk_size, mk_bt_at, List.length_append, List.length_cons, List.all_cons]
    refine Ev.pos (by omega) (Ev.pos (by omega) (Ev.bindc (Letter_r c) ?_))
    cases hl : lt c
    · refine Ev.neg (by simp) (Ev.bindc (Digit_r c) ?_)
      cases hd : dg c
      · refine Ev.neg (by simp) (Ev.bind (has_r [46, 43, 126, 45, 58] c (by simp)) ?_)
        rw [okU_else hl hd]
        cases hm : decide (c ∈ ([46, 43, 126, 45, 58] : Bs))
        · exact Ev.neg (by simp) (Ev.eq_ (by simp))
        · rw [Bool.true_and]; exact Ev.pos rfl next
      · rw [okU_dg hd, Bool.true_and]; exact Ev.pos rfl next
    · rw [okU_lt hl, Bool.true_and]; exact Ev.pos rfl next
theorem Right_r (e : Int) (u r : Bs) (hu : u.length < 2000000000000000000) (hr : r.length < 2000000000000000000) : Ev (fun k => keelsonref2_Right.f k e (mk u) (mk r)) (rightV e u r) := by
  have bad : ∀ x, Ev (fun k => keelsonref2_Right.j0 k true x (mk u) (mk r)) false := fun x => by
    refine Ev.shift ?_
    simp only [keelsonref2_Right.j0]
    exact Ev.pos trivial (Ev.some_ _)
  simp only [keelsonref2_Right.f, mk_toList, mk_size]
  unfold rightV
  by_cases h0 : e < 0
  · rw [decide_eq_false (show ¬ 0 ≤ e by omega)]
    exact Ev.pos h0 (bad e)
  · rw [decide_eq_true (show 0 ≤ e by omega)]
    refine Ev.neg h0 ?_
    by_cases h1 : e > 999999999
    · rw [decide_eq_false (show ¬ e ≤ 999999999 by omega)]
      exact Ev.pos h1 (bad e)
    · rw [decide_eq_true (show e ≤ 999999999 by omega)]
      refine Ev.neg h1 ?_
      cases u with
      | nil => exact Ev.pos rfl (bad e)
      | cons c t =>
        refine Ev.neg (by simp) (Ev.pos (by simp) (Ev.bindc (by rw [mk_bt_0]; exact Digit_r c) ?_))
        simp only [fstDg, Bool.true_and]
        refine Ev.shift ?_
        simp only [keelsonref2_Right.j0, mk_toList]
        cases hc : dg c
        · exact Ev.pos rfl (Ev.eq_ (by simp))
        · refine Ev.neg (by simp) (Ev.bind (has_r (c :: t) 45 (by omega)) ?_)
          simp only [Bool.true_and]
          have last : ∀ b : Bool, Ev (fun k => keelsonref2_Right.j1 k b e (mk (c :: t)) (mk r)) (!b && (c :: t).all okU && r.all okR && decide ((textV e (c :: t) r).length ≤ 60)) := by
            intro b
            refine Ev.shift ?_
            simp only [keelsonref2_Right.j1]
            cases b
            · refine Ev.neg (by simp) ?_
              have := right_l0 e r (by omega) (by omega) hr (c :: t) [] (by simpa using hu)
              simpa [Bool.and_assoc] using this
            · exact Ev.pos rfl (Ev.eq_ (by simp))
          have colon : Ev (fun k => (keelsonref2_has.f k (mk (c :: t)) 58).bind fun t192 => if t192 = true then keelsonref2_Right.j1 k (e == 0) e (mk (c :: t)) (mk r) else keelsonref2_Right.j1 k false e (mk (c :: t)) (mk r)) (!(decide (58 ∈ c :: t) && decide (e = 0)) && (c :: t).all okU && r.all okR && decide ((textV e (c :: t) r).length ≤ 60)) := by
            refine Ev.bind (has_r (c :: t) 58 (by omega)) ?_
            cases hm : decide ((58 : UInt8) ∈ c :: t)
            · refine Ev.neg (by simp) ?_
              have := last false
              simpa using this
            · refine Ev.pos rfl ?_
              have := last (e == 0)
              rw [Bool.true_and, show decide (e = 0) = (e == 0) by rw [Bool.eq_iff_iff]; simp]
              exact this
          cases hm : decide ((45 : UInt8) ∈ c :: t)
          · refine Ev.neg (by simp) ?_
            simpa using colon
          · refine Ev.pos rfl ?_
            by_cases hr0 : r = []
            · refine Ev.pos hr0 ?_
              have := last true
              simpa [hr0] using this
            · refine Ev.neg hr0 ?_
              rw [decide_eq_false hr0]
              simpa using colon
end Go.Proofs.YtjbbgekkombpnaaGreatDoor.Pure
