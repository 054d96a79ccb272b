import Derived.Test.YtohijjobmmibcaaDoorPureRel
import Derived.Test.YtohijjobmmibcaaDoorPAx8
namespace Go.Proofs.YtohijjobmmibcaaDoor.Pure
open Go.RowKit Go.Proofs.YtohijjobmmibcaaDoor.PA Go.Proofs.YtohijjobmmibcaaDoorW.PrintWords Go.Proofs.YtohijjobmmibcaaDoorW.PrintLast Go.Proofs.YtohijjobmmibcaaDoorW.PrintMore
theorem one_core (s t : ByteArray) (l e m ss tt : Bool) (h1 : Ev (fun k => relation_Holds.f k 1 s t) l) (h3 : Ev (fun k => relation_Holds.f k 3 s t) e) (h5 : Ev (fun k => relation_Holds.f k 5 s t) m)
    (hss : Ev (fun k => relation_Holds.f k 3 s s) ss) (htt : Ev (fun k => relation_Holds.f k 3 t t) tt) (h0 : Ev (fun k => relation_Holds.f k 0 s t) true)
    (h2 : Ev (fun k => relation_Holds.f k 2 s t) (l || e)) (h4 : Ev (fun k => relation_Holds.f k 4 s t) (m || e)) (h5' : Ev (fun k => relation_Holds.f k 5 t s) l) (h3' : Ev (fun k => relation_Holds.f k 3 t s) e)
    (hn : (ss && tt) = true → (l, e, m) = (true, false, false) ∨ (l, e, m) = (false, true, false) ∨ (l, e, m) = (false, false, true)) (hz : (ss && tt) = false → (l, e, m) = (false, false, false)) :
    Ev (fun k => keelsonlaw3_RelationOne.j0 k s t true false) true := by
  have j5 : Ev (fun k => keelsonlaw3_RelationOne.j5 k s t l e m false) true := by
    clear hn hz
    refine Ev.shift ?_
    simp only [keelsonlaw3_RelationOne.j5]
    refine Ev.neg (by simp) (Ev.bind h2 ?_)
    cases l
    · refine Ev.neg (by simp) (Ev.pos (by simp) (Ev.bind h4 ?_))
      cases m
      · exact Ev.neg (by simp) (Ev.pos (by simp) (Ev.bind h5' (Ev.pos (by simp) (Ev.bind h3' (Ev.eq_ (by simp))))))
      · exact Ev.pos rfl (Ev.pos (by simp) (Ev.bind h5' (Ev.pos (by simp) (Ev.bind h3' (Ev.eq_ (by simp))))))
    · refine Ev.pos rfl (Ev.pos (by simp) (Ev.bind h4 ?_))
      cases m
      · exact Ev.neg (by simp) (Ev.pos (by simp) (Ev.bind h5' (Ev.pos (by simp) (Ev.bind h3' (Ev.eq_ (by simp))))))
      · exact Ev.pos rfl (Ev.pos (by simp) (Ev.bind h5' (Ev.pos (by simp) (Ev.bind h3' (Ev.eq_ (by simp))))))
  have j4 : ∀ (n : Int) (b : Bool), (n = 1 ∧ b = true ∨ n = 0 ∧ b = false) → Ev (fun k => keelsonlaw3_RelationOne.j4 k s t l e m n b) true := by
    intro n b h
    refine Ev.shift ?_
    simp only [keelsonlaw3_RelationOne.j4]
    rcases h with ⟨rfl, rfl⟩ | ⟨rfl, rfl⟩
    · exact Ev.neg (by decide) (Ev.pos rfl (Ev.bind h0 j5))
    · exact Ev.neg (by decide) (Ev.neg (by simp) (Ev.pos rfl (Ev.bind h0 j5)))
  have j3 : ∀ n : Int, (n = 1 ∧ (ss && tt) = true ∨ n = 0 ∧ (ss && tt) = false) → Ev (fun k => keelsonlaw3_RelationOne.j3 k s t l e m n) true := by
    intro n h
    refine Ev.shift ?_
    simp only [keelsonlaw3_RelationOne.j3]
    refine Ev.bind hss ?_
    cases ss
    · exact Ev.neg (by simp) (j4 n false (by simpa using h))
    · exact Ev.pos rfl (Ev.bind htt (j4 n tt (by simpa using h)))
  have j2 : ∀ n : Int, (n + (if m = true then 1 else 0) = 1 ∧ (ss && tt) = true ∨ n + (if m = true then 1 else 0) = 0 ∧ (ss && tt) = false) → (n = 0 ∨ n = 1) → Ev (fun k => keelsonlaw3_RelationOne.j2 k s t l e m n) true := by
    intro n h hn
    refine Ev.shift ?_
    simp only [keelsonlaw3_RelationOne.j2]
    cases m
    · exact Ev.neg (by simp) (j3 n (by simpa using h))
    · refine Ev.pos rfl ?_
      rw [wrap_in (n + 1) (by omega) (by omega)]
      exact j3 _ (by simpa using h)
  refine Ev.shift ?_
  simp only [keelsonlaw3_RelationOne.j0]
  refine Ev.neg (by simp) (Ev.bind h1 (Ev.bind h3 (Ev.bind h5 ?_)))
  have w1 : wrap64 (0 + 1) = 1 := wrap_in 1 (by omega) (by omega)
  cases hb : (ss && tt)
  · have := hz hb
    obtain ⟨rfl, rfl, rfl⟩ : l = false ∧ e = false ∧ m = false := by simpa using this
    refine Ev.neg (by simp) (Ev.shift ?_)
    simp only [keelsonlaw3_RelationOne.j1]
    exact Ev.neg (by simp) (j2 0 (.inr ⟨rfl, hb⟩) (.inl rfl))
  · rcases hn hb with h | h | h
    · obtain ⟨rfl, rfl, rfl⟩ : l = true ∧ e = false ∧ m = false := by simpa using h
      refine Ev.pos rfl (Ev.shift ?_)
      simp only [keelsonlaw3_RelationOne.j1]
      exact Ev.neg (by simp) (j2 (0 + 1) (.inl ⟨rfl, hb⟩) (.inr rfl))
    · obtain ⟨rfl, rfl, rfl⟩ : l = false ∧ e = true ∧ m = false := by simpa using h
      refine Ev.neg (by simp) (Ev.shift ?_)
      simp only [keelsonlaw3_RelationOne.j1]
      refine Ev.pos trivial ?_
      rw [w1]
      exact j2 1 (.inl ⟨rfl, hb⟩) (.inr rfl)
    · obtain ⟨rfl, rfl, rfl⟩ : l = false ∧ e = false ∧ m = true := by simpa using h
      refine Ev.neg (by simp) (Ev.shift ?_)
      simp only [keelsonlaw3_RelationOne.j1]
      exact Ev.neg (by simp) (j2 0 (.inl ⟨rfl, hb⟩) (.inl rfl))
theorem holds_3 (s t : Bs) : holdsV 3 s t = (okV s && okV t && (cV s t == 0)) := rfl
theorem RelationOne (a0 a1 : ByteArray) {P Q : Prop} (_ : P) (_ : Q) : ∃ k, keelsonlaw3_RelationOne.f k a0 a1 = some true := by
  obtain ⟨s, rfl, -⟩ := mk_ex a0
  obtain ⟨t, rfl, -⟩ := mk_ex a1
  have core : Ev (fun k => keelsonlaw3_RelationOne.j0 k (mk s) (mk t) true false) true := by
    have e1 : holdsV 1 s t = (okV s && okV t && decide (cV s t < 0)) := rfl
    have e2 : holdsV 2 s t = (okV s && okV t && decide (cV s t ≤ 0)) := rfl
    have e4 : holdsV 4 s t = (okV s && okV t && decide (cV s t ≥ 0)) := rfl
    have e5 : holdsV 5 s t = (okV s && okV t && decide (cV s t > 0)) := rfl
    have e5' : holdsV 5 t s = (okV t && okV s && decide (cV t s > 0)) := rfl
    have f := cV_flip s t
    refine one_core (mk s) (mk t) (holdsV 1 s t) (holdsV 3 s t) (holdsV 5 s t) (holdsV 3 s s) (holdsV 3 t t) (Holds_f _ _ _) (Holds_f _ _ _) (Holds_f _ _ _) (Holds_f _ _ _) (Holds_f _ _ _) (Holds_f 0 s t) ?_ ?_ ?_ ?_ ?_ ?_
    · have := Holds_f 2 s t
      rw [e2] at this
      rw [e1, holds_3, ← Bool.and_or_distrib_left]
      have h : (decide (cV s t < 0) || cV s t == 0) = decide (cV s t ≤ 0) := by rw [Bool.eq_iff_iff]; simp; omega
      rw [h]; exact this
    · have := Holds_f 4 s t
      rw [e4] at this
      rw [e5, holds_3, ← Bool.and_or_distrib_left]
      have h : (decide (cV s t > 0) || cV s t == 0) = decide (cV s t ≥ 0) := by rw [Bool.eq_iff_iff]; simp; omega
      rw [h]; exact this
    · have := Holds_f 5 t s
      rw [e5'] at this
      rw [e1]
      have h : decide (cV t s > 0) = decide (cV s t < 0) := by rw [decide_eq_decide]; omega
      rw [h, Bool.and_comm (okV t)] at this; exact this
    · have := Holds_f 3 t s
      rw [holds_3] at this
      rw [holds_3]
      have h : (cV t s == 0) = (cV s t == 0) := by rw [Bool.eq_iff_iff]; simp; omega
      rw [h, Bool.and_comm (okV t)] at this; exact this
    · rw [holds_3, holds_3, cV_self, cV_self, e1, e5, holds_3]
      cases okV s <;> cases okV t <;> simp
      omega
    · rw [holds_3, holds_3, cV_self, cV_self, e1, e5, holds_3]
      cases okV s <;> cases okV t <;> simp
  have j0 : ∀ c : Bool, Ev (fun k => keelsonlaw3_RelationOne.j0 k (mk s) (mk t) true c) true := by
    intro c
    cases c
    · exact core
    · refine Ev.shift ?_
      simp only [keelsonlaw3_RelationOne.j0]
      exact Ev.pos trivial (Ev.eq_ rfl)
  have main : Ev (fun k => keelsonlaw3_RelationOne.f k (mk s) (mk t)) true := by
    simp only [keelsonlaw3_RelationOne.f, mk_size]
    refine Ev.bind shown3_ev (Ev.pos rfl ?_)
    by_cases h1 : (s.length : Int) > 300
    · exact Ev.pos h1 (j0 true)
    · exact Ev.neg h1 (j0 _)
  exact main.rounds
end Go.Proofs.YtohijjobmmibcaaDoor.Pure
