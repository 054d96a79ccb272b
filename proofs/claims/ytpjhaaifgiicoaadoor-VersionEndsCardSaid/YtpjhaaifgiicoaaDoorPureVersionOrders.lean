/- The plain law of VersionOrders: texts stand in an order of classes. -/
import Derived.Test.YtpjhaaifgiicoaaDoorPureVer3
import Derived.Test.YtpjhaaifgiicoaaDoorPAx13
namespace Go.Proofs.YtpjhaaifgiicoaaDoor.Pure
open Go.RowKit Go.Proofs.YtpjhaaifgiicoaaDoor.PA Go.Proofs.YtpjhaaifgiicoaaDoorW.PrintWords Go.Proofs.YtpjhaaifgiicoaaDoorW.PrintLast Go.Proofs.YtpjhaaifgiicoaaDoorW.PrintMore

theorem shown_true : keelsonlaw2_shown.f 300 = some true := by decide +kernel
theorem shown_ev : Ev (fun k => keelsonlaw2_shown.f k) true := Ev.of (fun k => keelsonlaw2_shown.mono k) shown_true
theorem cmpT_range (a b : Bs) : cmpT a b = -1 ∨ cmpT a b = 0 ∨ cmpT a b = 1 := lex_range _ _
theorem orderV_range (a b : Bs) : -1 ≤ orderV a b ∧ orderV a b ≤ 1 := by
  unfold orderV compareV
  have h1 := cmpI_range (parseV a).1 (parseV b).1
  have h2 := cmpT_range (parseV a).2.1 (parseV b).2.1
  have h3 := cmpT_range (parseV a).2.2.1 (parseV b).2.2.1
  simp only [orI]
  (repeat' split) <;> omega
theorem VersionOrders (a0 a1 a2 : ByteArray) (_w0 : a0.size ≤ 140737488351232) (_w1 : a1.size ≤ 140737488351232) (_w2 : a2.size ≤ 140737488351232) : ∃ k, keelsonlaw2_VersionOrders.f k a0 a1 a2 = some true := by
  obtain ⟨a, rfl, ha⟩ := mk_ex a0
  obtain ⟨b, rfl, hb⟩ := mk_ex a1
  obtain ⟨c, rfl, hc⟩ := mk_ex a2
  have j0 : ∀ g : Bool, (g = false → a.length ≤ 200 ∧ b.length ≤ 200 ∧ c.length ≤ 200) → Ev (fun k => keelsonlaw2_VersionOrders.j0 k (mk a) (mk b) (mk c) true g) true := by
    intro g hg
    refine Ev.shift ?_
    simp only [keelsonlaw2_VersionOrders.j0]
    cases g
    · obtain ⟨la, lb, lc⟩ := hg rfl
      refine Ev.neg (by simp) (Ev.bind (CompareText_f a b (by omega) (by omega)) (Ev.bind (CompareText_f b c (by omega) (by omega)) (Ev.bind (CompareText_f a c (by omega) (by omega)) (Ev.bind (CompareText_f a a (by omega) (by omega)) (Ev.pos (cmpT_self a) (Ev.bind (CompareText_f b a (by omega) (by omega)) ?_))))))
      have f1 := cmpT_flip a b
      have f2 := cmpT_flip b c
      have f3 := cmpT_flip a c
      have r1 := cmpT_range a b
      have r2 := cmpT_range b c
      have r3 := cmpT_range a c
      have r4 := cmpT_range b a
      have z1 : cmpT a b = 0 → cmpT a c = cmpT b c := fun h => lex_zero_l _ h
      have z2 : cmpT b c = 0 → cmpT a b = cmpT a c := fun h => lex_zero_r _ h
      have t1 : cmpT a b = -1 → cmpT b c = -1 → cmpT a c = -1 := fun h k => lex_trans h k
      have t2 : cmpT c b = -1 → cmpT b a = -1 → cmpT c a = -1 := fun h k => lex_trans h k
      have j2 : Ev (fun k => keelsonlaw2_VersionOrders.j2 k (mk a) (mk b) false) true := by
        refine Ev.shift ?_
        simp only [keelsonlaw2_VersionOrders.j2]
        have o1 := orderV_flip a b
        have o2 := orderV_range b a
        refine Ev.neg (by simp) (Ev.bind (Order_f a b) (Ev.bind (Order_f b a) (Ev.pos ?_ (Ev.bind (Order_f a a) (Ev.eq_ ?_)))))
        · rw [wrap_in _ (by omega) (by omega)]; exact o1
        · rw [orderV_self]; rfl
      have j1 : Ev (fun k => keelsonlaw2_VersionOrders.j1 k (mk a) (mk b) (cmpT a b) (cmpT b c) (cmpT a c) false) true := by
        refine Ev.shift ?_
        simp only [keelsonlaw2_VersionOrders.j1]
        refine Ev.neg (by simp) ?_
        have rest : Ev (fun k => if cmpT a b > 0 then (if cmpT b c > 0 then (keelsonlaw2_VersionOrders.j2 k (mk a) (mk b) (decide (cmpT a c ≤ 0))) else (keelsonlaw2_VersionOrders.j2 k (mk a) (mk b) false)) else (keelsonlaw2_VersionOrders.j2 k (mk a) (mk b) false)) true := by
          by_cases h1 : cmpT a b > 0
          · refine Ev.pos h1 ?_
            by_cases h2 : cmpT b c > 0
            · refine Ev.pos h2 ?_
              have := t2 (by omega) (by omega)
              rw [decide_eq_false (by omega)]
              exact j2
            · exact Ev.neg h2 j2
          · exact Ev.neg h1 j2
        by_cases h1 : cmpT a b < 0
        · refine Ev.pos h1 ?_
          by_cases h2 : cmpT b c < 0
          · refine Ev.pos h2 (Ev.neg ?_ rest)
            have := t1 (by omega) (by omega)
            omega
          · exact Ev.neg h2 rest
        · exact Ev.neg h1 rest
      refine Ev.pos (by rw [wrap_in _ (by omega) (by omega)]; exact f1) ?_
      by_cases h1 : cmpT a b = 0
      · refine Ev.pos h1 (Ev.pos (z1 h1).symm ?_)
        by_cases h2 : cmpT b c = 0
        · refine Ev.pos h2 ?_
          have e : (cmpT a b != cmpT a c) = false := by rw [bne_eq_false_iff_eq]; exact z2 h2
          rw [e]; exact j1
        · exact Ev.neg h2 j1
      · refine Ev.neg h1 ?_
        by_cases h2 : cmpT b c = 0
        · refine Ev.pos h2 ?_
          have e : (cmpT a b != cmpT a c) = false := by rw [bne_eq_false_iff_eq]; exact z2 h2
          rw [e]; exact j1
        · exact Ev.neg h2 j1
    · exact Ev.pos rfl (Ev.some_ _)
  have all : Ev (fun k => keelsonlaw2_VersionOrders.f k (mk a) (mk b) (mk c)) true := by
    simp only [keelsonlaw2_VersionOrders.f, mk_size]
    refine Ev.bind shown_ev (Ev.pos rfl ?_)
    by_cases h1 : (a.length : Int) > 200
    · exact Ev.pos h1 (j0 true (fun h => by cases h))
    · refine Ev.neg h1 ?_
      by_cases h2 : (b.length : Int) > 200
      · exact Ev.pos h2 (j0 true (fun h => by cases h))
      · refine Ev.neg h2 (j0 _ fun h => ?_)
        have := of_decide_eq_false h
        omega
  exact all.rounds
end Go.Proofs.YtpjhaaifgiicoaaDoor.Pure
