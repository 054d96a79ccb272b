import Derived.Test.YtjbbgekkombpnaaGreatDoorPureDepBack
import Derived.Test.YtjbbgekkombpnaaGreatDoorPAx19
namespace Go.Proofs.YtjbbgekkombpnaaGreatDoor.Pure
open Go.RowKit Go.Proofs.YtjbbgekkombpnaaGreatDoor.PA Go.Proofs.YtjbbgekkombpnaaGreatDoorW.PrintWords Go.Proofs.YtjbbgekkombpnaaGreatDoorW.PrintLast Go.Proofs.YtjbbgekkombpnaaGreatDoorW.PrintMore
theorem SmL.back {l : List (List S3)} (h : SmL l) (hr : rightL l = true) : Ev (fun k => depends_Print.f k l) (Pure.mk (textL l)) ∧ Ev (fun k => depends_Parse.f k (Pure.mk (textL l))) (l, 0) ∧ Ev (fun k => keelsonlaw4_same.f k l l) true := by
  refine ⟨?_, ?_, same_f l (by have := h.len; omega) (fun g hg => by have := h.each g hg; omega)⟩
  · have := h.print
    unfold printL at this
    rwa [if_pos hr] at this
  · have hl := textL_len l (rightL_len hr).1 (fun g hg => ((rightL_len hr).2 g hg).2.1) h.sm
    have := DParse_f (textL l) (by omega)
    rwa [depV_text hr] at this
theorem DependsBack (l : List (List S3)) (a1 : ByteArray) {P Q : Prop} (_ : P) (_ : Q) : ∃ k, keelsonlaw4_DependsBack.f k l a1 = some true := by
  obtain ⟨s, rfl, -⟩ := mk_ex a1
  have j1 : s.length ≤ 1000 → Ev (fun k => keelsonlaw4_DependsBack.j1 k (mk s)) true := by
    intro hs
    refine Ev.shift ?_
    simp only [keelsonlaw4_DependsBack.j1]
    refine Ev.bind (DParse_f s (by omega)) ?_
    by_cases he : (depV s).2 = 0
    · obtain ⟨hr, hsm⟩ := depV_ok he hs
      obtain ⟨b1, b2, b3⟩ := hsm.back hr
      have b4 := hsm.right
      rw [hr] at b4
      exact Ev.bind b1 (Ev.bind b2 (Ev.pos he (Ev.pos rfl (Ev.bind b3 (Ev.pos rfl (Ev.bind b4 (Ev.some_ _)))))))
    · have h0 := depV_err he
      rw [h0]
      have hsm : SmL [] := ⟨by simp, fun g hg => (nomatch hg), fun g hg => (nomatch hg)⟩
      obtain ⟨b1, b2, b3⟩ := hsm.back rfl
      exact Ev.bind b1 (Ev.bind b2 (Ev.neg he (Ev.pos rfl (Ev.some_ _))))
  have j0 : ∀ c : Bool, (c = false → SmL l ∧ s.length ≤ 1000) → Ev (fun k => keelsonlaw4_DependsBack.j0 k l (mk s) true c) true := by
    intro c hc
    refine Ev.shift ?_
    simp only [keelsonlaw4_DependsBack.j0]
    cases c
    · obtain ⟨h1, h2⟩ := hc rfl
      refine Ev.neg (by simp) (Ev.bind h1.right ?_)
      cases hr : rightL l with
      | false => exact Ev.neg (by simp) (j1 h2)
      | true =>
        obtain ⟨b1, b2, b3⟩ := h1.back hr
        exact Ev.pos rfl (Ev.bind b1 (Ev.bind b2 (Ev.pos rfl (Ev.bind b3 (Ev.pos rfl (j1 h2))))))
    · exact Ev.pos rfl (Ev.some_ _)
  have main : Ev (fun k => keelsonlaw4_DependsBack.f k l (mk s)) true := by
    simp only [keelsonlaw4_DependsBack.f, mk_size]
    refine Ev.bind shown4_ev (Ev.bind (small_g l) (Ev.pos rfl ?_))
    cases hs : smallV l with
    | false => exact Ev.neg (by simp) (j0 true (fun h => by cases h))
    | true =>
      refine Ev.pos rfl (j0 _ (fun h => ⟨smallV_true hs, ?_⟩))
      have := of_decide_eq_false h
      omega
  exact main.rounds
end Go.Proofs.YtjbbgekkombpnaaGreatDoor.Pure
