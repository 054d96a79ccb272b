import Derived.Test.YtdkmdicmipcifaaRefWorld
import Derived.Test.YtdkmdicmipcifaaPBx1
import Derived.Test.YtdkmdicmipcifaaDiskName
namespace Go.Proofs.Ytdkmdicmipcifaa.Disk
open Go Go.RowKit Go.Proofs.Ytdkmdicmipcifaa.PB Go.Proofs.Ytdkmdicmipcifaa.Pure Go.Proofs.YtdkmdicmipcifaaW.PrintWords Go.Proofs.YtdkmdicmipcifaaW.PrintLast Go.Proofs.YtdkmdicmipcifaaW.PrintMore
theorem sgnc_iff (c : UInt8) : sgnc c = true ↔ ((97 ≤ (c.toNat : Int) ∧ (c.toNat : Int) ≤ 122) ∨ (48 ≤ (c.toNat : Int) ∧ (c.toNat : Int) ≤ 57) ∨ (c.toNat : Int) = 46 ∨ (c.toNat : Int) = 43 ∨ (c.toNat : Int) = 45 ∨ (c.toNat : Int) = 95) := by
  unfold sgnc
  simp only [Bool.or_eq_true, Bool.and_eq_true, decide_eq_true_eq]
  omega
set_option maxRecDepth 100000 in
set_option maxHeartbeats 4000000 in
theorem name_step (l p t : Disk.Bs) (c : UInt8) (h : l = p ++ c :: t) (k : Nat) :
    keelsonref21_Name.l0 (k + 1) (mk l) (p.length : Int) = if sgnc c = true then keelsonref21_Name.l0 k (mk l) (wrap64 ((p.length : Int) + 1)) else some false := by
  have e : bt (mk l) (p.length : Int) = (c.toNat : Int) := by rw [h, mk_bt_at]
  have hlt : (p.length : Int) < ((mk l).size : Int) := by rw [mk_size, h, List.length_append, List.length_cons]; omega
  have h0 : (0 : Int) ≤ (p.length : Int) := by omega
  simp only [keelsonref21_Name.l0, e]
  rw [if_pos hlt, if_pos h0]
  have hi := sgnc_iff c
  generalize keelsonref21_Name.l0 k (mk l) (wrap64 ((p.length : Int) + 1)) = A at *
  clear e hlt h0 h
  by_cases hs : sgnc c = true
  · have hc := hi.1 hs
    rw [if_pos hs]
    clear hi hs
    repeat' split
    all_goals first | rfl | (exfalso; omega)
  · have hc := mt hi.2 hs
    rw [if_neg hs]
    clear hi hs
    repeat' split
    all_goals first | rfl | (exfalso; omega)
theorem name_l0 (l : Disk.Bs) (hl : l.length < 4611686018427387904) : ∀ (t p : Disk.Bs), l = p ++ t → Ev (fun k => keelsonref21_Name.l0 k (mk l) (p.length : Int)) (t.all sgnc && !l.isEmpty && decide (l.length ≤ 60)) := by
  intro t
  induction t with
  | nil =>
    intro p h
    refine Ev.shift ?_
    simp only [keelsonref21_Name.l0]
    refine Ev.neg (by rw [mk_size, h]; simp) ?_
    rw [mk_size]
    by_cases h0 : l = []
    · subst h0
      first | exact Ev.eq_ (by simp) | (repeat' (first | refine Ev.neg (by simp) ?_ | refine Ev.pos (by simp) ?_)) <;> exact Ev.eq_ (by simp)
    · have e : l.isEmpty = false := by simpa using h0
      have h1 : (l.length : Int) ≥ 1 := by
        have : l.length ≠ 0 := fun e => h0 (List.length_eq_zero_iff.1 e)
        omega
      rw [e]
      by_cases h2 : (l.length : Int) ≤ 60
      · rw [decide_eq_true (show l.length ≤ 60 by omega)]
        first | exact Ev.pos h1 (Ev.pos h2 (Ev.eq_ rfl)) | exact Ev.pos h1 (Ev.eq_ (by simp; omega)) | exact Ev.eq_ (by simp; omega)
      · rw [decide_eq_false (show ¬ l.length ≤ 60 by omega)]
        first | exact Ev.pos h1 (Ev.neg h2 (Ev.eq_ rfl)) | exact Ev.pos h1 (Ev.eq_ (by simp; omega)) | exact Ev.eq_ (by simp; omega)
  | cons c t ih =>
    intro p h
    refine Ev.shift ?_
    simp only [name_step l p t c h]
    cases hc : sgnc c
    · refine Ev.neg (by simp) (Ev.eq_ ?_)
      rw [List.all_cons, hc]; rfl
    · refine Ev.pos rfl ?_
      have hlen : l.length = p.length + (t.length + 1) := by rw [h]; simp
      rw [wrap_succ _ (by omega), List.all_cons, hc]
      have := ih (p ++ [c]) (by rw [h]; simp)
      simpa using this
theorem refName_calls (l : Disk.Bs) (hl : l.length < 4611686018427387904) (w : World) (h0 : 1 ≤ w.heap.size) :
    Calls Try.prog 54 #[.string (mk l)] w fun e w' => e = .returned (.bool (nameOk l)) ∧ Below w.heap.size w w' := by
  obtain ⟨k, hk⟩ := name_l0 l hl l [] rfl
  have e : (l.all sgnc && !l.isEmpty && decide (l.length ≤ 60)) = nameOk l := by
    unfold nameOk
    cases l.all sgnc <;> cases l.isEmpty <;> cases decide (l.length ≤ 60) <;> rfl
  rw [e] at hk
  refine (keelsonref21_Name.calls k (mk l) (nameOk l) w ⟨h0⟩ (hk k (Nat.le_refl _))).mono ?_
  rintro e w' ⟨rfl, hd⟩
  exact ⟨rfl, hd.below⟩
end Go.Proofs.Ytdkmdicmipcifaa.Disk
