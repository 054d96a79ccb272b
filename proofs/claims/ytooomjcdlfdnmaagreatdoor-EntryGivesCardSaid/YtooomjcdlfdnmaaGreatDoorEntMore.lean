import Derived.Test.YtooomjcdlfdnmaaGreatDoorEntSmall
import Derived.Test.YtooomjcdlfdnmaaGreatDoorPAx10
namespace Go.Proofs.YtooomjcdlfdnmaaGreatDoor.Ent
open Go Go.RowKit Go.Shelf Go.Proofs.YtooomjcdlfdnmaaGreatDoorW.PrintWords Go.Proofs.YtooomjcdlfdnmaaGreatDoor.PA Go.Proofs.YtooomjcdlfdnmaaGreatDoor.Pure
set_option linter.unusedVariables false
def moreE (a : E6) (m : S27) : E6 := { a with f5 := a.f5 ++ [m] }
theorem gives_more (a : E6) (m : S27) : givesE (moreE a m) = givesE a ++ [m] := rfl
theorem fights_more {a b : E6} (m : S27) (h : fightsE a b = true) : fightsE (moreE a m) b = true ∧ fightsE b (moreE a m) = true := by
  unfold fightsE at h ⊢
  rw [Bool.and_eq_true, Bool.or_eq_true] at h
  obtain ⟨hn, h⟩ := h
  have hn1 : ((moreE a m).f0.toList != b.f0.toList) = true := hn
  have hn2 : (b.f0.toList != (moreE a m).f0.toList) = true := by
    rw [bne_iff_ne] at hn ⊢
    exact fun e => hn e.symm
  have e1 : againstE (moreE a m) b = againstE a b := rfl
  have e2 : againstE b a = true → againstE b (moreE a m) = true := fun h => by
    unfold againstE at h ⊢
    rw [List.any_eq_true] at h ⊢
    obtain ⟨x, hx, hy⟩ := h
    exact ⟨x, hx, by rw [gives_more, List.any_append, hy, Bool.true_or]⟩
  rw [hn1, hn2, e1]
  rcases h with h | h
  · rw [h]
    simp
  · rw [e2 h]
    simp
theorem sameA_l0 (l : List S27) (hl : l.length ≤ 1000) : ∀ (n i : Nat), n + i = l.length → Ev (fun k => keelsonlaw6_sameAtoms.l0 k l l (i : Int)) true
  | 0, i, h => by
    refine Ev.shift ?_
    simp only [keelsonlaw6_sameAtoms.l0]
    exact Ev.neg (by omega) (Ev.some_ _)
  | n + 1, i, h => by
    have hi : i < l.length := by omega
    refine Ev.shift ?_
    simp only [keelsonlaw6_sameAtoms.l0, rdT l i hi]
    refine Ev.pos (by omega) (Ev.pos (by omega) (Ev.pos (by omega) (Ev.neg (by simp) ?_)))
    rw [wrap_succ i (by omega)]
    exact sameA_l0 l hl n (i + 1) (by omega)
theorem sameA_f (l : List S27) (hl : l.length ≤ 1000) : Ev (fun k => keelsonlaw6_sameAtoms.f k l l) true := by
  simp only [keelsonlaw6_sameAtoms.f]
  have := sameA_l0 l hl l.length 0 (by omega)
  exact Ev.pos trivial (by simpa using this)
theorem C_prefix {w : World} {A : Option Addr} {l : List S27} {m : S27} (h : KA.C w A (l ++ [m]).length (l ++ [m])) : KA.C w A l.length l := by
  obtain ⟨_, h2, h3⟩ := h
  refine ⟨rfl, by simp at h2; omega, fun _ => ?_⟩
  obtain ⟨a, ha, hf⟩ := h3 (by simp)
  exact ⟨a, ha, fun j p hj => hf j p (by rw [List.getElem?_append_left (List.getElem?_eq_some_iff.1 hj).1]; exact hj)⟩
theorem EC_more {W : World} {a : E6} {p : EA} {m : S27} {A : Option Addr} {c : Nat} (h : EC W a p) (hr : Kd.C KA W A (a.f5 ++ [m]).length (a.f5 ++ [m])) (hc : (a.f5 ++ [m]).length ≤ c) : EC W (moreE a m) { p with A5 := A, c5 := c } :=
  ⟨h.r2, h.k2, h.r3, h.k3, h.r4, h.k4, hr, hc⟩
end Go.Proofs.YtooomjcdlfdnmaaGreatDoor.Ent
