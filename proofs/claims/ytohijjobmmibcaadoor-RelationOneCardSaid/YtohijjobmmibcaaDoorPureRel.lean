import Derived.Test.YtohijjobmmibcaaDoorPureVer3
import Derived.Test.YtohijjobmmibcaaDoorPAx5
import Derived.Test.YtohijjobmmibcaaDoorPAx0
import Derived.Test.YtohijjobmmibcaaDoorPAx7
namespace Go.Proofs.YtohijjobmmibcaaDoor.Pure
open Go.RowKit Go.Proofs.YtohijjobmmibcaaDoor.PA Go.Proofs.YtohijjobmmibcaaDoorW.PrintWords Go.Proofs.YtohijjobmmibcaaDoorW.PrintLast Go.Proofs.YtohijjobmmibcaaDoorW.PrintMore
theorem shown3_true : keelsonlaw3_shown.f 300 = some true := by decide +kernel
theorem shown3_ev : Ev (fun k => keelsonlaw3_shown.f k) true := Ev.of (fun k => keelsonlaw3_shown.mono k) shown3_true
def selV (op c : Int) : Bool := if op = 1 then decide (c < 0) else if op = 2 then decide (c ≤ 0) else if op = 3 then c == 0 else if op = 4 then decide (c ≥ 0) else if op = 5 then decide (c > 0) else false
def cV (s t : Bs) : Int := compareV (parseV s).1 (parseV s).2.1 (parseV s).2.2.1 (parseV t).1 (parseV t).2.1 (parseV t).2.2.1
def okV (s : Bs) : Bool := decide ((parseV s).2.2.2 = 0)
def holdsV (op : Int) (s t : Bs) : Bool := if op = 0 then true else okV s && okV t && selV op (cV s t)
theorem sel_some (op c : Int) : (if op = 1 then (some (decide (c < 0))) else (if op = 2 then (some (decide (c ≤ 0))) else (if op = 3 then (some (c == 0)) else (if op = 4 then (some (decide (c ≥ 0))) else (if op = 5 then (some (decide (c > 0))) else (some false)))))) = some (selV op c) := by
  unfold selV
  (repeat' split) <;> rfl
theorem Holds_f (op : Int) (s t : Bs) : Ev (fun k => relation_Holds.f k op (mk s) (mk t)) (holdsV op s t) := by
  simp only [relation_Holds.f]
  unfold holdsV
  by_cases h0 : op = 0
  · rw [if_pos h0]; exact Ev.pos h0 (Ev.some_ _)
  · rw [if_neg h0]
    refine Ev.neg h0 (Ev.bind (Parse_f s) (Ev.bind (Parse_f t) ?_))
    have la := parseV_len s
    have lb := parseV_len t
    unfold okV cV toB
    generalize parseV s = p at *
    generalize parseV t = q at *
    obtain ⟨e, u, r, x⟩ := p
    obtain ⟨e', u', r', y⟩ := q
    simp only [] at *
    by_cases hx : x = 0
    · rw [decide_eq_true hx, Bool.true_and]
      refine Ev.pos hx (Ev.shift ?_)
      simp only [relation_Holds.j0]
      by_cases hy : y = 0
      · rw [decide_eq_true hy, Bool.true_and]
        subst hy
        refine Ev.neg (by simp) (Ev.bind (Compare_f _ _ _ _ _ _ (by omega) (by omega) (by omega) (by omega)) ?_)
        exact Ev.const_ (sel_some op _)
      · rw [decide_eq_false hy, Bool.false_and]
        exact Ev.pos (by rw [bne_iff_ne]; exact hy) (Ev.some_ _)
    · rw [decide_eq_false hx]
      refine Ev.neg hx (Ev.shift ?_)
      simp only [relation_Holds.j0]
      exact Ev.pos trivial (Ev.eq_ rfl)
theorem cV_flip (s t : Bs) : cV t s = -cV s t := by
  unfold cV compareV
  have f1 := cmpI_flip (parseV t).1 (parseV s).1
  have f2 := cmpT_flip (parseV t).2.1 (parseV s).2.1
  have f3 := cmpT_flip (parseV t).2.2.1 (parseV s).2.2.1
  rw [f1, f2, f3]
  simp only [orI]
  (repeat' split) <;> omega
theorem cV_self (s : Bs) : cV s s = 0 := by have := cV_flip s s; omega
end Go.Proofs.YtohijjobmmibcaaDoor.Pure
