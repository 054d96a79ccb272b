import Derived.Test.YtohijjobmmibcaaDoorPureVer3
import Derived.Test.YtohijjobmmibcaaDoorPAx5
import Derived.Test.YtohijjobmmibcaaDoorPAx9
import Derived.Test.YtohijjobmmibcaaDoorPAx7
namespace Go.Proofs.YtohijjobmmibcaaDoor.Pure
open Go.RowKit Go.Proofs.YtohijjobmmibcaaDoor.PA Go.Proofs.YtohijjobmmibcaaDoorW.PrintWords Go.Proofs.YtohijjobmmibcaaDoorW.PrintLast Go.Proofs.YtohijjobmmibcaaDoorW.PrintMore
theorem shown3_true : keelsonlaw3_shown.f 300 = some true := by decide +kernel
theorem shown3_ev : Ev (fun k => keelsonlaw3_shown.f k) true := Ev.of (fun k => keelsonlaw3_shown.mono k) shown3_true
def selV (op c : Int) : Bool := if op = 1 then decide (c < 0) else if op = 2 then decide (c ≤ 0) else if op = 3 then c == 0 else if op = 4 then decide (c ≥ 0) else if op = 5 then decide (c > 0) else false
def cV (s t : Bs) : Int := compareV (parseV s).1 (parseV s).2.1 (parseV s).2.2.1 (parseV t).1 (parseV t).2.1 (parseV t).2.2.1
def okV (s : Bs) : Bool := decide ((parseV s).2.2.2 = 0)
def holdsV (op : Int) (s t : Bs) : Bool := if op = 0 then true else okV s && okV t && selV op (cV s t)
theorem sel_some (op c : Int) : (if op = 1 then (some (decide (c < 0))) else (if op = 2 then (some (decide (c ≤ 0))) else (if op = 3 then (some (c == 0)) else (if op = 4 then (some (decide (c ≥ 0))) else (if op = 5 then (some (decide (c > 0))) else (some false)))))) = some (selV op c) := by
  unfold selV
  (repeat' split) <;> rfl
theorem Holds_f (op : Int) (s t : Bs) : Ev (fun k => relation_Holds.f k op (mk s) (mk t)) (holdsV op s t) := by
  simp only [relation_Holds.f]
  unfold holdsV
  by_cases h0 : op = 0
  · rw [if_pos h0]; exact Ev.pos h0 (Ev.some_ _)
  · rw [if_neg h0]
    refine Ev.neg h0 (Ev.bind (Parse_f s) (Ev.bind (Parse_f t) ?_))
    have la := parseV_len s
    have lb := parseV_len t
    unfold okV cV toB
    generalize parseV s = p at *
    generalize parseV t = q at *
    obtain ⟨e, u, r, x⟩ := p
    obtain ⟨e', u', r', y⟩ := q
    simp only [] at *
    by_cases hx : x = 0
    · rw [decide_eq_true hx, Bool.true_and]
      refine Ev.pos hx (Ev.shift ?_)
      simp only [relation_Holds.j0]
      by_cases hy : y = 0
      · rw [decide_eq_true hy, Bool.true_and]
        subst hy
        refine Ev.neg (by simp) (Ev.bind (Compare_f _ _ _ _ _ _ (by omega) (by omega) (by omega) (by omega)) ?_)
        exact Ev.const_ (sel_some op _)
      · rw [decide_eq_false hy, Bool.false_and]
        exact Ev.pos (by rw [bne_iff_ne]; exact hy) (Ev.some_ _)
    · rw [decide_eq_false hx]
      refine Ev.neg hx (Ev.shift ?_)
      simp only [relation_Holds.j0]
      exact Ev.pos trivial (Ev.eq_ rfl)
def meetsV (n : Bs) (op : Int) (v name have_ : Bs) : Bool := decide (n = name) && holdsV op have_ v
theorem Meets_f (n : Bs) (op : Int) (v name have_ : Bs) : Ev (fun k => relation_Meets.f k (mk n) op (mk v) (mk name) (mk have_)) (meetsV n op v name have_) := by
  simp only [relation_Meets.f, mk_toList]
  unfold meetsV
  by_cases h : n = name
  · rw [decide_eq_true h, Bool.true_and]
    exact Ev.pos h (Ev.bind (Holds_f _ _ _) (Ev.some_ _))
  · rw [decide_eq_false h, Bool.false_and]
    exact Ev.neg h (Ev.some_ _)
def givesV (n : Bs) (op : Int) (v m : Bs) (gop : Int) (w : Bs) : Bool := decide (n = m) && (decide (op = 0) || (decide (gop = 3) && holdsV op w v))
theorem Provides_f (n : Bs) (op : Int) (v m : Bs) (gop : Int) (w : Bs) : Ev (fun k => relation_Provides.f k (mk n) op (mk v) (mk m) gop (mk w)) (givesV n op v m gop w) := by
  simp only [relation_Provides.f, mk_toList]
  unfold givesV
  by_cases h : n = m
  · rw [decide_eq_true h, Bool.true_and]
    refine Ev.pos h ?_
    by_cases h0 : op = 0
    · rw [decide_eq_true h0, Bool.true_or]; exact Ev.pos h0 (Ev.some_ _)
    · rw [decide_eq_false h0, Bool.false_or]
      refine Ev.neg h0 ?_
      by_cases h3 : gop = 3
      · rw [decide_eq_true h3, Bool.true_and]; exact Ev.pos h3 (Ev.bind (Holds_f _ _ _) (Ev.some_ _))
      · rw [decide_eq_false h3, Bool.false_and]; exact Ev.neg h3 (Ev.some_ _)
  · rw [decide_eq_false h, Bool.false_and]
    exact Ev.neg h (Ev.some_ _)
end Go.Proofs.YtohijjobmmibcaaDoor.Pure
