import Derived.Test.YtooomjcdlfdnmaaGreatDoorPureRelParse
import Derived.Test.YtooomjcdlfdnmaaGreatDoorDepAppend2
import Derived.Test.YtooomjcdlfdnmaaGreatDoorPAx10
namespace Go.Proofs.YtooomjcdlfdnmaaGreatDoor.Pure
open Go.RowKit Go.Proofs.YtooomjcdlfdnmaaGreatDoor.PA Go.Proofs.YtooomjcdlfdnmaaGreatDoorW.PrintWords Go.Proofs.YtooomjcdlfdnmaaGreatDoorW.PrintLast Go.Proofs.YtooomjcdlfdnmaaGreatDoorW.PrintMore
open Dep (pcs splitB trimS)
abbrev S3 := PA.S27
def atomV (s : Bs) : S3 := ⟨mk (parseA s).1, (parseA s).2.1, mk (parseA s).2.2.1⟩
def grpV : List Bs → List S3 → List S3 × Int
  | [], g => (g, 0)
  | x :: r, g => if (parseA x).2.2.2 = 0 then grpV r (g ++ [atomV x]) else ([], (parseA x).2.2.2)
def grpsV : List Bs → List (List S3) → List (List S3) × Int
  | [], l => (l, 0)
  | p :: r, l => if (grpV (pcs 124 p) []).2 = 0 then grpsV r (l ++ [(grpV (pcs 124 p) []).1]) else ([], (grpV (pcs 124 p) []).2)
def bigV (p : Bs) : Bool := decide (6 ≤ p.count 124)
def depV (s : Bs) : List (List S3) × Int :=
  if s = [] then ([], 0) else if ((pcs 44 s).length : Int) > 12 then ([], 8) else if (pcs 44 s).any bigV = true then ([], 8) else grpsV (pcs 44 s) []
theorem grp_f : ∀ (ps : List Bs) (g : List S3), (∀ p ∈ ps, p.length < 1000000) → Ev (fun k => groupF k ps g) (grpV ps g)
  | [], g, _ => Ev.some_ _
  | x :: r, g, h => by
    simp only [groupF]
    refine Ev.bind (Parse_A x (h x (by simp))) ?_
    rw [grpV]
    by_cases he : (parseA x).2.2.2 = 0
    · rw [if_pos he]
      exact Ev.pos he (grp_f r _ (fun p hp => h p (by simp [hp])))
    · rw [if_neg he]
      exact Ev.neg he (Ev.some_ _)
theorem grps_f : ∀ (ps : List Bs) (l : List (List S3)), (∀ p ∈ ps, p.length < 1000000) → Ev (fun k => groupsF k ps l) (grpsV ps l)
  | [], l, _ => Ev.some_ _
  | p :: r, l, h => by
    simp only [groupsF]
    refine Ev.bind (grp_f (pcs 124 p) [] (fun q hq => Nat.lt_of_le_of_lt (Dep.pcs_mem_len hq) (h p (by simp)))) ?_
    rw [grpsV]
    by_cases he : (grpV (pcs 124 p) []).2 = 0
    · rw [if_pos he]
      exact Ev.pos he (grps_f r _ (fun q hq => h q (by simp [hq])))
    · rw [if_neg he]
      exact Ev.neg he (Ev.some_ _)
theorem count1_f (p : Bs) : depends_Parse_1.f (mk p) = some (bigV p) := by
  simp only [depends_Parse_1.f, strings_Count.f, mk_dataList]
  show some (decide ((Lib.countByte p 124 : Int) ≥ 6)) = some (bigV p)
  unfold bigV Lib.countByte
  congr 1
  simp only [ge_iff_le, decide_eq_decide]
  omega
theorem rdOf_mk (ps : List Bs) (i : Nat) (hi : i < ps.length) : rdOf ByteArray.empty (ps.map mk) (i : Int) = mk ps[i] := by
  unfold rdOf
  rw [Int.toNat_natCast, List.getD_eq_getElem?_getD, List.getElem?_map, List.getElem?_eq_getElem hi]
  rfl
theorem idx31_f (ps : List Bs) (hl : ps.length < 1000000) : ∀ (n i : Nat), n + i = ps.length → ∃ r, Ev (fun k => slices_IndexFunc_string_string_142.l0 k (ps.map mk) ((ps.map mk).length : Int) (i : Int)) r ∧ decide (r ≥ 0) = (ps.drop i).any bigV
  | 0, i, h => by
    refine ⟨-1, Ev.shift ?_, ?_⟩
    · simp only [slices_IndexFunc_string_string_142.l0]
      exact Ev.neg (by simp; omega) (Ev.some_ _)
    · rw [List.drop_of_length_le (by omega)]; rfl
  | n + 1, i, h => by
    have hi : i < ps.length := by omega
    rw [List.drop_eq_getElem_cons hi, List.any_cons]
    cases hb : bigV ps[i] with
    | true =>
      refine ⟨i, Ev.shift ?_, by simp⟩
      simp only [slices_IndexFunc_string_string_142.l0, List.length_map]
      refine Ev.pos (by omega) (Ev.pos (by omega) (Ev.pos (by omega) (Ev.bindc (by rw [rdOf_mk ps i hi, count1_f, hb]) (Ev.pos rfl (Ev.some_ _)))))
    | false =>
      obtain ⟨r, h1, h2⟩ := idx31_f ps hl n (i + 1) (by omega)
      refine ⟨r, Ev.shift ?_, by rw [h2]; rfl⟩
      simp only [slices_IndexFunc_string_string_142.l0, List.length_map]
      rw [List.length_map] at h1
      refine Ev.pos (by omega) (Ev.pos (by omega) (Ev.pos (by omega) (Ev.bindc (by rw [rdOf_mk ps i hi, count1_f, hb]) (Ev.neg (by simp) ?_))))
      rw [wrap_succ i (by omega)]
      exact h1
theorem any31_f (ps : List Bs) (hl : ps.length < 1000000) : Ev (fun k => slices_ContainsFunc_string_string_142.f k (ps.map mk) 0) (ps.any bigV) := by
  obtain ⟨r, h1, h2⟩ := idx31_f ps hl ps.length 0 (by omega)
  simp only [slices_ContainsFunc_string_string_142.f, slices_IndexFunc_string_string_142.f]
  exact Ev.bind h1 (Ev.eq_ h2)
theorem DParse_f (s : Bs) (hs : s.length < 1000000) : Ev (fun k => depends_Parse.f k (mk s)) (depV s) := by
  simp only [depends_Parse.f, mk_toList]
  unfold depV
  by_cases h0 : s = []
  · rw [if_pos h0]; exact Ev.pos h0 (Ev.some_ _)
  · rw [if_neg h0]
    refine Ev.neg h0 (Ev.pos (by omega) ?_)
    by_cases h12 : ((pcs 44 s).length : Int) > 12
    · rw [if_pos h12]; exact Ev.pos h12 (Ev.some_ _)
    · rw [if_neg h12]
      refine Ev.neg h12 (Ev.bind (any31_f (pcs 44 s) (by omega)) ?_)
      by_cases hb : (pcs 44 s).any bigV = true
      · rw [if_pos hb]; exact Ev.pos hb (Ev.some_ _)
      · rw [if_neg hb]; exact Ev.neg hb (grps_f _ _ (fun p hp => Nat.lt_of_le_of_lt (Dep.pcs_mem_len hp) hs))
def datV (s : Bs) : List S3 × Int := if (depV s).2 = 0 then atomsF (depV s).1 [] else ([], (depV s).2)
theorem DAtoms_f (s : Bs) (hs : s.length < 1000000) : Ev (fun k => depends_Atoms.f k (mk s)) (datV s) := by
  simp only [depends_Atoms.f]
  refine Ev.bind (DParse_f s hs) ?_
  unfold datV
  by_cases h : (depV s).2 = 0
  · simp only [if_pos h]; exact Ev.some_ _
  · simp only [if_neg h]; exact Ev.some_ _
end Go.Proofs.YtooomjcdlfdnmaaGreatDoor.Pure
