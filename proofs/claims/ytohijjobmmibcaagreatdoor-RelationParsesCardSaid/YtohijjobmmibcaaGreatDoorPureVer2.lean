import Derived.Test.YtohijjobmmibcaaGreatDoorPureVer
import Derived.Test.YtohijjobmmibcaaGreatDoorPAx4
import Derived.Test.YtohijjobmmibcaaGreatDoorPAx6
import Derived.Lib.ItoaLen
import Derived.Lib.IndexBytes
import Derived.Lib.AtoiAllCases
namespace Go.Proofs.YtohijjobmmibcaaGreatDoor.Pure
open Go.RowKit Go.Proofs.YtohijjobmmibcaaGreatDoor.PA Go.Proofs.YtohijjobmmibcaaGreatDoorW.PrintWords Go.Proofs.YtohijjobmmibcaaGreatDoorW.PrintLast Go.Proofs.YtohijjobmmibcaaGreatDoorW.PrintMore
def okR (c : UInt8) : Bool := dg c || lt c || decide (c = 46 ∨ c = 43 ∨ c = 126)
def okU (c : UInt8) : Bool := okR c || decide (c = 45 ∨ c = 58)
def textV (e : Int) (u r : Bs) : Bs := (if e = 0 then [] else Lib.itoa e ++ [58]) ++ (u ++ (if r = [] then [] else 45 :: r))
def fstDg (u : Bs) : Bool := match u with | [] => false | c :: _ => dg c
def rightV (e : Int) (u r : Bs) : Bool :=
  decide (0 ≤ e) && decide (e ≤ 999999999) && fstDg u && !(decide (45 ∈ u) && decide (r = [])) && !(decide (58 ∈ u) && decide (e = 0)) && u.all okU && r.all okR && decide ((textV e u r).length ≤ 60)
theorem idx_mem : ∀ (l : Bs) (c : UInt8), 0 ≤ Lib.indexByte l c ↔ c ∈ l
  | [], c => by simp [Lib.indexByte]
  | b :: l, c => by
    have ih := idx_mem l c
    have hg := Lib.indexByte_ge l c
    unfold Lib.indexByte
    by_cases h : b = c
    · subst h; simp
    · have h' : (b == c) = false := by simpa using h
      rw [h', if_neg (by simp), List.mem_cons]
      by_cases h2 : Lib.indexByte l c = -1
      · rw [h2, if_pos (by rfl)]
        rw [h2] at ih
        constructor
        · intro h; omega
        · rintro (h3 | h3)
          · exact absurd h3.symm h
          · have := ih.2 h3; omega
      · rw [if_neg (by simpa using h2)]
        constructor
        · intro _; exact .inr (ih.1 (by omega))
        · intro _; omega
theorem IndexByte_f (l : Bs) (c : UInt8) : strings_IndexByte.f (mk l) (c.toNat : Int) = some (Lib.indexByte l c) := by
  unfold strings_IndexByte.f
  rw [toByte, mk_dataList]
theorem only_l0 (sg : ByteArray) : ∀ (t p : Bs), p.length + t.length < 4611686018427387904 →
    Ev (fun k => version_only.l0 k (mk (p ++ t)) sg ((p.length + t.length : Nat) : Int) (p.length : Int)) (t.all fun c => decide (c ∈ sg.data.toList)) := by
  intro t
  induction t with
  | nil =>
    intro p h
    refine Ev.shift ?_
    simp only [version_only.l0]
    exact Ev.neg (by simp) (Ev.eq_ rfl)
  | cons c t ih =>
    intro p h
    refine Ev.shift ?_
    simp only [version_only.l0, mk_size, mk_bt_at]
    simp only [List.length_cons, List.length_append] at *
    refine Ev.pos (by omega) (Ev.pos (by omega) (Ev.pos (by omega) (Ev.bindc (a := Lib.indexByte sg.data.toList c) (by unfold strings_IndexByte.f; rw [toByte]) ?_)))
    rw [List.all_cons]
    by_cases hc : c ∈ sg.data.toList
    · have := (idx_mem _ _).2 hc
      refine Ev.neg (by omega) ?_
      rw [wrap_succ _ (by omega), decide_eq_true hc, Bool.true_and]
      have := ih (p ++ [c]) (by simp; omega)
      simpa [Nat.add_assoc, Nat.add_comm 1] using this
    · have : ¬ 0 ≤ Lib.indexByte sg.data.toList c := fun h => hc ((idx_mem _ _).1 h)
      refine Ev.pos (by omega) (Ev.eq_ ?_)
      rw [decide_eq_false hc, Bool.false_and]
theorem only_f (u : Bs) (sg : ByteArray) (h : u.length < 4611686018427387904) : Ev (fun k => version_only.f k (mk u) sg) (u.all fun c => decide (c ∈ sg.data.toList)) := by
  have := only_l0 sg u [] (by simpa using h)
  simp only [version_only.f, mk_size]
  simpa using this
theorem okU_lit : ∀ c : UInt8, decide (c ∈ (⟨#[48, 49, 50, 51, 52, 53, 54, 55, 56, 57, 97, 98, 99, 100, 101, 102, 103, 104, 105, 106, 107, 108, 109, 110, 111, 112, 113, 114, 115, 116, 117, 118, 119, 120, 121, 122, 65, 66, 67, 68, 69, 70, 71, 72, 73, 74, 75, 76, 77, 78, 79, 80, 81, 82, 83, 84, 85, 86, 87, 88, 89, 90, 46, 43, 126, 45, 58]⟩ : ByteArray).data.toList) = okU c := byte_all (by decide +kernel)
theorem okR_lit : ∀ c : UInt8, decide (c ∈ (⟨#[48, 49, 50, 51, 52, 53, 54, 55, 56, 57, 97, 98, 99, 100, 101, 102, 103, 104, 105, 106, 107, 108, 109, 110, 111, 112, 113, 114, 115, 116, 117, 118, 119, 120, 121, 122, 65, 66, 67, 68, 69, 70, 71, 72, 73, 74, 75, 76, 77, 78, 79, 80, 81, 82, 83, 84, 85, 86, 87, 88, 89, 90, 46, 43, 126]⟩ : ByteArray).data.toList) = okR c := byte_all (by decide +kernel)
theorem onlyU_f (u : Bs) (h : u.length < 4611686018427387904) : Ev (fun k => version_only.f k (mk u) (⟨#[48, 49, 50, 51, 52, 53, 54, 55, 56, 57, 97, 98, 99, 100, 101, 102, 103, 104, 105, 106, 107, 108, 109, 110, 111, 112, 113, 114, 115, 116, 117, 118, 119, 120, 121, 122, 65, 66, 67, 68, 69, 70, 71, 72, 73, 74, 75, 76, 77, 78, 79, 80, 81, 82, 83, 84, 85, 86, 87, 88, 89, 90, 46, 43, 126, 45, 58]⟩ : ByteArray)) (u.all okU) := by
  have := only_f u (⟨#[48, 49, 50, 51, 52, 53, 54, 55, 56, 57, 97, 98, 99, 100, 101, 102, 103, 104, 105, 106, 107, 108, 109, 110, 111, 112, 113, 114, 115, 116, 117, 118, 119, 120, 121, 122, 65, 66, 67, 68, 69, 70, 71, 72, 73, 74, 75, 76, 77, 78, 79, 80, 81, 82, 83, 84, 85, 86, 87, 88, 89, 90, 46, 43, 126, 45, 58]⟩ : ByteArray) h
  rw [show (fun c => decide (c ∈ ((⟨#[48, 49, 50, 51, 52, 53, 54, 55, 56, 57, 97, 98, 99, 100, 101, 102, 103, 104, 105, 106, 107, 108, 109, 110, 111, 112, 113, 114, 115, 116, 117, 118, 119, 120, 121, 122, 65, 66, 67, 68, 69, 70, 71, 72, 73, 74, 75, 76, 77, 78, 79, 80, 81, 82, 83, 84, 85, 86, 87, 88, 89, 90, 46, 43, 126, 45, 58]⟩ : ByteArray)).data.toList)) = okU from funext okU_lit] at this
  exact this
theorem onlyR_f (u : Bs) (h : u.length < 4611686018427387904) : Ev (fun k => version_only.f k (mk u) (⟨#[48, 49, 50, 51, 52, 53, 54, 55, 56, 57, 97, 98, 99, 100, 101, 102, 103, 104, 105, 106, 107, 108, 109, 110, 111, 112, 113, 114, 115, 116, 117, 118, 119, 120, 121, 122, 65, 66, 67, 68, 69, 70, 71, 72, 73, 74, 75, 76, 77, 78, 79, 80, 81, 82, 83, 84, 85, 86, 87, 88, 89, 90, 46, 43, 126]⟩ : ByteArray)) (u.all okR) := by
  have := only_f u (⟨#[48, 49, 50, 51, 52, 53, 54, 55, 56, 57, 97, 98, 99, 100, 101, 102, 103, 104, 105, 106, 107, 108, 109, 110, 111, 112, 113, 114, 115, 116, 117, 118, 119, 120, 121, 122, 65, 66, 67, 68, 69, 70, 71, 72, 73, 74, 75, 76, 77, 78, 79, 80, 81, 82, 83, 84, 85, 86, 87, 88, 89, 90, 46, 43, 126]⟩ : ByteArray) h
  rw [show (fun c => decide (c ∈ ((⟨#[48, 49, 50, 51, 52, 53, 54, 55, 56, 57, 97, 98, 99, 100, 101, 102, 103, 104, 105, 106, 107, 108, 109, 110, 111, 112, 113, 114, 115, 116, 117, 118, 119, 120, 121, 122, 65, 66, 67, 68, 69, 70, 71, 72, 73, 74, 75, 76, 77, 78, 79, 80, 81, 82, 83, 84, 85, 86, 87, 88, 89, 90, 46, 43, 126]⟩ : ByteArray)).data.toList)) = okR from funext okR_lit] at this
  exact this
theorem lit45 : (⟨#[45]⟩ : ByteArray) = mk [45] := rfl
theorem lit58 : (⟨#[58]⟩ : ByteArray) = mk [58] := rfl
theorem lit0 : (⟨#[]⟩ : ByteArray) = mk [] := rfl
theorem Itoa_f (e : Int) (h0 : -9223372036854775808 ≤ e) (h1 : e ≤ 9223372036854775807) : strconv_Itoa.f e = some (mk (Lib.itoa e)) := by
  unfold strconv_Itoa.f
  rw [if_pos ⟨h0, h1⟩]
  rfl
theorem text_f (e : Int) (u r : Bs) (h0 : -9223372036854775808 ≤ e) (h1 : e ≤ 9223372036854775807) (hu : u.length < 2000000000000000000) (hr : r.length < 2000000000000000000) : version_text.f e (mk u) (mk r) = some (mk (textV e u r)) := by
  have hl := Lib.itoa_length_le e h0 h1
  unfold version_text.f textV
  simp only [mk_toList, mk_size, lit45, lit58, mk_app, Itoa_f e h0 h1, Option.bind_some, List.length_append, List.length_cons, List.length_nil]
  by_cases he : e = 0
  · rw [if_pos he, if_pos he]
    by_cases hr0 : r = []
    · rw [if_pos hr0, if_pos hr0]; simp
    · rw [if_neg hr0, if_neg hr0, if_pos (by omega), if_pos (by omega)]; simp
  · rw [if_neg he, if_neg he, if_pos (by omega), if_pos (by omega)]
    by_cases hr0 : r = []
    · rw [if_pos hr0, if_pos hr0]; simp
    · rw [if_neg hr0, if_neg hr0, if_pos (by omega), if_pos (by omega)]; simp
theorem Right_f (e : Int) (u r : Bs) (hu : u.length < 2000000000000000000) (hr : r.length < 2000000000000000000) : Ev (fun k => version_Right.f k e (mk u) (mk r)) (rightV e u r) := by
  have bad : ∀ x, Ev (fun k => version_Right.j0 k true x (mk u) (mk r)) false := fun x => by
    refine Ev.shift ?_
    simp only [version_Right.j0]
    exact Ev.pos trivial (Ev.some_ _)
  simp only [version_Right.f, mk_toList, mk_size]
  unfold rightV
  by_cases h0 : e < 0
  · rw [decide_eq_false (show ¬ 0 ≤ e by omega)]
    exact Ev.pos h0 (bad e)
  · rw [decide_eq_true (show 0 ≤ e by omega)]
    refine Ev.neg h0 ?_
    by_cases h1 : e > 999999999
    · rw [decide_eq_false (show ¬ e ≤ 999999999 by omega)]
      exact Ev.pos h1 (bad e)
    · rw [decide_eq_true (show e ≤ 999999999 by omega)]
      refine Ev.neg h1 ?_
      cases u with
      | nil => exact Ev.pos rfl (bad e)
      | cons c t =>
        refine Ev.neg (by simp) (Ev.pos (by simp) (Ev.bindc (by rw [mk_bt_0]; exact digit_f c) ?_))
        simp only [fstDg, Bool.true_and]
        refine Ev.shift ?_
        simp only [version_Right.j0]
        cases hc : dg c
        · exact Ev.pos rfl (Ev.eq_ (by simp))
        · refine Ev.neg (by simp) (Ev.bindc (IndexByte_f (c :: t) 45) ?_)
          simp only [Bool.true_and]
          have step2 : ∀ b : Bool, b = (decide (45 ∈ c :: t) && decide (r = [])) → Ev (fun k => version_Right.j1 k b e (mk (c :: t)) (mk r)) (!(decide (45 ∈ c :: t) && decide (r = [])) && !(decide (58 ∈ c :: t) && decide (e = 0)) && (c :: t).all okU && r.all okR && decide ((textV e (c :: t) r).length ≤ 60)) := by
            intro b hb
            rw [← hb]
            refine Ev.shift ?_
            simp only [version_Right.j1]
            cases b
            · refine Ev.neg (by simp) (Ev.bindc (IndexByte_f (c :: t) 58) ?_)
              simp only [Bool.not_false, Bool.true_and]
              have step3 : ∀ b : Bool, b = (decide (58 ∈ c :: t) && decide (e = 0)) → Ev (fun k => version_Right.j2 k b e (mk (c :: t)) (mk r)) (!(decide (58 ∈ c :: t) && decide (e = 0)) && (c :: t).all okU && r.all okR && decide ((textV e (c :: t) r).length ≤ 60)) := by
                intro b hb
                rw [← hb]
                refine Ev.shift ?_
                simp only [version_Right.j2]
                cases b
                · refine Ev.neg (by simp) (Ev.bind (onlyU_f (c :: t) (by omega)) ?_)
                  simp only [Bool.not_false, Bool.true_and]
                  cases h3 : (c :: t).all okU
                  · exact Ev.neg (by simp) (Ev.eq_ (by simp))
                  · refine Ev.pos rfl (Ev.bind (onlyR_f r (by omega)) ?_)
                    simp only [Bool.true_and]
                    cases h4 : r.all okR
                    · exact Ev.neg (by simp) (Ev.eq_ (by simp))
                    · refine Ev.pos rfl (Ev.bindc (text_f e (c :: t) r (by omega) (by omega) hu hr) (Ev.eq_ ?_))
                      rw [mk_size, Bool.true_and, decide_eq_decide]; omega
                · exact Ev.pos rfl (Ev.eq_ (by simp))
              by_cases h58 : (58 : UInt8) ∈ c :: t
              · refine Ev.pos ((idx_mem _ _).2 h58) (step3 _ ?_)
                rw [decide_eq_true h58, Bool.true_and]; rw [Bool.eq_iff_iff]; simp
              · refine Ev.neg (fun h => h58 ((idx_mem _ _).1 h)) (step3 _ ?_)
                rw [decide_eq_false h58, Bool.false_and]
            · exact Ev.pos rfl (Ev.eq_ (by simp))
          by_cases h45 : (45 : UInt8) ∈ c :: t
          · refine Ev.pos ((idx_mem _ _).2 h45) (step2 _ ?_)
            rw [decide_eq_true h45, Bool.true_and]; rw [mk_toList, Bool.eq_iff_iff]; simp
          · refine Ev.neg (fun h => h45 ((idx_mem _ _).1 h)) (step2 _ ?_)
            rw [decide_eq_false h45, Bool.false_and]
end Go.Proofs.YtohijjobmmibcaaGreatDoor.Pure
