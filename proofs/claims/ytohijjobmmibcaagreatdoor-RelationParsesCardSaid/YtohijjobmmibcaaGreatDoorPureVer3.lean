import Derived.Test.YtohijjobmmibcaaGreatDoorPureVer2
namespace Go.Proofs.YtohijjobmmibcaaGreatDoor.Pure
open Go.RowKit Go.Proofs.YtohijjobmmibcaaGreatDoor.PA Go.Proofs.YtohijjobmmibcaaGreatDoorW.PrintWords Go.Proofs.YtohijjobmmibcaaGreatDoorW.PrintLast Go.Proofs.YtohijjobmmibcaaGreatDoorW.PrintMore
def cutAt (c : UInt8) : Bs → Option (Bs × Bs)
  | [] => none
  | d :: t => if d = c then some ([], t) else (cutAt c t).map fun p => (d :: p.1, p.2)
theorem cutAt_none {c : UInt8} : ∀ {l : Bs}, cutAt c l = none ↔ c ∉ l
  | [] => by simp [cutAt]
  | d :: t => by
    have ih := cutAt_none (c := c) (l := t)
    unfold cutAt
    by_cases h : d = c
    · simp [h]
    · rw [if_neg h, Option.map_eq_none_iff, ih]
      simp [Ne.symm h]
theorem cutAt_some {c : UInt8} : ∀ {l a b : Bs}, cutAt c l = some (a, b) ↔ l = a ++ c :: b ∧ c ∉ a
  | [], a, b => by simp [cutAt]
  | d :: t, a, b => by
    unfold cutAt
    by_cases h : d = c
    · rw [if_pos h]
      subst h
      constructor
      · intro h; cases h; simp
      · rintro ⟨h1, h2⟩
        cases a with
        | nil => simp at h1; rw [h1]
        | cons x a => simp at h1; exact absurd (by simp [h1.1]) h2
    · rw [if_neg h, Option.map_eq_some_iff]
      constructor
      · rintro ⟨⟨p, q⟩, h1, h2⟩
        have := (cutAt_some (c := c)).1 h1
        cases h2
        exact ⟨by simp [this.1], by simp [this.2, Ne.symm h]⟩
      · rintro ⟨h1, h2⟩
        cases a with
        | nil => simp at h1; exact absurd h1.1 h
        | cons x a =>
          simp at h1 h2
          exact ⟨(a, b), (cutAt_some (c := c)).2 ⟨h1.2, h2.2⟩, by simp [h1.1]⟩
def lastAt (c : UInt8) (l : Bs) : Option (Bs × Bs) := (cutAt c l.reverse).map fun p => (p.2.reverse, p.1.reverse)
theorem lastAt_none {c : UInt8} {l : Bs} : lastAt c l = none ↔ c ∉ l := by
  unfold lastAt; rw [Option.map_eq_none_iff, cutAt_none]; simp
theorem lastAt_some {c : UInt8} {l a b : Bs} : lastAt c l = some (a, b) ↔ l = a ++ c :: b ∧ c ∉ b := by
  unfold lastAt
  rw [Option.map_eq_some_iff]
  constructor
  · rintro ⟨⟨p, q⟩, h1, h2⟩
    have := cutAt_some.1 h1
    cases h2
    refine ⟨?_, by simpa using this.2⟩
    have h := congrArg List.reverse this.1
    simpa using h
  · rintro ⟨h1, h2⟩
    exact ⟨(b.reverse, a.reverse), cutAt_some.2 ⟨by rw [h1]; simp, by simpa using h2⟩, by simp⟩
theorem LastIndexByte_f (l : Bs) (c : UInt8) (h : l.length < 2000000000000000000) :
    strings_LastIndexByte.f (mk l) (c.toNat : Int) = some (match lastAt c l with | some (a, _) => (a.length : Int) | none => -1) := by
  unfold strings_LastIndexByte.f
  rw [mk_size, if_pos (by omega)]
  congr 1
  have e : ∀ j, j < l.length → (((mk l).data[j]!).toNat : Int) = ((l.getD j 0).toNat : Int) := by
    intro j hj
    have h2 : j < (mk l).data.size := by simpa [mk] using hj
    rw [getElem!_pos (mk l).data j h2, List.getD_eq_getElem?_getD, List.getElem?_eq_getElem hj]
    simp [mk]
  rcases Lib.lastIdx_spec (mk l) c.toNat l.length with ⟨h1, h2⟩ | ⟨i, hi, h1, h2, h3⟩
  · have hn : c ∉ l := by
      intro hc
      obtain ⟨j, hj, hv⟩ := List.getElem_of_mem hc
      refine h2 j hj ?_
      rw [e j hj, List.getD_eq_getElem?_getD, List.getElem?_eq_getElem hj, Option.getD_some, hv]
    rw [lastAt_none.2 hn]
    unfold Lib.lastIndexByte
    rw [mk_size, h1]
  · have hs : lastAt c l = some (l.take i, l.drop (i + 1)) := by
      refine lastAt_some.2 ⟨?_, ?_⟩
      · have : l[i] = c := by
          rw [e i hi, List.getD_eq_getElem?_getD, List.getElem?_eq_getElem hi, Option.getD_some] at h2
          exact UInt8.toNat_inj.1 (by omega)
        rw [← this]
        conv => lhs; rw [← List.take_append_drop i l]
        rw [List.drop_eq_getElem_cons hi]
      · intro hc
        obtain ⟨j, hj, hv⟩ := List.getElem_of_mem hc
        rw [List.length_drop] at hj
        rw [List.getElem_drop] at hv
        refine h3 (i + 1 + j) (by omega) (by omega) ?_
        rw [e _ (by omega), List.getD_eq_getElem?_getD, List.getElem?_eq_getElem (by omega), Option.getD_some, hv]
    rw [hs]
    unfold Lib.lastIndexByte
    rw [mk_size, h1]
    simp only []
    rw [List.length_take]; omega
theorem idx_cut : ∀ (l : Bs) (c : UInt8), Lib.indexByte l c = (match cutAt c l with | some (a, _) => (a.length : Int) | none => -1)
  | [], c => rfl
  | d :: t, c => by
    have ih := idx_cut t c
    unfold Lib.indexByte cutAt
    by_cases h : d = c
    · subst h; simp
    · have h' : (d == c) = false := by simpa using h
      rw [h', if_neg (by simp), if_neg h, ih]
      cases cutAt c t with
      | none => rfl
      | some p =>
        simp only [Option.map_some, List.length_cons]
        have hx : ((p.1.length : Int) == -1) = false := by rw [beq_eq_false_iff_ne]; omega
        rw [hx, if_neg (by simp)]
        exact (Int.natCast_succ _).symm
theorem Cut_f (l : Bs) (c : UInt8) (h : l.length < 4294967281) :
    strings_Cut.f (mk l) (mk [c]) = some (match cutAt c l with | some (a, b) => (mk a, mk b, true) | none => (mk l, mk [], false)) := by
  unfold strings_Cut.f Lib.cut
  rw [mk_size, if_pos h]
  simp only [mk_dataList, Lib.index_one, idx_cut]
  cases hc : cutAt c l with
  | none => rfl
  | some p =>
    obtain ⟨a, b⟩ := p
    have hl := (cutAt_some.1 hc).1
    simp only []
    rw [if_pos (by omega)]
    congr 1
    simp only [Int.toNat_natCast, List.length_cons, List.length_nil]
    have h1 : l.take a.length = a := by rw [hl]; simp
    have h2 : l.drop (a.length + (0 + 1)) = b := by
      rw [hl, show a.length + (0 + 1) = (a ++ [c]).length by simp, show a ++ c :: b = (a ++ [c]) ++ b by simp, List.drop_left]
    rw [h1, h2]
    rfl
def badV : Int × Bs × Bs × Int := (0, [], [], 4)
def finV (e : Int) (rest : Bs) : Int × Bs × Bs × Int :=
  match lastAt 45 rest with
  | some (u, r) => if r = [] then badV else if rightV e u r = true then (e, u, r, 0) else badV
  | none => if rightV e rest [] = true then (e, rest, [], 0) else badV
def parseV (s : Bs) : Int × Bs × Bs × Int :=
  if s.length > 60 then (0, [], [], 9)
  else match cutAt 58 s with
    | some (ep, behind) =>
      match Lib.atoiAll ep with
      | .ok n => if n < 0 then badV else if Lib.itoa n = ep then finV n behind else badV
      | _ => badV
    | none => finV 0 s
def toB (p : Int × Bs × Bs × Int) : Int × ByteArray × ByteArray × Int := (p.1, mk p.2.1, mk p.2.2.1, p.2.2.2)
theorem fin_j0 (e : Int) (rest : Bs) (h : rest.length < 1000) : Ev (fun k => version_Parse.j0 k (mk rest) e (⟨#[]⟩ : ByteArray) (⟨#[]⟩ : ByteArray)) (toB (finV e rest)) := by
  refine Ev.shift ?_
  simp only [version_Parse.j0, lit0, mk_size, mk_toList]
  refine Ev.bindc (LastIndexByte_f rest 45 (by omega)) ?_
  unfold finV
  cases hl : lastAt 45 rest with
  | none =>
    simp only []
    refine Ev.neg (by omega) (Ev.bind (Right_f e rest [] (by omega) (by simp)) ?_)
    by_cases hr : rightV e rest [] = true
    · exact Ev.pos hr (Ev.eq_ (by rw [if_pos hr]; rfl))
    · exact Ev.neg hr (Ev.eq_ (by rw [if_neg hr]; rfl))
  | some p =>
    obtain ⟨u, r⟩ := p
    obtain ⟨he, hn⟩ := lastAt_some.1 hl
    have hlen : rest.length = u.length + (r.length + 1) := by rw [he]; simp
    have h1 : (mk rest).extract ((u.length : Int) + 1).toNat rest.length = mk r := by
      rw [mk_ext_to, he, show ((u.length : Int) + 1).toNat = (u ++ [45]).length by simp, show u ++ 45 :: r = (u ++ [45]) ++ r by simp, List.drop_left]
    have h2 : (mk rest).extract 0 u.length = mk u := by rw [mk_ext_from, he]; simp
    simp only []
    rw [wrap_in _ (by omega) (by omega)]
    refine Ev.pos (by omega) (Ev.pos (by omega) (Ev.pos (by omega) (Ev.pos (by omega) (Ev.pos (by omega) ?_))))
    simp only [Int.toNat_natCast, h1, h2, mk_toList]
    by_cases hr : r = []
    · exact Ev.pos hr (Ev.eq_ (by rw [if_pos hr]; rfl))
    · rw [if_neg hr]
      refine Ev.neg hr (Ev.bind (Right_f e u r (by omega) (by omega)) ?_)
      by_cases hr : rightV e u r = true
      · exact Ev.pos hr (Ev.eq_ (by rw [if_pos hr]; rfl))
      · exact Ev.neg hr (Ev.eq_ (by rw [if_neg hr]; rfl))
theorem Parse_f (s : Bs) : Ev (fun k => version_Parse.f k (mk s)) (toB (parseV s)) := by
  simp only [version_Parse.f, mk_size]
  unfold parseV
  by_cases h : s.length > 60
  · rw [if_pos h]
    exact Ev.pos (by omega) (Ev.eq_ rfl)
  · rw [if_neg h]
    refine Ev.neg (by omega) (Ev.bindc (by rw [lit58]; exact Cut_f s 58 (by omega)) ?_)
    cases hc : cutAt 58 s with
    | none =>
      simp only []
      exact Ev.neg (by simp) (fin_j0 0 s (by omega))
    | some p =>
      obtain ⟨ep, b⟩ := p
      have hlen : s.length = ep.length + (b.length + 1) := by rw [(cutAt_some.1 hc).1]; simp
      simp only []
      refine Ev.pos (by simp) ?_
      have hA : strconv_Atoi.f (mk ep) = some (match Lib.atoiAll ep with | .ok v => (v, none) | .range => (Lib.atoiSat ep, some 0) | _ => (0, some 0)) := by
        unfold strconv_Atoi.f
        rw [mk_size, if_pos (by omega), mk_dataList]
        rcases Lib.atoiAll ep with v | _ | _ <;> rfl
      refine Ev.bindc hA ?_
      rcases hv : Lib.atoiAll ep with v | _ | _
      · simp only []
        have hb := Lib.atoiAll_bounds hv
        refine Ev.pos rfl ?_
        by_cases hn : v < 0
        · rw [if_pos hn]; exact Ev.pos hn (Ev.eq_ rfl)
        · rw [if_neg hn]
          refine Ev.neg hn (Ev.bindc (Itoa_f v (by omega) (by omega)) ?_)
          by_cases hi : Lib.itoa v = ep
          · rw [if_pos hi]
            exact Ev.pos (by rw [mk_toList, mk_toList]; exact hi) (fin_j0 v b (by omega))
          · rw [if_neg hi]
            exact Ev.neg (by rw [mk_toList, mk_toList]; exact hi) (Ev.eq_ rfl)
      · simp only []
        exact Ev.neg (by simp) (Ev.eq_ rfl)
      · simp only []
        exact Ev.neg (by simp) (Ev.eq_ rfl)
theorem parseV_len (s : Bs) : (parseV s).2.1.length ≤ 60 ∧ (parseV s).2.2.1.length ≤ 60 := by
  have fin : ∀ (e : Int) (r : Bs), r.length ≤ 60 → (finV e r).2.1.length ≤ 60 ∧ (finV e r).2.2.1.length ≤ 60 := by
    intro e r h
    unfold finV
    cases hl : lastAt 45 r with
    | none => simp only []; split <;> simp [badV]; exact h
    | some p =>
      obtain ⟨u, q⟩ := p
      have : r.length = u.length + (q.length + 1) := by rw [(lastAt_some.1 hl).1]; simp
      simp only []
      split
      · simp [badV]
      · split
        · exact ⟨by simp; omega, by simp; omega⟩
        · simp [badV]
  unfold parseV
  split
  · simp
  · rename_i h
    cases hc : cutAt 58 s with
    | none => exact fin 0 s (by omega)
    | some p =>
      obtain ⟨ep, b⟩ := p
      have hlen : s.length = ep.length + (b.length + 1) := by rw [(cutAt_some.1 hc).1]; simp
      simp only []
      split
      · split
        · simp [badV]
        · split
          · exact fin _ b (by omega)
          · simp [badV]
      · simp [badV]
end Go.Proofs.YtohijjobmmibcaaGreatDoor.Pure
