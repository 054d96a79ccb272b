import Derived.Test.YtjbbgekkombpnaaGreatDoorDepAppend2
import Derived.Test.YtjbbgekkombpnaaGreatDoorPAx9
import Derived.Test.YtjbbgekkombpnaaGreatDoorPAx4
import Derived.Test.YtjbbgekkombpnaaGreatDoorPAx10
import Derived.Lib.ItoaLen
import Derived.Lib.IndexBytes
import Derived.Lib.AtoiAllCases
namespace Go.Proofs.YtjbbgekkombpnaaGreatDoor.Pure
def hd : List Int → Int
  | [] => 0
  | a :: _ => a
def dg (c : UInt8) : Bool := decide (48 ≤ c.toNat ∧ c.toNat ≤ 57)
def nd (c : UInt8) : Bool := !dg c
def lt (c : UInt8) : Bool := decide (97 ≤ c.toNat ∧ c.toNat ≤ 122 ∨ 65 ≤ c.toNat ∧ c.toNat ≤ 90)
def dv (c : UInt8) : Nat := c.toNat - 48
def val (n : Nat) (l : Bs) : Nat := l.foldl (fun a c => 10 * a + dv c) n
theorem val_c (n : Nat) (c : UInt8) (t : Bs) : val n (c :: t) = val (10 * n + dv c) t := by unfold val; rw [List.foldl_cons]
end Go.Proofs.YtjbbgekkombpnaaGreatDoor.Pure

namespace Go.Proofs.YtjbbgekkombpnaaGreatDoor.Pure
open Go.RowKit Go.Proofs.YtjbbgekkombpnaaGreatDoor.PA Go.Proofs.YtjbbgekkombpnaaGreatDoorW.PrintWords Go.Proofs.YtjbbgekkombpnaaGreatDoorW.PrintLast Go.Proofs.YtjbbgekkombpnaaGreatDoorW.PrintMore
theorem digit_f (c : UInt8) : version_digit.f (c.toNat : Int) = some (dg c) := by
  unfold version_digit.f dg
  by_cases h : (c.toNat : Int) ≥ 48
  · rw [if_pos h]
    congr 1
    rw [decide_eq_decide]
    omega
  · rw [if_neg h]
    congr 1
    symm
    rw [decide_eq_false_iff_not]
    omega
theorem toByte (c : UInt8) : ((c.toNat : Int)).toNat.toUInt8 = c := by rw [Int.toNat_natCast]; exact UInt8.ofNat_toNat
theorem val_add : ∀ (l : Bs) (n : Nat), val n l = n * 10 ^ l.length + val 0 l
  | [], n => by show n = n * 10 ^ 0 + 0; rw [Nat.pow_zero, Nat.mul_one, Nat.add_zero]
  | c :: l, n => by
    rw [val_c, val_c, List.length_cons, Nat.pow_succ]
    rw [val_add l (10 * n + dv c), val_add l (10 * 0 + dv c)]
    rw [Nat.add_mul, Nat.mul_zero, Nat.zero_add, Nat.mul_comm 10 n, Nat.mul_assoc, Nat.mul_comm 10 (10 ^ l.length)]
    omega
theorem dv_lt {c : UInt8} (h : dg c = true) : dv c ≤ 9 := by unfold dg at h; unfold dv; simp at h; omega
theorem val_lt : ∀ (l : Bs), (∀ c ∈ l, dg c = true) → val 0 l < 10 ^ l.length
  | [], _ => by show 0 < 10 ^ 0; rw [Nat.pow_zero]; omega
  | c :: l, h => by
    have h1 := val_lt l (fun d hd => h d (by simp [hd]))
    have h2 := dv_lt (h c (by simp))
    rw [val_c, List.length_cons, Nat.pow_succ]
    rw [val_add, Nat.mul_zero, Nat.zero_add]
    generalize 10 ^ l.length = e at *
    have : dv c * e ≤ 9 * e := Nat.mul_le_mul_right _ h2
    omega
end Go.Proofs.YtjbbgekkombpnaaGreatDoor.Pure

namespace Go.Proofs.YtjbbgekkombpnaaGreatDoor.Pure
open Go.RowKit Go.Proofs.YtjbbgekkombpnaaGreatDoor.PA Go.Proofs.YtjbbgekkombpnaaGreatDoorW.PrintWords Go.Proofs.YtjbbgekkombpnaaGreatDoorW.PrintLast Go.Proofs.YtjbbgekkombpnaaGreatDoorW.PrintMore
def okR (c : UInt8) : Bool := dg c || lt c || decide (c = 46 ∨ c = 43 ∨ c = 126)
def okU (c : UInt8) : Bool := okR c || decide (c = 45 ∨ c = 58)
def textV (e : Int) (u r : Bs) : Bs := (if e = 0 then [] else Lib.itoa e ++ [58]) ++ (u ++ (if r = [] then [] else 45 :: r))
def fstDg (u : Bs) : Bool := match u with | [] => false | c :: _ => dg c
def rightV (e : Int) (u r : Bs) : Bool :=
  decide (0 ≤ e) && decide (e ≤ 999999999) && fstDg u && !(decide (45 ∈ u) && decide (r = [])) && !(decide (58 ∈ u) && decide (e = 0)) && u.all okU && r.all okR && decide ((textV e u r).length ≤ 60)
theorem idx_mem : ∀ (l : Bs) (c : UInt8), 0 ≤ Lib.indexByte l c ↔ c ∈ l
  | [], c => by simp [Lib.indexByte]
  | b :: l, c => by
    have ih := idx_mem l c
    have hg := Lib.indexByte_ge l c
    unfold Lib.indexByte
    by_cases h : b = c
    · subst h; simp
    · have h' : (b == c) = false := by simpa using h
      rw [h', if_neg (by simp), List.mem_cons]
      by_cases h2 : Lib.indexByte l c = -1
      · rw [h2, if_pos (by rfl)]
        rw [h2] at ih
        constructor
        · intro h; omega
        · rintro (h3 | h3)
          · exact absurd h3.symm h
          · have := ih.2 h3; omega
      · rw [if_neg (by simpa using h2)]
        constructor
        · intro _; exact .inr (ih.1 (by omega))
        · intro _; omega
theorem IndexByte_f (l : Bs) (c : UInt8) : strings_IndexByte.f (mk l) (c.toNat : Int) = some (Lib.indexByte l c) := by
  unfold strings_IndexByte.f
  rw [toByte, mk_dataList]
theorem only_l0 (sg : ByteArray) : ∀ (t p : Bs), p.length + t.length < 4611686018427387904 →
    Ev (fun k => version_only.l0 k (mk (p ++ t)) sg ((p.length + t.length : Nat) : Int) (p.length : Int)) (t.all fun c => decide (c ∈ sg.data.toList)) := by
  intro t
  induction t with
  | nil =>
    intro p h
    refine Ev.shift ?_
    simp only [version_only.l0]
    exact Ev.neg (by simp) (Ev.eq_ rfl)
  | cons c t ih =>
    intro p h
    refine Ev.shift ?_
    simp only [version_only.l0, mk_size, mk_bt_at]
    simp only [List.length_cons, List.length_append] at *
    refine Ev.pos (by omega) (Ev.pos (by omega) (Ev.pos (by omega) (Ev.bindc (a := Lib.indexByte sg.data.toList c) (by unfold strings_IndexByte.f; rw [toByte]) ?_)))
    rw [List.all_cons]
    by_cases hc : c ∈ sg.data.toList
    · have := (idx_mem _ _).2 hc
      refine Ev.neg (by omega) ?_
      rw [wrap_succ _ (by omega), decide_eq_true hc, Bool.true_and]
      have := ih (p ++ [c]) (by simp; omega)
      simpa [Nat.add_assoc, Nat.add_comm 1] using this
    · have : ¬ 0 ≤ Lib.indexByte sg.data.toList c := fun h => hc ((idx_mem _ _).1 h)
      refine Ev.pos (by omega) (Ev.eq_ ?_)
      rw [decide_eq_false hc, Bool.false_and]
theorem only_f (u : Bs) (sg : ByteArray) (h : u.length < 4611686018427387904) : Ev (fun k => version_only.f k (mk u) sg) (u.all fun c => decide (c ∈ sg.data.toList)) := by
  have := only_l0 sg u [] (by simpa using h)
  simp only [version_only.f, mk_size]
  simpa using this
theorem okU_lit : ∀ c : UInt8, decide (c ∈ (⟨#[48, 49, 50, 51, 52, 53, 54, 55, 56, 57, 97, 98, 99, 100, 101, 102, 103, 104, 105, 106, 107, 108, 109, 110, 111, 112, 113, 114, 115, 116, 117, 118, 119, 120, 121, 122, 65, 66, 67, 68, 69, 70, 71, 72, 73, 74, 75, 76, 77, 78, 79, 80, 81, 82, 83, 84, 85, 86, 87, 88, 89, 90, 46, 43, 126, 45, 58]⟩ : ByteArray).data.toList) = okU c := byte_all (by decide +kernel)
theorem okR_lit : ∀ c : UInt8, decide (c ∈ (⟨#[48, 49, 50, 51, 52, 53, 54, 55, 56, 57, 97, 98, 99, 100, 101, 102, 103, 104, 105, 106, 107, 108, 109, 110, 111, 112, 113, 114, 115, 116, 117, 118, 119, 120, 121, 122, 65, 66, 67, 68, 69, 70, 71, 72, 73, 74, 75, 76, 77, 78, 79, 80, 81, 82, 83, 84, 85, 86, 87, 88, 89, 90, 46, 43, 126]⟩ : ByteArray).data.toList) = okR c := byte_all (by decide +kernel)
theorem onlyU_f (u : Bs) (h : u.length < 4611686018427387904) : Ev (fun k => version_only.f k (mk u) (⟨#[48, 49, 50, 51, 52, 53, 54, 55, 56, 57, 97, 98, 99, 100, 101, 102, 103, 104, 105, 106, 107, 108, 109, 110, 111, 112, 113, 114, 115, 116, 117, 118, 119, 120, 121, 122, 65, 66, 67, 68, 69, 70, 71, 72, 73, 74, 75, 76, 77, 78, 79, 80, 81, 82, 83, 84, 85, 86, 87, 88, 89, 90, 46, 43, 126, 45, 58]⟩ : ByteArray)) (u.all okU) := by
  have := only_f u (⟨#[48, 49, 50, 51, 52, 53, 54, 55, 56, 57, 97, 98, 99, 100, 101, 102, 103, 104, 105, 106, 107, 108, 109, 110, 111, 112, 113, 114, 115, 116, 117, 118, 119, 120, 121, 122, 65, 66, 67, 68, 69, 70, 71, 72, 73, 74, 75, 76, 77, 78, 79, 80, 81, 82, 83, 84, 85, 86, 87, 88, 89, 90, 46, 43, 126, 45, 58]⟩ : ByteArray) h
  rw [show (fun c => decide (c ∈ ((⟨#[48, 49, 50, 51, 52, 53, 54, 55, 56, 57, 97, 98, 99, 100, 101, 102, 103, 104, 105, 106, 107, 108, 109, 110, 111, 112, 113, 114, 115, 116, 117, 118, 119, 120, 121, 122, 65, 66, 67, 68, 69, 70, 71, 72, 73, 74, 75, 76, 77, 78, 79, 80, 81, 82, 83, 84, 85, 86, 87, 88, 89, 90, 46, 43, 126, 45, 58]⟩ : ByteArray)).data.toList)) = okU from funext okU_lit] at this
  exact this
theorem onlyR_f (u : Bs) (h : u.length < 4611686018427387904) : Ev (fun k => version_only.f k (mk u) (⟨#[48, 49, 50, 51, 52, 53, 54, 55, 56, 57, 97, 98, 99, 100, 101, 102, 103, 104, 105, 106, 107, 108, 109, 110, 111, 112, 113, 114, 115, 116, 117, 118, 119, 120, 121, 122, 65, 66, 67, 68, 69, 70, 71, 72, 73, 74, 75, 76, 77, 78, 79, 80, 81, 82, 83, 84, 85, 86, 87, 88, 89, 90, 46, 43, 126]⟩ : ByteArray)) (u.all okR) := by
  have := only_f u (⟨#[48, 49, 50, 51, 52, 53, 54, 55, 56, 57, 97, 98, 99, 100, 101, 102, 103, 104, 105, 106, 107, 108, 109, 110, 111, 112, 113, 114, 115, 116, 117, 118, 119, 120, 121, 122, 65, 66, 67, 68, 69, 70, 71, 72, 73, 74, 75, 76, 77, 78, 79, 80, 81, 82, 83, 84, 85, 86, 87, 88, 89, 90, 46, 43, 126]⟩ : ByteArray) h
  rw [show (fun c => decide (c ∈ ((⟨#[48, 49, 50, 51, 52, 53, 54, 55, 56, 57, 97, 98, 99, 100, 101, 102, 103, 104, 105, 106, 107, 108, 109, 110, 111, 112, 113, 114, 115, 116, 117, 118, 119, 120, 121, 122, 65, 66, 67, 68, 69, 70, 71, 72, 73, 74, 75, 76, 77, 78, 79, 80, 81, 82, 83, 84, 85, 86, 87, 88, 89, 90, 46, 43, 126]⟩ : ByteArray)).data.toList)) = okR from funext okR_lit] at this
  exact this
theorem lit45 : (⟨#[45]⟩ : ByteArray) = mk [45] := rfl
theorem lit58 : (⟨#[58]⟩ : ByteArray) = mk [58] := rfl
theorem lit0 : (⟨#[]⟩ : ByteArray) = mk [] := rfl
theorem Itoa_f (e : Int) (h0 : -9223372036854775808 ≤ e) (h1 : e ≤ 9223372036854775807) : strconv_Itoa.f e = some (mk (Lib.itoa e)) := by
  unfold strconv_Itoa.f
  rw [if_pos ⟨h0, h1⟩]
  rfl
theorem text_f (e : Int) (u r : Bs) (h0 : -9223372036854775808 ≤ e) (h1 : e ≤ 9223372036854775807) (hu : u.length < 2000000000000000000) (hr : r.length < 2000000000000000000) : version_text.f e (mk u) (mk r) = some (mk (textV e u r)) := by
  have hl := Lib.itoa_length_le e h0 h1
  unfold version_text.f textV
  simp only [mk_toList, mk_size, lit45, lit58, mk_app, Itoa_f e h0 h1, Option.bind_some, List.length_append, List.length_cons, List.length_nil]
  by_cases he : e = 0
  · rw [if_pos he, if_pos he]
    by_cases hr0 : r = []
    · rw [if_pos hr0, if_pos hr0]; simp
    · rw [if_neg hr0, if_neg hr0, if_pos (by omega), if_pos (by omega)]; simp
  · rw [if_neg he, if_neg he, if_pos (by omega), if_pos (by omega)]
    by_cases hr0 : r = []
    · rw [if_pos hr0, if_pos hr0]; simp
    · rw [if_neg hr0, if_neg hr0, if_pos (by omega), if_pos (by omega)]; simp
theorem Right_f (e : Int) (u r : Bs) (hu : u.length < 2000000000000000000) (hr : r.length < 2000000000000000000) : Ev (fun k => version_Right.f k e (mk u) (mk r)) (rightV e u r) := by
  have bad : ∀ x, Ev (fun k => version_Right.j0 k true x (mk u) (mk r)) false := fun x => by
    refine Ev.shift ?_
    simp only [version_Right.j0]
    exact Ev.pos trivial (Ev.some_ _)
  simp only [version_Right.f, mk_toList, mk_size]
  unfold rightV
  by_cases h0 : e < 0
  · rw [decide_eq_false (show ¬ 0 ≤ e by omega)]
    exact Ev.pos h0 (bad e)
  · rw [decide_eq_true (show 0 ≤ e by omega)]
    refine Ev.neg h0 ?_
    by_cases h1 : e > 999999999
    · rw [decide_eq_false (show ¬ e ≤ 999999999 by omega)]
      exact Ev.pos h1 (bad e)
    · rw [decide_eq_true (show e ≤ 999999999 by omega)]
      refine Ev.neg h1 ?_
      cases u with
      | nil => exact Ev.pos rfl (bad e)
      | cons c t =>
        refine Ev.neg (by simp) (Ev.pos (by simp) (Ev.bindc (by rw [mk_bt_0]; exact digit_f c) ?_))
        simp only [fstDg, Bool.true_and]
        refine Ev.shift ?_
        simp only [version_Right.j0]
        cases hc : dg c
        · exact Ev.pos rfl (Ev.eq_ (by simp))
        · refine Ev.neg (by simp) (Ev.bindc (IndexByte_f (c :: t) 45) ?_)
          simp only [Bool.true_and]
          have step2 : ∀ b : Bool, b = (decide (45 ∈ c :: t) && decide (r = [])) → Ev (fun k => version_Right.j1 k b e (mk (c :: t)) (mk r)) (!(decide (45 ∈ c :: t) && decide (r = [])) && !(decide (58 ∈ c :: t) && decide (e = 0)) && (c :: t).all okU && r.all okR && decide ((textV e (c :: t) r).length ≤ 60)) := by
            intro b hb
            rw [← hb]
            refine Ev.shift ?_
            simp only [version_Right.j1]
            cases b
            · refine Ev.neg (by simp) (Ev.bindc (IndexByte_f (c :: t) 58) ?_)
              simp only [Bool.not_false, Bool.true_and]
              have step3 : ∀ b : Bool, b = (decide (58 ∈ c :: t) && decide (e = 0)) → Ev (fun k => version_Right.j2 k b e (mk (c :: t)) (mk r)) (!(decide (58 ∈ c :: t) && decide (e = 0)) && (c :: t).all okU && r.all okR && decide ((textV e (c :: t) r).length ≤ 60)) := by
                intro b hb
                rw [← hb]
                refine Ev.shift ?_
                simp only [version_Right.j2]
                cases b
                · refine Ev.neg (by simp) (Ev.bind (onlyU_f (c :: t) (by omega)) ?_)
                  simp only [Bool.not_false, Bool.true_and]
                  cases h3 : (c :: t).all okU
                  · exact Ev.neg (by simp) (Ev.eq_ (by simp))
                  · refine Ev.pos rfl (Ev.bind (onlyR_f r (by omega)) ?_)
                    simp only [Bool.true_and]
                    cases h4 : r.all okR
                    · exact Ev.neg (by simp) (Ev.eq_ (by simp))
                    · refine Ev.pos rfl (Ev.bindc (text_f e (c :: t) r (by omega) (by omega) hu hr) (Ev.eq_ ?_))
                      rw [mk_size, Bool.true_and, decide_eq_decide]; omega
                · exact Ev.pos rfl (Ev.eq_ (by simp))
              by_cases h58 : (58 : UInt8) ∈ c :: t
              · refine Ev.pos ((idx_mem _ _).2 h58) (step3 _ ?_)
                rw [decide_eq_true h58, Bool.true_and]; rw [Bool.eq_iff_iff]; simp
              · refine Ev.neg (fun h => h58 ((idx_mem _ _).1 h)) (step3 _ ?_)
                rw [decide_eq_false h58, Bool.false_and]
            · exact Ev.pos rfl (Ev.eq_ (by simp))
          by_cases h45 : (45 : UInt8) ∈ c :: t
          · refine Ev.pos ((idx_mem _ _).2 h45) (step2 _ ?_)
            rw [decide_eq_true h45, Bool.true_and]; rw [mk_toList, Bool.eq_iff_iff]; simp
          · refine Ev.neg (fun h => h45 ((idx_mem _ _).1 h)) (step2 _ ?_)
            rw [decide_eq_false h45, Bool.false_and]
end Go.Proofs.YtjbbgekkombpnaaGreatDoor.Pure

namespace Go.Proofs.YtjbbgekkombpnaaGreatDoor.Pure
open Go.RowKit Go.Proofs.YtjbbgekkombpnaaGreatDoor.PA Go.Proofs.YtjbbgekkombpnaaGreatDoorW.PrintWords Go.Proofs.YtjbbgekkombpnaaGreatDoorW.PrintLast Go.Proofs.YtjbbgekkombpnaaGreatDoorW.PrintMore
def cutAt (c : UInt8) : Bs → Option (Bs × Bs)
  | [] => none
  | d :: t => if d = c then some ([], t) else (cutAt c t).map fun p => (d :: p.1, p.2)
theorem cutAt_none {c : UInt8} : ∀ {l : Bs}, cutAt c l = none ↔ c ∉ l
  | [] => by simp [cutAt]
  | d :: t => by
    have ih := cutAt_none (c := c) (l := t)
    unfold cutAt
    by_cases h : d = c
    · simp [h]
    · rw [if_neg h, Option.map_eq_none_iff, ih]
      simp [Ne.symm h]
theorem cutAt_some {c : UInt8} : ∀ {l a b : Bs}, cutAt c l = some (a, b) ↔ l = a ++ c :: b ∧ c ∉ a
  | [], a, b => by simp [cutAt]
  | d :: t, a, b => by
    unfold cutAt
    by_cases h : d = c
    · rw [if_pos h]
      subst h
      constructor
      · intro h; cases h; simp
      · rintro ⟨h1, h2⟩
        cases a with
        | nil => simp at h1; rw [h1]
        | cons x a => simp at h1; exact absurd (by simp [h1.1]) h2
    · rw [if_neg h, Option.map_eq_some_iff]
      constructor
      · rintro ⟨⟨p, q⟩, h1, h2⟩
        have := (cutAt_some (c := c)).1 h1
        cases h2
        exact ⟨by simp [this.1], by simp [this.2, Ne.symm h]⟩
      · rintro ⟨h1, h2⟩
        cases a with
        | nil => simp at h1; exact absurd h1.1 h
        | cons x a =>
          simp at h1 h2
          exact ⟨(a, b), (cutAt_some (c := c)).2 ⟨h1.2, h2.2⟩, by simp [h1.1]⟩
def lastAt (c : UInt8) (l : Bs) : Option (Bs × Bs) := (cutAt c l.reverse).map fun p => (p.2.reverse, p.1.reverse)
theorem lastAt_none {c : UInt8} {l : Bs} : lastAt c l = none ↔ c ∉ l := by
  unfold lastAt; rw [Option.map_eq_none_iff, cutAt_none]; simp
theorem lastAt_some {c : UInt8} {l a b : Bs} : lastAt c l = some (a, b) ↔ l = a ++ c :: b ∧ c ∉ b := by
  unfold lastAt
  rw [Option.map_eq_some_iff]
  constructor
  · rintro ⟨⟨p, q⟩, h1, h2⟩
    have := cutAt_some.1 h1
    cases h2
    refine ⟨?_, by simpa using this.2⟩
    have h := congrArg List.reverse this.1
    simpa using h
  · rintro ⟨h1, h2⟩
    exact ⟨(b.reverse, a.reverse), cutAt_some.2 ⟨by rw [h1]; simp, by simpa using h2⟩, by simp⟩
theorem LastIndexByte_f (l : Bs) (c : UInt8) (h : l.length < 2000000000000000000) :
    strings_LastIndexByte.f (mk l) (c.toNat : Int) = some (match lastAt c l with | some (a, _) => (a.length : Int) | none => -1) := by
  unfold strings_LastIndexByte.f
  rw [mk_size, if_pos (by omega)]
  congr 1
  have e : ∀ j, j < l.length → (((mk l).data[j]!).toNat : Int) = ((l.getD j 0).toNat : Int) := by
    intro j hj
    have h2 : j < (mk l).data.size := by simpa [mk] using hj
    rw [getElem!_pos (mk l).data j h2, List.getD_eq_getElem?_getD, List.getElem?_eq_getElem hj]
    simp [mk]
  rcases Lib.lastIdx_spec (mk l) c.toNat l.length with ⟨h1, h2⟩ | ⟨i, hi, h1, h2, h3⟩
  · have hn : c ∉ l := by
      intro hc
      obtain ⟨j, hj, hv⟩ := List.getElem_of_mem hc
      refine h2 j hj ?_
      rw [e j hj, List.getD_eq_getElem?_getD, List.getElem?_eq_getElem hj, Option.getD_some, hv]
    rw [lastAt_none.2 hn]
    unfold Lib.lastIndexByte
    rw [mk_size, h1]
  · have hs : lastAt c l = some (l.take i, l.drop (i + 1)) := by
      refine lastAt_some.2 ⟨?_, ?_⟩
      · have : l[i] = c := by
          rw [e i hi, List.getD_eq_getElem?_getD, List.getElem?_eq_getElem hi, Option.getD_some] at h2
          exact UInt8.toNat_inj.1 (by omega)
        rw [← this]
        conv => lhs; rw [← List.take_append_drop i l]
        rw [List.drop_eq_getElem_cons hi]
      · intro hc
        obtain ⟨j, hj, hv⟩ := List.getElem_of_mem hc
        rw [List.length_drop] at hj
        rw [List.getElem_drop] at hv
        refine h3 (i + 1 + j) (by omega) (by omega) ?_
        rw [e _ (by omega), List.getD_eq_getElem?_getD, List.getElem?_eq_getElem (by omega), Option.getD_some, hv]
    rw [hs]
    unfold Lib.lastIndexByte
    rw [mk_size, h1]
    simp only []
    rw [List.length_take]; omega
theorem idx_cut : ∀ (l : Bs) (c : UInt8), Lib.indexByte l c = (match cutAt c l with | some (a, _) => (a.length : Int) | none => -1)
  | [], c => rfl
  | d :: t, c => by
    have ih := idx_cut t c
    unfold Lib.indexByte cutAt
    by_cases h : d = c
    · subst h; simp
    · have h' : (d == c) = false := by simpa using h
      rw [h', if_neg (by simp), if_neg h, ih]
      cases cutAt c t with
      | none => rfl
      | some p =>
        simp only [Option.map_some, List.length_cons]
        have hx : ((p.1.length : Int) == -1) = false := by rw [beq_eq_false_iff_ne]; omega
        rw [hx, if_neg (by simp)]
        exact (Int.natCast_succ _).symm
theorem Cut_f (l : Bs) (c : UInt8) (h : l.length < 4294967281) :
    strings_Cut.f (mk l) (mk [c]) = some (match cutAt c l with | some (a, b) => (mk a, mk b, true) | none => (mk l, mk [], false)) := by
  unfold strings_Cut.f Lib.cut
  rw [mk_size, if_pos h]
  simp only [mk_dataList, Lib.index_one, idx_cut]
  cases hc : cutAt c l with
  | none => rfl
  | some p =>
    obtain ⟨a, b⟩ := p
    have hl := (cutAt_some.1 hc).1
    simp only []
    rw [if_pos (by omega)]
    congr 1
    simp only [Int.toNat_natCast, List.length_cons, List.length_nil]
    have h1 : l.take a.length = a := by rw [hl]; simp
    have h2 : l.drop (a.length + (0 + 1)) = b := by
      rw [hl, show a.length + (0 + 1) = (a ++ [c]).length by simp, show a ++ c :: b = (a ++ [c]) ++ b by simp, List.drop_left]
    rw [h1, h2]
    rfl
def badV : Int × Bs × Bs × Int := (0, [], [], 4)
def finV (e : Int) (rest : Bs) : Int × Bs × Bs × Int :=
  match lastAt 45 rest with
  | some (u, r) => if r = [] then badV else if rightV e u r = true then (e, u, r, 0) else badV
  | none => if rightV e rest [] = true then (e, rest, [], 0) else badV
def parseV (s : Bs) : Int × Bs × Bs × Int :=
  if s.length > 60 then (0, [], [], 9)
  else match cutAt 58 s with
    | some (ep, behind) =>
      match Lib.atoiAll ep with
      | .ok n => if n < 0 then badV else if Lib.itoa n = ep then finV n behind else badV
      | _ => badV
    | none => finV 0 s
def toB (p : Int × Bs × Bs × Int) : Int × ByteArray × ByteArray × Int := (p.1, mk p.2.1, mk p.2.2.1, p.2.2.2)
theorem fin_j0 (e : Int) (rest : Bs) (h : rest.length < 1000) : Ev (fun k => version_Parse.j0 k (mk rest) e (⟨#[]⟩ : ByteArray) (⟨#[]⟩ : ByteArray)) (toB (finV e rest)) := by
  refine Ev.shift ?_
  simp only [version_Parse.j0, lit0, mk_size, mk_toList]
  refine Ev.bindc (LastIndexByte_f rest 45 (by omega)) ?_
  unfold finV
  cases hl : lastAt 45 rest with
  | none =>
    simp only []
    refine Ev.neg (by omega) (Ev.bind (Right_f e rest [] (by omega) (by simp)) ?_)
    by_cases hr : rightV e rest [] = true
    · exact Ev.pos hr (Ev.eq_ (by rw [if_pos hr]; rfl))
    · exact Ev.neg hr (Ev.eq_ (by rw [if_neg hr]; rfl))
  | some p =>
    obtain ⟨u, r⟩ := p
    obtain ⟨he, hn⟩ := lastAt_some.1 hl
    have hlen : rest.length = u.length + (r.length + 1) := by rw [he]; simp
    have h1 : (mk rest).extract ((u.length : Int) + 1).toNat rest.length = mk r := by
      rw [mk_ext_to, he, show ((u.length : Int) + 1).toNat = (u ++ [45]).length by simp, show u ++ 45 :: r = (u ++ [45]) ++ r by simp, List.drop_left]
    have h2 : (mk rest).extract 0 u.length = mk u := by rw [mk_ext_from, he]; simp
    simp only []
    rw [wrap_in _ (by omega) (by omega)]
    refine Ev.pos (by omega) (Ev.pos (by omega) (Ev.pos (by omega) (Ev.pos (by omega) (Ev.pos (by omega) ?_))))
    simp only [Int.toNat_natCast, h1, h2, mk_toList]
    by_cases hr : r = []
    · exact Ev.pos hr (Ev.eq_ (by rw [if_pos hr]; rfl))
    · rw [if_neg hr]
      refine Ev.neg hr (Ev.bind (Right_f e u r (by omega) (by omega)) ?_)
      by_cases hr : rightV e u r = true
      · exact Ev.pos hr (Ev.eq_ (by rw [if_pos hr]; rfl))
      · exact Ev.neg hr (Ev.eq_ (by rw [if_neg hr]; rfl))
theorem Parse_f (s : Bs) : Ev (fun k => version_Parse.f k (mk s)) (toB (parseV s)) := by
  simp only [version_Parse.f, mk_size]
  unfold parseV
  by_cases h : s.length > 60
  · rw [if_pos h]
    exact Ev.pos (by omega) (Ev.eq_ rfl)
  · rw [if_neg h]
    refine Ev.neg (by omega) (Ev.bindc (by rw [lit58]; exact Cut_f s 58 (by omega)) ?_)
    cases hc : cutAt 58 s with
    | none =>
      simp only []
      exact Ev.neg (by simp) (fin_j0 0 s (by omega))
    | some p =>
      obtain ⟨ep, b⟩ := p
      have hlen : s.length = ep.length + (b.length + 1) := by rw [(cutAt_some.1 hc).1]; simp
      simp only []
      refine Ev.pos (by simp) ?_
      have hA : strconv_Atoi.f (mk ep) = some (match Lib.atoiAll ep with | .ok v => (v, none) | .range => (Lib.atoiSat ep, some 0) | _ => (0, some 0)) := by
        unfold strconv_Atoi.f
        rw [mk_size, if_pos (by omega), mk_dataList]
        rcases Lib.atoiAll ep with v | _ | _ <;> rfl
      refine Ev.bindc hA ?_
      rcases hv : Lib.atoiAll ep with v | _ | _
      · simp only []
        have hb := Lib.atoiAll_bounds hv
        refine Ev.pos rfl ?_
        by_cases hn : v < 0
        · rw [if_pos hn]; exact Ev.pos hn (Ev.eq_ rfl)
        · rw [if_neg hn]
          refine Ev.neg hn (Ev.bindc (Itoa_f v (by omega) (by omega)) ?_)
          by_cases hi : Lib.itoa v = ep
          · rw [if_pos hi]
            exact Ev.pos (by rw [mk_toList, mk_toList]; exact hi) (fin_j0 v b (by omega))
          · rw [if_neg hi]
            exact Ev.neg (by rw [mk_toList, mk_toList]; exact hi) (Ev.eq_ rfl)
      · simp only []
        exact Ev.neg (by simp) (Ev.eq_ rfl)
      · simp only []
        exact Ev.neg (by simp) (Ev.eq_ rfl)
theorem parseV_len (s : Bs) : (parseV s).2.1.length ≤ 60 ∧ (parseV s).2.2.1.length ≤ 60 := by
  have fin : ∀ (e : Int) (r : Bs), r.length ≤ 60 → (finV e r).2.1.length ≤ 60 ∧ (finV e r).2.2.1.length ≤ 60 := by
    intro e r h
    unfold finV
    cases hl : lastAt 45 r with
    | none => simp only []; split <;> simp [badV]; exact h
    | some p =>
      obtain ⟨u, q⟩ := p
      have : r.length = u.length + (q.length + 1) := by rw [(lastAt_some.1 hl).1]; simp
      simp only []
      split
      · simp [badV]
      · split
        · exact ⟨by simp; omega, by simp; omega⟩
        · simp [badV]
  unfold parseV
  split
  · simp
  · rename_i h
    cases hc : cutAt 58 s with
    | none => exact fin 0 s (by omega)
    | some p =>
      obtain ⟨ep, b⟩ := p
      have hlen : s.length = ep.length + (b.length + 1) := by rw [(cutAt_some.1 hc).1]; simp
      simp only []
      split
      · split
        · simp [badV]
        · split
          · exact fin _ b (by omega)
          · simp [badV]
      · simp [badV]
end Go.Proofs.YtjbbgekkombpnaaGreatDoor.Pure

namespace Go.Proofs.YtjbbgekkombpnaaGreatDoor.Pure
open Go.RowKit Go.Proofs.YtjbbgekkombpnaaGreatDoor.PA Go.Proofs.YtjbbgekkombpnaaGreatDoorW.PrintWords Go.Proofs.YtjbbgekkombpnaaGreatDoorW.PrintLast Go.Proofs.YtjbbgekkombpnaaGreatDoorW.PrintMore
def printV (e : Int) (u r : Bs) : Bs := if rightV e u r = true then textV e u r else []
theorem rightV_rng {e : Int} {u r : Bs} (h : rightV e u r = true) : 0 ≤ e ∧ e ≤ 999999999 := by
  unfold rightV at h
  simp only [Bool.and_eq_true, decide_eq_true_eq] at h
  exact ⟨h.1.1.1.1.1.1.1, h.1.1.1.1.1.1.2⟩
theorem Print_f (e : Int) (u r : Bs) (hu : u.length < 2000000000000000000) (hr : r.length < 2000000000000000000) : Ev (fun k => version_Print.f k e (mk u) (mk r)) (mk (printV e u r)) := by
  simp only [version_Print.f]
  unfold printV
  refine Ev.bind (Right_f e u r hu hr) ?_
  cases h : rightV e u r
  · exact Ev.neg (by simp) (Ev.eq_ rfl)
  · have := rightV_rng h
    exact Ev.pos rfl (Ev.bindc (text_f e u r (by omega) (by omega) hu hr) (Ev.eq_ rfl))
end Go.Proofs.YtjbbgekkombpnaaGreatDoor.Pure

namespace Go.Proofs.YtjbbgekkombpnaaGreatDoor.Pure
open Go.RowKit Go.Proofs.YtjbbgekkombpnaaGreatDoor.PA Go.Proofs.YtjbbgekkombpnaaGreatDoorW.PrintWords Go.Proofs.YtjbbgekkombpnaaGreatDoorW.PrintLast Go.Proofs.YtjbbgekkombpnaaGreatDoorW.PrintMore
def okV (s : Bs) : Bool := decide ((parseV s).2.2.2 = 0)
end Go.Proofs.YtjbbgekkombpnaaGreatDoor.Pure

