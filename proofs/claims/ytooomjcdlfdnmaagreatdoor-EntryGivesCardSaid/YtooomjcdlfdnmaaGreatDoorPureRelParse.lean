import Derived.Test.YtooomjcdlfdnmaaGreatDoorPureRel
import Derived.Test.YtooomjcdlfdnmaaGreatDoorPAx7
import Derived.Test.YtooomjcdlfdnmaaGreatDoorPAx9
import Derived.Test.YtooomjcdlfdnmaaGreatDoorPAx8
namespace Go.Proofs.YtooomjcdlfdnmaaGreatDoor.Pure
open Go.RowKit Go.Proofs.YtooomjcdlfdnmaaGreatDoor.PA Go.Proofs.YtooomjcdlfdnmaaGreatDoorW.PrintWords Go.Proofs.YtooomjcdlfdnmaaGreatDoorW.PrintLast Go.Proofs.YtooomjcdlfdnmaaGreatDoorW.PrintMore
def fst3 (c : UInt8) : Bool := decide (97 ≤ c.toNat ∧ c.toNat ≤ 122) || dg c
def oth3 (c : UInt8) : Bool := fst3 c || decide (c.toNat = 43 ∨ c.toNat = 45 ∨ c.toNat = 46)
def fstOk : Bs → Bool
  | [] => true
  | c :: t => fst3 c && t.all oth3
def nameV (l : Bs) : Bool := fstOk l && decide (2 ≤ l.length) && decide (l.length ≤ 40)
theorem firsts_f : ∀ c : UInt8, decide (0 ≤ Lib.indexByte ((⟨#[97, 98, 99, 100, 101, 102, 103, 104, 105, 106, 107, 108, 109, 110, 111, 112, 113, 114, 115, 116, 117, 118, 119, 120, 121, 122, 48, 49, 50, 51, 52, 53, 54, 55, 56, 57]⟩ : ByteArray)).data.toList c) = fst3 c := byte_all (by decide +kernel)
theorem others_f : ∀ c : UInt8, decide (Lib.indexByte ((⟨#[97, 98, 99, 100, 101, 102, 103, 104, 105, 106, 107, 108, 109, 110, 111, 112, 113, 114, 115, 116, 117, 118, 119, 120, 121, 122, 48, 49, 50, 51, 52, 53, 54, 55, 56, 57, 43, 45, 46]⟩ : ByteArray)).data.toList c < 0) = !oth3 c := byte_all (by decide +kernel)
theorem Name1_f (c : UInt8) : relation_Name_1.f (c.toNat : Int) = some (!oth3 c) := by
  unfold relation_Name_1.f strings_IndexByte.f
  rw [toByte]
  simp only [Option.bind_some]
  rw [others_f]
theorem index_l0 (l : Bs) (hl : l.length < 4611686018427387904) : ∀ (t p : Bs), l = p ++ t →
    ∃ r : Int, (r ≥ 0 ↔ t.all oth3 = false) ∧ Ev (fun k => slices_IndexFunc_byte_byte_119.l0 k (bytesOf (mk l)) (l.length : Int) (p.length : Int)) r := by
  intro t
  induction t with
  | nil =>
    intro p h
    refine ⟨-1, by simp, ?_⟩
    refine Ev.shift ?_
    simp only [slices_IndexFunc_byte_byte_119.l0]
    exact Ev.neg (by rw [h]; simp) (Ev.some_ _)
  | cons c t ih =>
    intro p h
    have hlen : l.length = p.length + (t.length + 1) := by rw [h]; simp
    have hb : (bytesOf (mk l)).length = l.length := by rw [bytesOf_length, mk_size]
    have e : rd (bytesOf (mk l)) (p.length : Int) = (c.toNat : Int) := by rw [rd_bytesOf, h, mk_bt_at]
    cases hc : oth3 c
    · refine ⟨(p.length : Int), by simp [hc], ?_⟩
      refine Ev.shift ?_
      simp only [slices_IndexFunc_byte_byte_119.l0, e]
      refine Ev.pos (by omega) (Ev.pos (by omega) (Ev.pos (by rw [hb]; omega) (Ev.bindc (Name1_f c) ?_)))
      rw [hc]
      exact Ev.pos rfl (Ev.some_ _)
    · obtain ⟨r, hr, hE⟩ := ih (p ++ [c]) (by rw [h]; simp)
      refine ⟨r, by rw [hr]; simp [hc], ?_⟩
      refine Ev.shift ?_
      simp only [slices_IndexFunc_byte_byte_119.l0, e]
      refine Ev.pos (by omega) (Ev.pos (by omega) (Ev.pos (by rw [hb]; omega) (Ev.bindc (Name1_f c) ?_)))
      rw [hc]
      refine Ev.neg (by simp) ?_
      rw [wrap_succ _ (by omega)]
      simpa using hE
theorem Contains_f (l : Bs) (hl : l.length < 4611686018427387904) (n : Nat) : Ev (fun k => slices_ContainsFunc_byte_byte_119.f k (bytesOf (mk l)) n) (!l.all oth3) := by
  obtain ⟨r, hr, hE⟩ := index_l0 l hl l [] rfl
  simp only [slices_ContainsFunc_byte_byte_119.f, slices_IndexFunc_byte_byte_119.f]
  rw [bytesOf_length, mk_size]
  refine Ev.bind hE (Ev.eq_ ?_)
  cases h : l.all oth3
  · exact decide_eq_true (hr.2 h)
  · exact decide_eq_false (fun h2 => by rw [hr.1 h2] at h; cases h)
theorem fst_oth {c : UInt8} (h : fst3 c = true) : oth3 c = true := by unfold oth3; rw [h]; rfl
theorem fstOk_all : ∀ l : Bs, l ≠ [] → fstOk l = ((match l with | [] => false | c :: _ => fst3 c) && l.all oth3)
  | [], h => absurd rfl h
  | c :: t, _ => by
    cases hc : fst3 c
    · simp [fstOk, hc]
    · simp [fstOk, hc, fst_oth hc]
theorem Name_f (l : Bs) (hl : l.length < 4611686018427387904) : Ev (fun k => relation_Name.f k (mk l)) (nameV l) := by
  simp only [relation_Name.f, mk_size]
  unfold nameV
  by_cases h2 : 2 ≤ l.length
  · rw [decide_eq_true h2, Bool.and_true]
    refine Ev.pos (by omega) ?_
    by_cases h40 : l.length ≤ 40
    · rw [decide_eq_true h40, Bool.and_true]
      refine Ev.pos (by omega) ?_
      cases l with
      | nil => simp at h2
      | cons c t =>
        rw [fstOk_all _ (by simp), mk_bt_0]
        refine Ev.bindc (a := Lib.indexByte ((⟨#[97, 98, 99, 100, 101, 102, 103, 104, 105, 106, 107, 108, 109, 110, 111, 112, 113, 114, 115, 116, 117, 118, 119, 120, 121, 122, 48, 49, 50, 51, 52, 53, 54, 55, 56, 57]⟩ : ByteArray)).data.toList c) (by unfold strings_IndexByte.f; rw [toByte]) ?_
        have hf := firsts_f c
        cases hc : fst3 c
        · rw [hc] at hf
          exact Ev.neg (of_decide_eq_false hf) (Ev.eq_ (by simp [hc]))
        · rw [hc] at hf
          exact Ev.pos (of_decide_eq_true hf) (Ev.bind (Contains_f _ hl 0) (Ev.eq_ (by simp only [Bool.not_not, hc, Bool.true_and])))
    · rw [decide_eq_false h40, Bool.and_false]
      exact Ev.neg (by omega) (Ev.some_ _)
  · rw [decide_eq_false h2, Bool.and_false, Bool.false_and]
    exact Ev.neg (by omega) (Ev.some_ _)
end Go.Proofs.YtooomjcdlfdnmaaGreatDoor.Pure

namespace Go.Proofs.YtooomjcdlfdnmaaGreatDoor.Pure
open Go.RowKit Go.Proofs.YtooomjcdlfdnmaaGreatDoor.PA Go.Proofs.YtooomjcdlfdnmaaGreatDoorW.PrintWords Go.Proofs.YtooomjcdlfdnmaaGreatDoorW.PrintLast Go.Proofs.YtooomjcdlfdnmaaGreatDoorW.PrintMore
def plainV (s : Bs) : Bool := okV s && decide (printV (parseV s).1 (parseV s).2.1 (parseV s).2.2.1 = s)
theorem plain_f (s : Bs) : Ev (fun k => relation_plain.f k (mk s)) (plainV s) := by
  simp only [relation_plain.f]
  have hl := parseV_len s
  refine Ev.bind (Parse_f s) ?_
  unfold plainV okV toB
  by_cases h : (parseV s).2.2.2 = 0
  · rw [decide_eq_true h, Bool.true_and]
    refine Ev.pos h (Ev.bind (Print_f _ _ _ (by omega) (by omega)) (Ev.eq_ ?_))
    rw [mk_toList, mk_toList, Bool.eq_iff_iff]; simp
  · rw [decide_eq_false h, Bool.false_and]
    exact Ev.neg h (Ev.some_ _)
def rightA (n : Bs) (op : Int) (v : Bs) : Bool := nameV n && decide (0 ≤ op) && decide (op ≤ 5) && (if op = 0 then decide (v = []) else plainV v)
theorem Right_A (n : Bs) (op : Int) (v : Bs) (hn : n.length < 4611686018427387904) : Ev (fun k => relation_Right.f k (mk n) op (mk v)) (rightA n op v) := by
  have bad : ∀ a b c, Ev (fun k => relation_Right.j0 k true a b c) false := fun a b c => by
    refine Ev.shift ?_
    simp only [relation_Right.j0]
    exact Ev.pos trivial (Ev.some_ _)
  simp only [relation_Right.f]
  unfold rightA
  refine Ev.bind (Name_f n hn) ?_
  cases h : nameV n
  · exact Ev.neg (by simp) (by simpa using bad _ _ _)
  · refine Ev.pos rfl ?_
    rw [Bool.true_and]
    by_cases h0 : op < 0
    · rw [decide_eq_false (show ¬ 0 ≤ op by omega), Bool.false_and, Bool.false_and]
      exact Ev.pos h0 (bad _ _ _)
    · rw [decide_eq_true (show 0 ≤ op by omega), Bool.true_and]
      refine Ev.neg h0 ?_
      by_cases h5 : op > 5
      · rw [decide_eq_true h5, decide_eq_false (show ¬ op ≤ 5 by omega), Bool.false_and]
        exact bad _ _ _
      · rw [decide_eq_false h5, decide_eq_true (show op ≤ 5 by omega), Bool.true_and]
        refine Ev.shift ?_
        simp only [relation_Right.j0]
        refine Ev.neg (by simp) ?_
        by_cases hz : op = 0
        · rw [if_pos hz]
          exact Ev.pos hz (Ev.eq_ (by rw [mk_toList, Bool.eq_iff_iff]; simp))
        · rw [if_neg hz]
          exact Ev.neg hz (Ev.bind (plain_f v) (Ev.some_ _))
def sgn (op : Int) : Bs := (signAt op).toList
theorem sgn_mk (op : Int) : signAt op = mk (sgn op) := by unfold sgn; rw [toList_data, mk_data]
theorem sgn_len (op : Int) : (sgn op).length ≤ 2 := by
  unfold sgn signAt
  rw [toList_data]
  (repeat' split) <;> decide
def textA (n : Bs) (op : Int) (v : Bs) : Bs := if op = 0 then n else n ++ [32, 40] ++ sgn op ++ [32] ++ v ++ [41]
def printA (n : Bs) (op : Int) (v : Bs) : Bs := if rightA n op v = true then textA n op v else []
theorem Print_A (n : Bs) (op : Int) (v : Bs) (hn : n.length < 2000000000000000000) (hv : v.length < 2000000000000000000) : Ev (fun k => relation_Print.f k (mk n) op (mk v)) (mk (printA n op v)) := by
  simp only [relation_Print.f]
  unfold printA
  refine Ev.bind (Right_A n op v (by omega)) ?_
  cases h : rightA n op v
  · exact Ev.neg (by simp) (Ev.eq_ rfl)
  · refine Ev.pos rfl ?_
    rw [if_pos rfl]
    have hs := sgn_len op
    by_cases h0 : op = 0
    · have e : textA n op v = n := by unfold textA; rw [if_pos h0]
      rw [e]; exact Ev.pos h0 (Ev.some_ _)
    · have e : textA n op v = n ++ [32, 40] ++ sgn op ++ [32] ++ v ++ [41] := by unfold textA; rw [if_neg h0]
      rw [e]
      have l1 : (⟨#[32, 40]⟩ : ByteArray) = mk [32, 40] := rfl
      have l2 : (⟨#[32]⟩ : ByteArray) = mk [32] := rfl
      have l3 : (⟨#[41]⟩ : ByteArray) = mk [41] := rfl
      refine Ev.neg h0 (Ev.pos (by rw [mk_size]; omega) (Ev.bindc (show relation_Sign.f op = some (mk (sgn op)) by unfold relation_Sign.f; rw [sgn_mk]) ?_))
      simp only [l1, l2, l3, mk_app, mk_size, List.length_append, List.length_cons, List.length_nil]
      exact Ev.pos (by omega) (Ev.pos (by omega) (Ev.pos (by omega) (Ev.pos (by omega) (Ev.eq_ rfl))))
def badA (x : Int) : Bs × Int × Bs × Int := ([], 0, [], x)
def inA (n m : Bs) : Bs × Int × Bs × Int := match cutAt 32 m with
  | none => badA 5
  | some (g, v) => if (opOf g).2 = true then (if plainV v = true then (n, (opOf g).1, v, 0) else badA 4) else badA 5
def formA (n r : Bs) : Bs × Int × Bs × Int :=
  if Lib.hasPrefix r [40] = true then (if Lib.hasSuffix (Lib.trimPrefix r [40]) [41] = true then inA n (Lib.trimSuffix (Lib.trimPrefix r [40]) [41]) else badA 5) else badA 5
def parseA (s : Bs) : Bs × Int × Bs × Int := match cutAt 32 s with
  | none => if nameV s = true then (s, 0, [], 0) else badA 3
  | some (n, r) => if nameV n = true then formA n r else badA 3
def toA (p : Bs × Int × Bs × Int) : ByteArray × Int × ByteArray × Int := (mk p.1, p.2.1, mk p.2.2.1, p.2.2.2)
theorem CutPrefix_f (r p : Bs) : strings_CutPrefix.f (mk r) (mk p) = some (mk (Lib.trimPrefix r p), Lib.hasPrefix r p) := by
  unfold strings_CutPrefix.f
  rw [mk_dataList, mk_dataList]; rfl
theorem CutSuffix_f (r p : Bs) (h : r.length ≤ 9223372036854775807) : strings_CutSuffix.f (mk r) (mk p) = some (mk (Lib.trimSuffix r p), Lib.hasSuffix r p) := by
  unfold strings_CutSuffix.f
  rw [mk_size, if_pos h, mk_dataList, mk_dataList]; rfl
theorem trimP_len (r p : Bs) : (Lib.trimPrefix r p).length ≤ r.length := by unfold Lib.trimPrefix; split <;> simp
theorem trimS_len (r p : Bs) : (Lib.trimSuffix r p).length ≤ r.length := by unfold Lib.trimSuffix; split <;> simp
theorem Parse_A (s : Bs) (h : s.length < 1000000) : Ev (fun k => relation_Parse.f k (mk s)) (toA (parseA s)) := by
  have l0 : (⟨#[]⟩ : ByteArray) = mk [] := rfl
  have l1 : (⟨#[32]⟩ : ByteArray) = mk [32] := rfl
  have l2 : (⟨#[40]⟩ : ByteArray) = mk [40] := rfl
  have l3 : (⟨#[41]⟩ : ByteArray) = mk [41] := rfl
  have bad : ∀ a b c, Ev (fun k => relation_Parse.j0 k a b c true) (toA (badA 5)) := fun a b c => by
    refine Ev.shift ?_
    simp only [relation_Parse.j0]
    exact Ev.pos trivial (Ev.eq_ rfl)
  simp only [relation_Parse.f, l0, l1, l2, l3]
  refine Ev.bindc (Cut_f s 32 (by omega)) ?_
  unfold parseA
  cases hc : cutAt 32 s with
  | none =>
    simp only []
    refine Ev.bind (Name_f s (by omega)) ?_
    cases hn : nameV s
    · exact Ev.neg (by simp) (Ev.eq_ rfl)
    · exact Ev.pos (by trivial) (Ev.neg (by simp) (Ev.eq_ rfl))
  | some p =>
    obtain ⟨n, r⟩ := p
    have hs := (cutAt_some.1 hc).1
    have hlen : s.length = n.length + (r.length + 1) := by rw [hs]; simp
    simp only []
    refine Ev.bind (Name_f n (by omega)) ?_
    cases hn : nameV n
    · exact Ev.neg (by simp) (Ev.eq_ rfl)
    · have t1 := trimP_len r [40]
      have t2 := trimS_len (Lib.trimPrefix r [40]) [41]
      refine Ev.pos (by trivial) (Ev.pos (by trivial) (Ev.bindc (CutPrefix_f r [40]) (Ev.bindc (CutSuffix_f _ [41] (by omega)) (Ev.bindc (Cut_f _ 32 (by omega)) ?_))))
      rw [if_pos rfl]
      unfold formA inA
      cases hp : Lib.hasPrefix r [40]
      · refine Ev.bindc rfl (Ev.neg (by simp) (bad _ _ _))
      · rw [if_pos rfl]
        cases hq : Lib.hasSuffix (Lib.trimPrefix r [40]) [41]
        · refine Ev.bindc rfl (Ev.pos (by trivial) (Ev.neg (by simp) (bad _ _ _)))
        · rw [if_pos rfl]
          cases hd : cutAt 32 (Lib.trimSuffix (Lib.trimPrefix r [40]) [41]) with
          | none => exact Ev.bindc rfl (Ev.pos (by trivial) (Ev.pos (by trivial) (Ev.neg (by simp) (bad _ _ _))))
          | some q =>
            obtain ⟨g, v⟩ := q
            simp only []
            refine Ev.bindc (show relation_Op.f (mk g) = some (opOf g) by unfold relation_Op.f; rw [mk_toList]) (Ev.pos (by trivial) (Ev.pos (by trivial) (Ev.pos (by trivial) ?_)))
            cases hk : (opOf g).2
            · exact bad _ _ _
            · rw [if_pos rfl]
              refine Ev.shift ?_
              simp only [relation_Parse.j0]
              refine Ev.neg (by simp) (Ev.bind (plain_f v) ?_)
              cases hv : plainV v
              · exact Ev.neg (by simp) (Ev.eq_ rfl)
              · exact Ev.pos (by trivial) (Ev.eq_ rfl)
end Go.Proofs.YtooomjcdlfdnmaaGreatDoor.Pure

