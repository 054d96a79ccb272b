import Derived.Test.YtjbbgekkombpnaaGreatDoorPureRel
import Derived.Test.YtjbbgekkombpnaaGreatDoorPAx2
import Derived.Test.YtjbbgekkombpnaaGreatDoorPAx0
import Derived.Test.YtjbbgekkombpnaaGreatDoorPAx11
namespace Go.Proofs.YtjbbgekkombpnaaGreatDoor.Pure
open Go.RowKit Go.Proofs.YtjbbgekkombpnaaGreatDoor.PA Go.Proofs.YtjbbgekkombpnaaGreatDoorW.PrintWords Go.Proofs.YtjbbgekkombpnaaGreatDoorW.PrintLast Go.Proofs.YtjbbgekkombpnaaGreatDoorW.PrintMore
def fst3 (c : UInt8) : Bool := decide (97 ≤ c.toNat ∧ c.toNat ≤ 122) || dg c
def oth3 (c : UInt8) : Bool := fst3 c || decide (c.toNat = 43 ∨ c.toNat = 45 ∨ c.toNat = 46)
def fstOk : Bs → Bool
  | [] => true
  | c :: t => fst3 c && t.all oth3
def nameV (l : Bs) : Bool := fstOk l && decide (2 ≤ l.length) && decide (l.length ≤ 40)
theorem firsts_f : ∀ c : UInt8, decide (0 ≤ Lib.indexByte ((⟨#[97, 98, 99, 100, 101, 102, 103, 104, 105, 106, 107, 108, 109, 110, 111, 112, 113, 114, 115, 116, 117, 118, 119, 120, 121, 122, 48, 49, 50, 51, 52, 53, 54, 55, 56, 57]⟩ : ByteArray)).data.toList c) = fst3 c := byte_all (by decide +kernel)
theorem others_f : ∀ c : UInt8, decide (Lib.indexByte ((⟨#[97, 98, 99, 100, 101, 102, 103, 104, 105, 106, 107, 108, 109, 110, 111, 112, 113, 114, 115, 116, 117, 118, 119, 120, 121, 122, 48, 49, 50, 51, 52, 53, 54, 55, 56, 57, 43, 45, 46]⟩ : ByteArray)).data.toList c < 0) = !oth3 c := byte_all (by decide +kernel)
theorem Name1_f (c : UInt8) : relation_Name_1.f (c.toNat : Int) = some (!oth3 c) := by
  unfold relation_Name_1.f strings_IndexByte.f
  rw [toByte]
  simp only [Option.bind_some]
  rw [others_f]
theorem index_l0 (l : Bs) (hl : l.length < 4611686018427387904) : ∀ (t p : Bs), l = p ++ t →
    ∃ r : Int, (r ≥ 0 ↔ t.all oth3 = false) ∧ Ev (fun k => slices_IndexFunc_byte_byte_85.l0 k (bytesOf (mk l)) (l.length : Int) (p.length : Int)) r := by
  intro t
  induction t with
  | nil =>
    intro p h
    refine ⟨-1, by simp, ?_⟩
    refine Ev.shift ?_
    simp only [slices_IndexFunc_byte_byte_85.l0]
    exact Ev.neg (by rw [h]; simp) (Ev.some_ _)
  | cons c t ih =>
    intro p h
    have hlen : l.length = p.length + (t.length + 1) := by rw [h]; simp
    have hb : (bytesOf (mk l)).length = l.length := by rw [bytesOf_length, mk_size]
    have e : rd (bytesOf (mk l)) (p.length : Int) = (c.toNat : Int) := by rw [rd_bytesOf, h, mk_bt_at]
    cases hc : oth3 c
    · refine ⟨(p.length : Int), by simp [hc], ?_⟩
      refine Ev.shift ?_
      simp only [slices_IndexFunc_byte_byte_85.l0, e]
      refine Ev.pos (by omega) (Ev.pos (by omega) (Ev.pos (by rw [hb]; omega) (Ev.bindc (Name1_f c) ?_)))
      rw [hc]
      exact Ev.pos rfl (Ev.some_ _)
    · obtain ⟨r, hr, hE⟩ := ih (p ++ [c]) (by rw [h]; simp)
      refine ⟨r, by rw [hr]; simp [hc], ?_⟩
      refine Ev.shift ?_
      simp only [slices_IndexFunc_byte_byte_85.l0, e]
      refine Ev.pos (by omega) (Ev.pos (by omega) (Ev.pos (by rw [hb]; omega) (Ev.bindc (Name1_f c) ?_)))
      rw [hc]
      refine Ev.neg (by simp) ?_
      rw [wrap_succ _ (by omega)]
      simpa using hE
theorem Contains_f (l : Bs) (hl : l.length < 4611686018427387904) (n : Nat) : Ev (fun k => slices_ContainsFunc_byte_byte_85.f k (bytesOf (mk l)) n) (!l.all oth3) := by
  obtain ⟨r, hr, hE⟩ := index_l0 l hl l [] rfl
  simp only [slices_ContainsFunc_byte_byte_85.f, slices_IndexFunc_byte_byte_85.f]
  rw [bytesOf_length, mk_size]
  refine Ev.bind hE (Ev.eq_ ?_)
  cases h : l.all oth3
  · exact decide_eq_true (hr.2 h)
  · exact decide_eq_false (fun h2 => by rw [hr.1 h2] at h; cases h)
theorem fst_oth {c : UInt8} (h : fst3 c = true) : oth3 c = true := by unfold oth3; rw [h]; rfl
theorem fstOk_all : ∀ l : Bs, l ≠ [] → fstOk l = ((match l with | [] => false | c :: _ => fst3 c) && l.all oth3)
  | [], h => absurd rfl h
  | c :: t, _ => by
    cases hc : fst3 c
    · simp [fstOk, hc]
    · simp [fstOk, hc, fst_oth hc]
theorem Name_f (l : Bs) (hl : l.length < 4611686018427387904) : Ev (fun k => relation_Name.f k (mk l)) (nameV l) := by
  simp only [relation_Name.f, mk_size]
  unfold nameV
  by_cases h2 : 2 ≤ l.length
  · rw [decide_eq_true h2, Bool.and_true]
    refine Ev.pos (by omega) ?_
    by_cases h40 : l.length ≤ 40
    · rw [decide_eq_true h40, Bool.and_true]
      refine Ev.pos (by omega) ?_
      cases l with
      | nil => simp at h2
      | cons c t =>
        rw [fstOk_all _ (by simp), mk_bt_0]
        refine Ev.bindc (a := Lib.indexByte ((⟨#[97, 98, 99, 100, 101, 102, 103, 104, 105, 106, 107, 108, 109, 110, 111, 112, 113, 114, 115, 116, 117, 118, 119, 120, 121, 122, 48, 49, 50, 51, 52, 53, 54, 55, 56, 57]⟩ : ByteArray)).data.toList c) (by unfold strings_IndexByte.f; rw [toByte]) ?_
        have hf := firsts_f c
        cases hc : fst3 c
        · rw [hc] at hf
          exact Ev.neg (of_decide_eq_false hf) (Ev.eq_ (by simp [hc]))
        · rw [hc] at hf
          exact Ev.pos (of_decide_eq_true hf) (Ev.bind (Contains_f _ hl 0) (Ev.eq_ (by simp only [Bool.not_not, hc, Bool.true_and])))
    · rw [decide_eq_false h40, Bool.and_false]
      exact Ev.neg (by omega) (Ev.some_ _)
  · rw [decide_eq_false h2, Bool.and_false, Bool.false_and]
    exact Ev.neg (by omega) (Ev.some_ _)
end Go.Proofs.YtjbbgekkombpnaaGreatDoor.Pure
