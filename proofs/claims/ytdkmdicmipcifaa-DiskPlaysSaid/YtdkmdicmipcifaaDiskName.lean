import Derived.Test.YtdkmdicmipcifaaDiskOps
import Derived.Test.YtdkmdicmipcifaaPAx1
namespace Go.Proofs.Ytdkmdicmipcifaa.Disk
open Go Go.RowKit Go.Proofs.Ytdkmdicmipcifaa.PA Go.Proofs.Ytdkmdicmipcifaa.Pure Go.Proofs.YtdkmdicmipcifaaW.PrintWords Go.Proofs.YtdkmdicmipcifaaW.PrintLast Go.Proofs.YtdkmdicmipcifaaW.PrintMore
theorem toByte (c : UInt8) : ((c.toNat : Int)).toNat.toUInt8 = c := by rw [Int.toNat_natCast]; exact UInt8.ofNat_toNat
theorem others_f : ∀ c : UInt8, decide (Lib.indexByte ((⟨#[97, 98, 99, 100, 101, 102, 103, 104, 105, 106, 107, 108, 109, 110, 111, 112, 113, 114, 115, 116, 117, 118, 119, 120, 121, 122, 48, 49, 50, 51, 52, 53, 54, 55, 56, 57, 46, 43, 45, 95]⟩ : ByteArray)).data.toList c < 0) = !sgnc c := byte_all (by decide +kernel)
theorem Name1_f (c : UInt8) : disk_isName_1.f (c.toNat : Int) = some (!sgnc c) := by
  unfold disk_isName_1.f strings_IndexByte.f
  rw [toByte]
  simp only [Option.bind_some]
  rw [others_f]
theorem index_l0 (l : Disk.Bs) (hl : l.length < 4611686018427387904) : ∀ (t p : Disk.Bs), l = p ++ t →
    ∃ r : Int, (r ≥ 0 ↔ t.all sgnc = false) ∧ Ev (fun k => slices_IndexFunc_byte_byte_49.l0 k (bytesOf (mk l)) (l.length : Int) (p.length : Int)) r := by
  intro t
  induction t with
  | nil =>
    intro p h
    refine ⟨-1, by simp, ?_⟩
    refine Ev.shift ?_
    simp only [slices_IndexFunc_byte_byte_49.l0]
    exact Ev.neg (by rw [h]; simp) (Ev.some_ _)
  | cons c t ih =>
    intro p h
    have hlen : l.length = p.length + (t.length + 1) := by rw [h]; simp
    have hb : (bytesOf (mk l)).length = l.length := by rw [bytesOf_length, mk_size]
    have e : rd (bytesOf (mk l)) (p.length : Int) = (c.toNat : Int) := by rw [rd_bytesOf, h, mk_bt_at]
    cases hc : sgnc c
    · refine ⟨(p.length : Int), by simp [hc], ?_⟩
      refine Ev.shift ?_
      simp only [slices_IndexFunc_byte_byte_49.l0, e]
      refine Ev.pos (by omega) (Ev.pos (by omega) (Ev.pos (by rw [hb]; omega) (Ev.bindc (Name1_f c) ?_)))
      rw [hc]
      exact Ev.pos rfl (Ev.some_ _)
    · obtain ⟨r, hr, hE⟩ := ih (p ++ [c]) (by rw [h]; simp)
      refine ⟨r, by rw [hr]; simp [hc], ?_⟩
      refine Ev.shift ?_
      simp only [slices_IndexFunc_byte_byte_49.l0, e]
      refine Ev.pos (by omega) (Ev.pos (by omega) (Ev.pos (by rw [hb]; omega) (Ev.bindc (Name1_f c) ?_)))
      rw [hc]
      refine Ev.neg (by simp) ?_
      rw [wrap_succ _ (by omega)]
      simpa using hE
theorem Contains_f (l : Disk.Bs) (hl : l.length < 4611686018427387904) (n : Nat) : Ev (fun k => slices_ContainsFunc_byte_byte_49.f k (bytesOf (mk l)) n) (!l.all sgnc) := by
  obtain ⟨r, hr, hE⟩ := index_l0 l hl l [] rfl
  simp only [slices_ContainsFunc_byte_byte_49.f, slices_IndexFunc_byte_byte_49.f]
  rw [bytesOf_length, mk_size]
  refine Ev.bind hE (Ev.eq_ ?_)
  cases h : l.all sgnc
  · exact decide_eq_true (hr.2 h)
  · exact decide_eq_false (fun h2 => by rw [hr.1 h2] at h; cases h)
theorem isName_ev (l : Disk.Bs) (hl : l.length < 4611686018427387904) : Ev (fun k => disk_isName.f k (mk l)) (nameOk l) := by
  unfold disk_isName.f nameOk
  simp only [mk_size]
  by_cases h0 : (l.length : Int) = 0
  · have e : l = [] := List.length_eq_zero_iff.1 (by omega)
    subst e
    exact Ev.pos rfl (Ev.some_ _)
  · have e : l.isEmpty = false := by cases l with | nil => exact absurd rfl h0 | cons _ _ => rfl
    rw [e]
    refine Ev.neg h0 ?_
    by_cases h1 : (l.length : Int) ≤ 60
    · rw [decide_eq_true (show l.length ≤ 60 by omega)]
      exact Ev.pos h1 (Ev.bind (Contains_f l hl 0) (Ev.eq_ (by simp)))
    · rw [decide_eq_false (show ¬ l.length ≤ 60 by omega)]
      exact Ev.neg h1 (Ev.eq_ (by simp))
theorem isName_calls (l : Disk.Bs) (hl : l.length < 4611686018427387904) (w : World) (h0 : 1 ≤ w.heap.size) :
    Calls Try.prog 31 #[.string (mk l)] w fun e w' => e = .returned (.bool (nameOk l)) ∧ Below w.heap.size w w' := by
  obtain ⟨k, hk⟩ := isName_ev l hl
  exact disk_isName.calls k (mk l) (nameOk l) w ⟨h0⟩ (hk k (Nat.le_refl _))
end Go.Proofs.Ytdkmdicmipcifaa.Disk
