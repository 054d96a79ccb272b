import Derived.Test.YtjbbgekkombpnaaGreatDoorPureDepTextRef
import Derived.Test.YtjbbgekkombpnaaGreatDoorPureDepShown
import Derived.Test.YtjbbgekkombpnaaGreatDoorPAx18
import Derived.Test.YtjbbgekkombpnaaGreatDoorPureRelParse
namespace Go.Proofs.YtjbbgekkombpnaaGreatDoor.Pure
open Go.RowKit Go.Proofs.YtjbbgekkombpnaaGreatDoor.PA Go.Proofs.YtjbbgekkombpnaaGreatDoorW.PrintWords Go.Proofs.YtjbbgekkombpnaaGreatDoorW.PrintLast Go.Proofs.YtjbbgekkombpnaaGreatDoorW.PrintMore
open Go.Lib (join joinTail)
theorem printS_len (x : S3) (h : smS x) : (printS x).length ≤ 4100 := by
  unfold printS printA
  split
  · unfold textA
    have h1 := bs_len x.f0
    have h2 := bs_len x.f2
    have h3 := sgn_len x.f1
    obtain ⟨a, b⟩ := h
    split
    · omega
    · simp only [List.length_append, List.length_cons, List.length_nil]; omega
  · simp
theorem joinTail_len (sep : Bs) (M : Nat) : ∀ r : List Bs, (∀ x ∈ r, x.length ≤ M) → (joinTail sep r).length ≤ r.length * (sep.length + M)
  | [], _ => by simp [joinTail]
  | x :: r, h => by
    have ih := joinTail_len sep M r (fun y hy => h y (by simp [hy]))
    have hx := h x (by simp)
    rw [joinTail_cons, List.length_append, List.length_append, List.length_cons, Nat.succ_mul]
    omega
theorem join_len (sep : Bs) (M : Nat) (r : List Bs) (h : ∀ x ∈ r, x.length ≤ M) : (join r sep).length ≤ r.length * (sep.length + M) := by
  cases r with
  | nil => simp [Lib.join_nil]
  | cons x r =>
    have h1 := joinTail_len sep M r (fun y hy => h y (by simp [hy]))
    have hx := h x (by simp)
    rw [Lib.join_cons, List.length_append, List.length_cons, Nat.succ_mul]
    omega
theorem textG_len (g : List S3) (hg : g.length ≤ 6) (hs : ∀ x ∈ g, smS x) : (textG g).length ≤ 30000 := by
  have := join_len [32, 124, 32] 4100 (g.map printS) (fun x hx => by obtain ⟨y, hy, rfl⟩ := List.mem_map.1 hx; exact printS_len y (hs y hy))
  rw [List.length_map] at this
  unfold textG
  simp only [List.length_cons, List.length_nil] at this
  omega
theorem rightL_len {l : List (List S3)} (h : rightL l = true) : l.length ≤ 12 ∧ ∀ g ∈ l, 1 ≤ g.length ∧ g.length ≤ 6 ∧ ∀ x ∈ g, rightS x = true := by
  unfold rightL at h
  rw [Bool.and_eq_true] at h
  refine ⟨of_decide_eq_true h.2, fun g hg => ?_⟩
  have := List.all_eq_true.1 h.1 g hg
  unfold rightG at this
  simp only [Bool.and_eq_true, decide_eq_true_eq] at this
  exact ⟨this.1.1, this.1.2, fun x hx => List.all_eq_true.1 this.2 x hx⟩
theorem textL_len (l : List (List S3)) (hl : l.length ≤ 12) (hg : ∀ g ∈ l, g.length ≤ 6) (hs : ∀ g ∈ l, ∀ x ∈ g, smS x) : (textL l).length ≤ 500000 := by
  have := join_len [44, 32] 30000 (l.map textG) (fun x hx => by obtain ⟨y, hy, rfl⟩ := List.mem_map.1 hx; exact textG_len y (hg y hy) (hs y hy))
  rw [List.length_map] at this
  unfold textL
  simp only [List.length_cons, List.length_nil] at this
  omega
structure SmL (l : List (List S3)) : Prop where
  len : l.length ≤ 40
  each : ∀ g ∈ l, g.length ≤ 40
  sm : ∀ g ∈ l, ∀ x ∈ g, smS x
theorem SmL.print {l : List (List S3)} (h : SmL l) : Ev (fun k => depends_Print.f k l) (Pure.mk (printL l)) :=
  DPrint_f l (by have := h.len; omega) (fun g hg => by have := h.each g hg; omega) h.sm (fun hr => ⟨fun g hg => by have := textG_len g ((rightL_len hr).2 g hg).2.1 (h.sm g hg); omega, by have := textL_len l (rightL_len hr).1 (fun g hg => ((rightL_len hr).2 g hg).2.1) h.sm; omega⟩)
def ones (a : List S3) : List (List S3) := a.map (fun x => [x])
def lightV (a : List S3) : Bool := decide (a.length ≤ 40) && a.all (fun x => decide (x.f0.size ≤ 100) && decide (x.f2.size ≤ 100))
theorem light_l0 (a : List S3) (hl : a.length ≤ 40) : ∀ (n i : Nat), n + i = a.length → Ev (fun k => keelsonlaw4_light.l0 k a (i : Int)) ((a.drop i).all (fun x => decide (x.f0.size ≤ 100) && decide (x.f2.size ≤ 100)))
  | 0, i, h => by
    rw [List.drop_of_length_le (by omega)]
    refine Ev.shift ?_
    simp only [keelsonlaw4_light.l0]
    exact Ev.neg (by omega) (Ev.some_ _)
  | n + 1, i, h => by
    have hi : i < a.length := by omega
    rw [List.drop_eq_getElem_cons hi, List.all_cons]
    refine Ev.shift ?_
    simp only [keelsonlaw4_light.l0, rdT a i hi]
    refine Ev.pos (by omega) (Ev.pos (by omega) ?_)
    by_cases h1 : (a[i].f0.size : Int) > 100
    · rw [decide_eq_false (show ¬ a[i].f0.size ≤ 100 by omega)]
      exact Ev.pos h1 (Ev.eq_ (by simp))
    · refine Ev.neg h1 ?_
      rw [decide_eq_true (show a[i].f0.size ≤ 100 by omega)]
      by_cases h2 : (a[i].f2.size : Int) > 100
      · rw [decide_eq_false (show ¬ a[i].f2.size ≤ 100 by omega)]
        exact Ev.pos h2 (Ev.eq_ (by simp))
      · rw [decide_eq_true (show a[i].f2.size ≤ 100 by omega), Bool.true_and, Bool.true_and, wrap_succ i (by omega)]
        exact Ev.neg h2 (light_l0 a hl n (i + 1) (by omega))
theorem light_f (a : List S3) : Ev (fun k => keelsonlaw4_light.f k a) (lightV a) := by
  simp only [keelsonlaw4_light.f]
  unfold lightV
  by_cases h : (a.length : Int) > 40
  · rw [decide_eq_false (show ¬ a.length ≤ 40 by omega)]
    exact Ev.pos h (Ev.eq_ (by simp))
  · rw [decide_eq_true (show a.length ≤ 40 by omega), Bool.true_and]
    refine Ev.neg h ?_
    have := light_l0 a (by omega) a.length 0 (by omega)
    simpa using this
theorem lightV_true {a : List S3} (h : lightV a = true) : a.length ≤ 40 ∧ ∀ x ∈ a, smS x := by
  unfold lightV at h
  rw [Bool.and_eq_true] at h
  refine ⟨of_decide_eq_true h.1, fun x hx => ?_⟩
  have := List.all_eq_true.1 h.2 x hx
  rw [Bool.and_eq_true] at this
  have h1 := of_decide_eq_true this.1
  have h2 := of_decide_eq_true this.2
  exact ⟨by omega, by omega⟩
end Go.Proofs.YtjbbgekkombpnaaGreatDoor.Pure

namespace Go.Proofs.YtjbbgekkombpnaaGreatDoor.Pure
open Go.RowKit Go.Proofs.YtjbbgekkombpnaaGreatDoor.PA Go.Proofs.YtjbbgekkombpnaaGreatDoorW.PrintWords Go.Proofs.YtjbbgekkombpnaaGreatDoorW.PrintLast Go.Proofs.YtjbbgekkombpnaaGreatDoorW.PrintMore
theorem sgn_ops : sgn 1 = [60, 60] ∧ sgn 2 = [60, 61] ∧ sgn 3 = [61] ∧ sgn 4 = [62, 61] ∧ sgn 5 = [62, 62] := by
  unfold sgn
  simp only [toList_data]
  exact ⟨rfl, rfl, rfl, rfl, rfl⟩
theorem sgn_op (op : Int) (h0 : 1 ≤ op) (h5 : op ≤ 5) : opOf (sgn op) = (op, true) ∧ (32 : UInt8) ∉ sgn op := by
  obtain ⟨s1, s2, s3, s4, s5⟩ := sgn_ops
  have : op = 1 ∨ op = 2 ∨ op = 3 ∨ op = 4 ∨ op = 5 := by omega
  rcases this with rfl | rfl | rfl | rfl | rfl
  · rw [s1]; decide
  · rw [s2]; decide
  · rw [s3]; decide
  · rw [s4]; decide
  · rw [s5]; decide
theorem pre_iff (r : Bs) (c : UInt8) : Lib.hasPrefix r [c] = true ↔ ∃ t, r = c :: t := by
  unfold Lib.hasPrefix
  rw [List.isPrefixOf_iff_prefix]
  constructor
  · rintro ⟨t, h⟩; exact ⟨t, h.symm⟩
  · rintro ⟨t, h⟩; exact ⟨t, h.symm⟩
theorem suf_iff (r : Bs) (c : UInt8) : Lib.hasSuffix r [c] = true ↔ ∃ t, r = t ++ [c] := by
  unfold Lib.hasSuffix
  rw [List.isSuffixOf_iff_suffix]
  constructor
  · rintro ⟨t, h⟩; exact ⟨t, h.symm⟩
  · rintro ⟨t, h⟩; exact ⟨t, h.symm⟩
theorem trimP_cons (c : UInt8) (t : Bs) : Lib.trimPrefix (c :: t) [c] = t := by
  unfold Lib.trimPrefix
  rw [if_pos ((pre_iff _ _).2 ⟨t, rfl⟩)]; rfl
theorem trimS_app (c : UInt8) (t : Bs) : Lib.trimSuffix (t ++ [c]) [c] = t := by
  unfold Lib.trimSuffix
  rw [if_pos ((suf_iff _ _).2 ⟨t, rfl⟩)]; simp
theorem name_32 {n : Bs} (h : nameV n = true) : (32 : UInt8) ∉ n := by
  intro hm
  have h1 : fstOk n = true := by unfold nameV at h; simp at h; exact h.1.1
  cases n with
  | nil => simp at hm
  | cons c t =>
    rw [fstOk_all _ (by simp)] at h1
    simp only [Bool.and_eq_true] at h1
    exact absurd (List.all_eq_true.1 h1.2 32 hm) (by decide)
theorem parseA_text {n : Bs} {op : Int} {v : Bs} (h : rightA n op v = true) : parseA (textA n op v) = (n, op, v, 0) := by
  unfold rightA at h
  simp only [Bool.and_eq_true, decide_eq_true_eq] at h
  obtain ⟨⟨⟨hn, h0⟩, h5⟩, hv⟩ := h
  have h32 := name_32 hn
  unfold textA
  by_cases hz : op = 0
  · subst hz
    rw [if_pos rfl] at hv ⊢
    have hv' : v = [] := of_decide_eq_true hv
    subst hv'
    unfold parseA
    rw [cutAt_none.2 h32]
    simp only []
    rw [if_pos hn]
  · rw [if_neg hz] at hv ⊢
    obtain ⟨g1, g2⟩ := sgn_op op (by omega) h5
    unfold parseA
    have e : n ++ [32, 40] ++ sgn op ++ [32] ++ v ++ [41] = n ++ 32 :: (40 :: ((sgn op ++ 32 :: v) ++ [41])) := by simp
    rw [e, cutAt_some.2 ⟨rfl, h32⟩]
    simp only []
    rw [if_pos hn]
    unfold formA
    rw [if_pos ((pre_iff _ _).2 ⟨_, rfl⟩), trimP_cons, if_pos ((suf_iff _ _).2 ⟨_, rfl⟩), trimS_app]
    unfold inA
    rw [cutAt_some.2 ⟨rfl, g2⟩]
    simp only []
    rw [g1, if_pos rfl, if_pos hv]
end Go.Proofs.YtjbbgekkombpnaaGreatDoor.Pure

namespace Go.Proofs.YtjbbgekkombpnaaGreatDoor.Pure
open Go.RowKit Go.Proofs.YtjbbgekkombpnaaGreatDoor.PA Go.Proofs.YtjbbgekkombpnaaGreatDoorW.PrintWords Go.Proofs.YtjbbgekkombpnaaGreatDoorW.PrintLast Go.Proofs.YtjbbgekkombpnaaGreatDoorW.PrintMore
open Go.Lib (join joinTail)
open Dep (pcs splitB trimS)
theorem join_more (sep x z : Bs) (r : List Bs) : join (x :: z :: r) sep = x ++ (sep ++ join (z :: r) sep) := by
  rw [Lib.join_cons, joinTail_cons, Lib.join_cons]
  simp
theorem pcs_join (c : UInt8) (hc : c ≠ 32) (A B : Bs) (hA : ∀ y ∈ A, y = 32) (hB : ∀ y ∈ B, y = 32) : ∀ (r : List Bs) (x : Bs), (∀ y ∈ x :: r, c ∉ y) → pcs c (join (x :: r) (A ++ c :: B)) = (x :: r).map trimS
  | [], x, h => by
    rw [Lib.join_one]
    unfold pcs
    rw [Dep.splitB_none (fun y hy e => h x (by simp) (by rw [← e]; exact hy))]
  | z :: r, x, h => by
    have ih := pcs_join c hc A B hA hB r z (fun y hy => h y (by simp [hy]))
    rw [join_more, show x ++ (A ++ c :: B ++ join (z :: r) (A ++ c :: B)) = (x ++ A) ++ c :: (B ++ join (z :: r) (A ++ c :: B)) by simp]
    have hx : ∀ y ∈ x ++ A, y ≠ c := fun y hy e => by
      rcases List.mem_append.1 hy with hy | hy
      · exact h x (by simp) (by rw [← e]; exact hy)
      · exact hc (e.symm.trans (hA y hy))
    have e1 : pcs c ((x ++ A) ++ c :: (B ++ join (z :: r) (A ++ c :: B))) = trimS (x ++ A) :: pcs c (B ++ join (z :: r) (A ++ c :: B)) := by
      unfold pcs
      rw [Dep.splitB_hit _ hx, List.map_cons]
    have e2 := Dep.trimS_mid [] A x (by simp) hA
    rw [List.nil_append] at e2
    rw [e1, Dep.pcs_blanksL hc hB, ih, e2]
    rfl
def Tight (x : Bs) : Prop := (∃ a r, x = a :: r ∧ a ≠ 32) ∧ ∃ b r, x = r ++ [b] ∧ b ≠ 32
theorem trimS_tight {x : Bs} (h : Tight x) : trimS x = x := by
  obtain ⟨⟨a, r, e1, ha⟩, b, r', e2, hb⟩ := h
  unfold trimS Lib.trimB
  have h2 : Lib.trimRightB x 32 = x := by rw [e2]; exact Dep.trimR_last r' hb
  rw [h2, e1]
  exact Dep.trimL_head r ha
theorem tight_join (sep : Bs) : ∀ (r : List Bs) (x : Bs), (∀ y ∈ x :: r, Tight y) → Tight (join (x :: r) sep)
  | [], x, h => by rw [Lib.join_one]; exact h x (by simp)
  | z :: r, x, h => by
    obtain ⟨-, b, r', e2, hb⟩ := tight_join sep r z (fun y hy => h y (by simp [hy]))
    obtain ⟨⟨a, t, e1, ha⟩, -⟩ := h x (by simp)
    rw [join_more]
    refine ⟨⟨a, t ++ (sep ++ join (z :: r) sep), by rw [e1]; rfl, ha⟩, b, x ++ (sep ++ r'), by rw [e2]; simp, hb⟩
theorem name_no {n : Bs} (h : nameV n = true) {c : UInt8} (hc : oth3 c = false) : c ∉ n := by
  intro hm
  have h1 : fstOk n = true := by unfold nameV at h; simp at h; exact h.1.1
  cases n with
  | nil => simp at hm
  | cons d t =>
    rw [fstOk_all _ (by simp)] at h1
    simp only [Bool.and_eq_true] at h1
    rw [List.all_eq_true.1 h1.2 c hm] at hc
    cases hc
theorem name_pos {n : Bs} (h : nameV n = true) : 2 ≤ n.length := by unfold nameV at h; simp at h; omega
theorem ver_no {v : Bs} (h : plainV v = true) {c : UInt8} (hc : okU c = false) : c ∉ v := by
  intro hm
  unfold plainV at h
  rw [Bool.and_eq_true] at h
  have e := of_decide_eq_true h.2
  have hm' : c ∈ printV (parseV v).1 (parseV v).2.1 (parseV v).2.2.1 := by rw [e]; exact hm
  clear e h hm
  generalize (parseV v).1 = ep at hm'
  generalize (parseV v).2.1 = u at hm'
  generalize (parseV v).2.2.1 = r at hm'
  have hR : okR c = false := by
    cases h : okR c with
    | false => rfl
    | true => unfold okU at hc; rw [h] at hc; cases hc
  have hD : dg c = false := by
    cases h : dg c with
    | false => rfl
    | true => unfold okR at hR; rw [h] at hR; cases hR
  have h45 : c ≠ 45 := fun e => by rw [e] at hc; exact absurd hc (by decide)
  have h58 : c ≠ 58 := fun e => by rw [e] at hc; exact absurd hc (by decide)
  unfold printV at hm'
  split at hm'
  · next hr =>
    have he := rightV_rng hr
    unfold rightV at hr
    simp only [Bool.and_eq_true] at hr
    have hu := hr.1.1.2
    have hrr := hr.1.2
    unfold textV at hm'
    rcases List.mem_append.1 hm' with hm' | hm'
    · split at hm'
      · cases hm'
      · rcases List.mem_append.1 hm' with hm' | hm'
        · obtain ⟨n, rfl⟩ : ∃ n : Nat, ep = (n : Int) := ⟨ep.toNat, by omega⟩
          rw [itoa_nat] at hm'
          rw [dec_all n c hm'] at hD
          cases hD
        · exact h58 (List.mem_singleton.1 hm')
    · rcases List.mem_append.1 hm' with hm' | hm'
      · rw [List.all_eq_true.1 hu c hm'] at hc
        cases hc
      · split at hm'
        · cases hm'
        · rcases List.mem_cons.1 hm' with hm' | hm'
          · exact h45 hm'
          · rw [List.all_eq_true.1 hrr c hm'] at hR
            cases hR
  · cases hm'
theorem text_no {n : Bs} {op : Int} {v : Bs} (h : rightA n op v = true) {c : UInt8} (h1 : oth3 c = false) (h2 : okU c = false) (h3 : c ∉ ([32, 40, 41, 60, 61, 62] : Bs)) : c ∉ textA n op v := by
  unfold rightA at h
  simp only [Bool.and_eq_true, decide_eq_true_eq] at h
  obtain ⟨⟨⟨hn, h0⟩, h5⟩, hv⟩ := h
  have hn' := name_no hn h1
  unfold textA
  by_cases hz : op = 0
  · rw [if_pos hz]; exact hn'
  · rw [if_neg hz] at hv ⊢
    have hv' := ver_no hv h2
    have hs : c ∉ sgn op := by
      obtain ⟨s1, s2, s3, s4, s5⟩ := sgn_ops
      have : op = 1 ∨ op = 2 ∨ op = 3 ∨ op = 4 ∨ op = 5 := by omega
      intro hm
      rcases this with rfl | rfl | rfl | rfl | rfl
      · rw [s1] at hm; exact h3 (by simp at hm ⊢; simp [hm])
      · rw [s2] at hm; exact h3 (by simp at hm ⊢; rcases hm with hm | hm <;> simp [hm])
      · rw [s3] at hm; exact h3 (by simp at hm ⊢; simp [hm])
      · rw [s4] at hm; exact h3 (by simp at hm ⊢; rcases hm with hm | hm <;> simp [hm])
      · rw [s5] at hm; exact h3 (by simp at hm ⊢; simp [hm])
    simp only [List.mem_cons, List.not_mem_nil, or_false, not_or] at h3
    simp only [List.mem_append, List.mem_cons, List.not_mem_nil, or_false, not_or]
    exact ⟨⟨⟨⟨⟨hn', h3.1, h3.2.1⟩, hs⟩, h3.1⟩, hv'⟩, h3.2.2.1⟩
theorem tight_text {n : Bs} {op : Int} {v : Bs} (h : rightA n op v = true) : Tight (textA n op v) := by
  unfold rightA at h
  simp only [Bool.and_eq_true, decide_eq_true_eq] at h
  obtain ⟨⟨⟨hn, h0⟩, h5⟩, hv⟩ := h
  have h32 := name_32 hn
  have hl := name_pos hn
  obtain ⟨a, r, rfl⟩ : ∃ a r, n = a :: r := by cases n with | nil => simp at hl | cons a r => exact ⟨a, r, rfl⟩
  have ha : a ≠ 32 := fun e => h32 (by rw [e]; simp)
  unfold textA
  by_cases hz : op = 0
  · rw [if_pos hz]
    refine ⟨⟨a, r, rfl, ha⟩, ?_⟩
    rcases List.eq_nil_or_concat (a :: r) with e | ⟨q, b, e⟩
    · cases e
    · rw [List.concat_eq_append] at e
      exact ⟨b, q, e, fun eb => h32 (by rw [e, eb]; simp)⟩
  · rw [if_neg hz]
    exact ⟨⟨a, _, by simp only [List.cons_append]; rfl, ha⟩, 41, _, rfl, by decide⟩
theorem printS_text {x : S3} (h : rightS x = true) : printS x = textA (bs x.f0) x.f1 (bs x.f2) := by
  unfold printS printA
  have h' : rightA (bs x.f0) x.f1 (bs x.f2) = true := h
  rw [if_pos h']
theorem printS_tight {x : S3} (h : rightS x = true) : Tight (printS x) := by rw [printS_text h]; exact tight_text h
theorem printS_44 {x : S3} (h : rightS x = true) : (44 : UInt8) ∉ printS x := by rw [printS_text h]; exact text_no h (by decide) (by decide) (by decide)
theorem printS_124 {x : S3} (h : rightS x = true) : (124 : UInt8) ∉ printS x := by rw [printS_text h]; exact text_no h (by decide) (by decide) (by decide)
theorem atomV_print {x : S3} (h : rightS x = true) : (parseA (printS x)).2.2.2 = 0 ∧ atomV (printS x) = x := by
  have e : parseA (printS x) = (bs x.f0, x.f1, bs x.f2, 0) := by rw [printS_text h]; exact parseA_text h
  refine ⟨by rw [e], ?_⟩
  unfold atomV
  rw [e]
  show (⟨mk (bs x.f0), x.f1, mk (bs x.f2)⟩ : S3) = x
  rw [mk_bs, mk_bs]
theorem grpV_of : ∀ (g acc : List S3), (∀ x ∈ g, rightS x = true) → grpV (g.map printS) acc = (acc ++ g, 0)
  | [], acc, _ => by simp [grpV]
  | x :: r, acc, h => by
    obtain ⟨e1, e2⟩ := atomV_print (h x (by simp))
    rw [List.map_cons, grpV, if_pos e1, e2, grpV_of r (acc ++ [x]) (fun y hy => h y (by simp [hy]))]
    simp
theorem join_mem {sep : Bs} {c : UInt8} (hs : c ∉ sep) : ∀ r : List Bs, (∀ x ∈ r, c ∉ x) → c ∉ join r sep
  | [], _ => by simp [Lib.join_nil]
  | [x], h => by rw [Lib.join_one]; exact h x (by simp)
  | x :: z :: r, h => by
    rw [join_more]
    intro hm
    rcases List.mem_append.1 hm with hm | hm
    · exact h x (by simp) hm
    · rcases List.mem_append.1 hm with hm | hm
      · exact hs hm
      · exact join_mem hs (z :: r) (fun y hy => h y (by simp [hy])) hm
theorem map_same : ∀ (xs : List Bs), (∀ y ∈ xs, trimS y = y) → xs.map trimS = xs
  | [], _ => rfl
  | y :: t, h => by rw [List.map_cons, h y (by simp), map_same t (fun z hz => h z (by simp [hz]))]
theorem textG_facts {g : List S3} (h1 : 1 ≤ g.length) (hr : ∀ x ∈ g, rightS x = true) : Tight (textG g) ∧ (44 : UInt8) ∉ textG g ∧ pcs 124 (textG g) = g.map printS := by
  have hm : ∀ y ∈ g.map printS, ∃ x ∈ g, y = printS x := fun y hy => by obtain ⟨x, hx, e⟩ := List.mem_map.1 hy; exact ⟨x, hx, e.symm⟩
  refine ⟨?_, join_mem (by decide) _ (fun y hy => by obtain ⟨x, hx, rfl⟩ := hm y hy; exact printS_44 (hr x hx)), ?_⟩
  · match g, h1 with
    | x :: r, _ => exact tight_join _ _ _ (fun y hy => by obtain ⟨z, hz, rfl⟩ := hm y hy; exact printS_tight (hr z hz))
  · match g, h1 with
    | x :: r, _ =>
      have := pcs_join 124 (by decide) [32] [32] (by simp) (by simp) (r.map printS) (printS x) (fun y hy => by obtain ⟨z, hz, rfl⟩ := hm y hy; exact printS_124 (hr z hz))
      show pcs 124 (join (printS x :: r.map printS) [32, 124, 32]) = _
      rw [show ([32, 124, 32] : Bs) = [32] ++ 124 :: [32] from rfl, this]
      exact map_same _ (fun y hy => by obtain ⟨z, hz, rfl⟩ := hm y hy; exact trimS_tight (printS_tight (hr z hz)))
theorem grpsV_of : ∀ (l acc : List (List S3)), (∀ g ∈ l, 1 ≤ g.length ∧ ∀ x ∈ g, rightS x = true) → grpsV (l.map textG) acc = (acc ++ l, 0)
  | [], acc, _ => by simp [grpsV]
  | g :: r, acc, h => by
    obtain ⟨h1, h2⟩ := h g (by simp)
    rw [List.map_cons, grpsV, (textG_facts h1 h2).2.2, grpV_of g [] h2, List.nil_append, if_pos rfl, grpsV_of r (acc ++ [g]) (fun q hq => h q (by simp [hq]))]
    simp
theorem pcs_count (c : UInt8) (p : Bs) : (pcs c p).length = p.count c + 1 := by unfold pcs; rw [List.length_map, Dep.splitB_count]
end Go.Proofs.YtjbbgekkombpnaaGreatDoor.Pure

