import Derived.Test.YtjbbgekkombpnaaGreatDoorPureDepJoin
import Derived.Test.YtjbbgekkombpnaaGreatDoorPAx24
namespace Go.Proofs.YtjbbgekkombpnaaGreatDoor.Pure
open Go.RowKit Go.Proofs.YtjbbgekkombpnaaGreatDoor.PA Go.Proofs.YtjbbgekkombpnaaGreatDoorW.PrintWords Go.Proofs.YtjbbgekkombpnaaGreatDoorW.PrintLast Go.Proofs.YtjbbgekkombpnaaGreatDoorW.PrintMore
def givesS (x y : S3) : Bool := givesV (bs x.f0) x.f1 (bs x.f2) (bs y.f0) y.f1 (bs y.f2)
theorem prov_f (x y : S3) : Ev (fun k => atomProv k x y) (givesS x y) := by
  unfold atomProv
  have := Provides_f (bs x.f0) x.f1 (bs x.f2) (bs y.f0) y.f1 (bs y.f2)
  simp only [mk_bs] at this
  exact this
theorem anyA_f {p : Nat → S3 → Option Bool} {q : S3 → Bool} (h : ∀ x, Ev (fun k => p k x) (q x)) : ∀ l : List S3, Ev (fun k => anyA (p k) l) (l.any q)
  | [] => Ev.some_ _
  | x :: r => by
    simp only [anyA, List.any_cons]
    refine Ev.bind (h x) ?_
    cases q x with
    | true => exact Ev.pos rfl (Ev.eq_ rfl)
    | false => exact Ev.neg (by simp) (by rw [Bool.false_or]; exact anyA_f h r)
def metB (G : List S3) (g : List S3) : Bool := g.any (fun a => G.any (givesS a))
theorem metB_f (G : List S3) (g : List S3) (hg : g.length < 1000000000000) : Ev (fun k => groupMet k G g) (metB G g) := by
  unfold groupMet
  exact Ev.pos hg (anyA_f (p := fun k a => anyA (atomProv k a) G) (q := fun a => G.any (givesS a)) (fun a => anyA_f (fun b => prov_f a b) G) g)
def opn (m : List S3 → Bool) : List (List S3) → Int → List Int
  | [], _ => []
  | g :: r, i => if m g = true then opn m r (i + 1) else i :: opn m r (i + 1)
theorem openF_f (G : List S3) : ∀ (l : List (List S3)) (i : Int) (out : List Int), (∀ g ∈ l, g.length < 1000000000000) → Ev (fun k => openF k G l i out) (out ++ opn (metB G) l i)
  | [], _, out, _ => by
    simp only [openF, opn, List.append_nil]
    exact Ev.some_ _
  | g :: r, i, out, h => by
    simp only [openF, opn]
    refine Ev.bind (metB_f G g (h g (by simp))) ?_
    cases metB G g with
    | true => exact Ev.pos rfl (openF_f G r _ _ (fun q hq => h q (by simp [hq])))
    | false =>
      refine Ev.neg (by simp) ?_
      have := openF_f G r (i + 1) (out ++ [i]) (fun q hq => h q (by simp [hq]))
      simpa using this
theorem DOpen_f (l : List (List S3)) (G : List S3) (hl : l.length < 1000000000000) (hg : ∀ g ∈ l, g.length < 1000000000000) (hG : G.length < 1000000000000) : Ev (fun k => depends_Open.f k l G) (opn (metB G) l 0) := by
  unfold depends_Open.f
  have := openF_f G l 0 [] hg
  rw [List.nil_append] at this
  exact Ev.pos ⟨hl, hG⟩ this
theorem opn_app (m : List S3 → Bool) : ∀ (l r : List (List S3)) (i : Int), opn m (l ++ r) i = opn m l i ++ opn m r (i + l.length)
  | [], r, i => by simp [opn]
  | g :: l, r, i => by
    have := opn_app m l r (i + 1)
    rw [List.cons_append, opn, opn, this, show i + 1 + (l.length : Int) = i + ((g :: l).length : Int) by simp; omega]
    split <;> simp
theorem opn_shift (m : List S3 → Bool) (d : Int) : ∀ (l : List (List S3)) (i : Int), opn m l (i + d) = (opn m l i).map (fun j => j + d)
  | [], i => by simp [opn]
  | g :: l, i => by
    have := opn_shift m d l (i + 1)
    rw [opn, opn, show i + d + 1 = i + 1 + d by omega, this]
    split <;> simp
theorem opn_rng (m : List S3 → Bool) : ∀ (l : List (List S3)) (i j : Int), j ∈ opn m l i → i ≤ j ∧ j < i + l.length
  | [], i, j, h => by simp [opn] at h
  | g :: l, i, j, h => by
    rw [opn] at h
    have up : j ∈ opn m l (i + 1) → i ≤ j ∧ j < i + ((g :: l).length : Int) := fun h => by
      have := opn_rng m l (i + 1) j h
      rw [List.length_cons]
      omega
    split at h
    · exact up h
    · rcases List.mem_cons.1 h with rfl | h
      · rw [List.length_cons]; omega
      · exact up h
theorem opn_len (m : List S3 → Bool) : ∀ (l : List (List S3)) (i : Int), (opn m l i).length ≤ l.length
  | [], i => by simp [opn]
  | g :: l, i => by
    have := opn_len m l (i + 1)
    rw [opn]
    split <;> simp <;> omega
theorem opn_sub {m m' : List S3 → Bool} (h : ∀ g, m g = true → m' g = true) : ∀ (l : List (List S3)) (i : Int), (opn m' l i).Sublist (opn m l i)
  | [], i => by simp [opn]
  | g :: l, i => by
    have ih := opn_sub h l (i + 1)
    rw [opn, opn]
    by_cases h1 : m g = true
    · rw [if_pos h1, if_pos (h g h1)]; exact ih
    · rw [if_neg h1]
      split
      · exact ih.cons _
      · exact ih.cons_cons _
theorem sub_skip {a b : Int} {l r : List Int} (hn : b ≠ a) (h : (a :: l).Sublist (b :: r)) : (a :: l).Sublist r := by
  cases h with
  | cons _ h => exact h
  | cons_cons _ h => exact absurd rfl hn
theorem metB_more (G : List S3) (x : S3) (g : List S3) (h : metB G g = true) : metB (G ++ [x]) g = true := by
  unfold metB at h ⊢
  rw [List.any_eq_true] at h ⊢
  obtain ⟨a, ha, hb⟩ := h
  exact ⟨a, ha, by rw [List.any_append, hb, Bool.true_or]⟩
theorem rd_get (l : List Int) (i : Nat) (hi : i < l.length) : rd l (i : Int) = l[i] := by
  unfold rd
  rw [Int.toNat_natCast, List.getD_eq_getElem?_getD, List.getElem?_eq_getElem hi]
  rfl
theorem sameInts_l0 (l : List Int) (hl : l.length < 1000000) : ∀ (n i : Nat), n + i = l.length → Ev (fun k => keelsonlaw4_sameInts.l0 k l l (i : Int)) true
  | 0, i, h => by
    refine Ev.shift ?_
    simp only [keelsonlaw4_sameInts.l0]
    exact Ev.neg (by omega) (Ev.some_ _)
  | n + 1, i, h => by
    refine Ev.shift ?_
    simp only [keelsonlaw4_sameInts.l0]
    refine Ev.pos (by omega) (Ev.pos (by omega) (Ev.pos (by omega) (Ev.pos trivial ?_)))
    rw [wrap_succ i (by omega)]
    exact sameInts_l0 l hl n (i + 1) (by omega)
theorem sameInts_f (l : List Int) (hl : l.length < 1000000) : Ev (fun k => keelsonlaw4_sameInts.f k l l) true := by
  simp only [keelsonlaw4_sameInts.f]
  exact Ev.pos trivial (sameInts_l0 l hl l.length 0 (by omega))
section
variable (l m : List (List S3)) (G : List S3) (hl : l.length ≤ 40) (hm : m.length ≤ 40) (hlg : ∀ g ∈ l, g.length ≤ 40) (hmg : ∀ g ∈ m, g.length ≤ 40) (hG : G.length ≤ 40)
theorem more_l3 (o : List Int) (hl : l.length ≤ 40) (ho : o.length ≤ 40) (hr : ∀ j ∈ o, 0 ≤ j ∧ j ≤ 40) (w : List Int) (hw : w.length ≤ 40) : ∀ (n i : Nat), n + i = o.length → Ev (fun k => keelsonlaw4_DependsMore.l3 k l (w ++ o.map (fun j => j + (l.length : Int))) o (w ++ (o.take i).map (fun j => j + (l.length : Int))) (i : Int)) true
  | 0, i, h => by
    rw [List.take_of_length_le (by omega)]
    refine Ev.shift ?_
    simp only [keelsonlaw4_DependsMore.l3]
    exact Ev.neg (by omega) (Ev.bind (sameInts_f _ (by rw [List.length_append, List.length_map]; omega)) (Ev.some_ _))
  | n + 1, i, h => by
    have hi : i < o.length := by omega
    have hj := hr _ (List.getElem_mem hi)
    refine Ev.shift ?_
    simp only [keelsonlaw4_DependsMore.l3, rd_get o i hi]
    refine Ev.pos (by omega) (Ev.pos (by omega) (Ev.bindc rfl (Ev.pos (by simp; omega) ?_)))
    rw [wrap_succ i (by omega), wrap_in _ (by omega) (by omega), List.append_assoc, show (o.take i).map (fun j => j + (l.length : Int)) ++ [o[i] + (l.length : Int)] = (o.take (i + 1)).map (fun j => j + (l.length : Int)) by rw [List.take_succ_eq_append_getElem hi, List.map_append]; rfl]
    exact more_l3 o hl ho hr w hw n (i + 1) (by omega)
theorem more_l2 (o w : List Int) (hl : l.length ≤ 40) (ho : o.length ≤ 40) (hr : ∀ j ∈ o, 0 ≤ j ∧ j ≤ 40) (hw : w.length ≤ 40) : ∀ (n i : Nat), n + i = w.length → Ev (fun k => keelsonlaw4_DependsMore.l2 k l w (w ++ o.map (fun j => j + (l.length : Int))) o (w.take i) (i : Int)) true
  | 0, i, h => by
    rw [List.take_of_length_le (by omega)]
    refine Ev.shift ?_
    simp only [keelsonlaw4_DependsMore.l2]
    have := more_l3 l o hl ho hr w hw o.length 0 (by omega)
    rw [List.take_zero, List.map_nil, List.append_nil] at this
    exact Ev.neg (by omega) this
  | n + 1, i, h => by
    have hi : i < w.length := by omega
    refine Ev.shift ?_
    simp only [keelsonlaw4_DependsMore.l2, rd_get w i hi]
    refine Ev.pos (by omega) (Ev.pos (by omega) (Ev.bindc rfl (Ev.pos (by simp; omega) ?_)))
    rw [wrap_succ i (by omega), ← List.take_succ_eq_append_getElem hi]
    exact more_l2 o w hl ho hr hw n (i + 1) (by omega)
include hl hm hlg hmg hG in
theorem more_end (was now : List Int) (hwas : was = opn (metB G) l 0) (at_ i : Nat) (hi : now.length ≤ i) : Ev (fun k => keelsonlaw4_DependsMore.l0 k l m G was now (at_ : Int) (i : Int)) true := by
  subst hwas
  refine Ev.shift ?_
  simp only [keelsonlaw4_DependsMore.l0]
  have hlm : ∀ g ∈ [] ++ l ++ m, g.length < 1000000000000 := fun g hg => by
    rw [List.nil_append] at hg
    rcases List.mem_append.1 hg with hg | hg
    · have := hlg g hg; omega
    · have := hmg g hg; omega
  have e1 := DOpen_f ([] ++ l ++ m) G (by simp; omega) hlm (by omega)
  have e2 := DOpen_f m G (by omega) (fun g hg => by have := hmg g hg; omega) (by omega)
  have e3 : opn (metB G) ([] ++ l ++ m) 0 = opn (metB G) l 0 ++ (opn (metB G) m 0).map (fun j => j + (l.length : Int)) := by
    rw [List.nil_append, opn_app, opn_shift]
  rw [e3] at e1
  have h1 := opn_len (metB G) l 0
  have h2 := opn_len (metB G) m 0
  refine Ev.neg (by omega) (Ev.bindc rfl (Ev.pos (by simp; omega) (Ev.bindc rfl (Ev.pos (by simp; omega) (Ev.bind e1 (Ev.bind e2 ?_))))))
  have := more_l2 l (opn (metB G) m 0) (opn (metB G) l 0) hl (by omega) (fun j hj => by have := opn_rng _ _ _ _ hj; omega) (by omega) (opn (metB G) l 0).length 0 (by omega)
  rw [List.take_zero] at this
  exact this
include hl hm hlg hmg hG in
theorem more_l0 (was now : List Int) (hwas : was = opn (metB G) l 0) (hn : now.length ≤ 40) : ∀ (d at_ i : Nat), (now.length - i) + (was.length - at_) ≤ d → (now.drop i).Sublist (was.drop at_) → Ev (fun k => keelsonlaw4_DependsMore.l0 k l m G was now (at_ : Int) (i : Int)) true ∧ (i < now.length → Ev (fun k => keelsonlaw4_DependsMore.l1 k l m G was now (at_ : Int) (i : Int)) true)
  | d, at_, i, hd, hs => by
    have hwl : was.length ≤ 40 := by rw [hwas]; have := opn_len (metB G) l 0; omega
    have one : i < now.length → Ev (fun k => keelsonlaw4_DependsMore.l1 k l m G was now (at_ : Int) (i : Int)) true := fun hi => by
      have hle := hs.length_le
      rw [List.length_drop, List.length_drop] at hle
      have ha : at_ < was.length := by omega
      rw [List.drop_eq_getElem_cons hi, List.drop_eq_getElem_cons ha] at hs
      obtain ⟨d, rfl⟩ : ∃ e, d = e + 1 := ⟨d - 1, by omega⟩
      refine Ev.shift ?_
      simp only [keelsonlaw4_DependsMore.l1, rd_get was at_ ha, rd_get now i hi]
      refine Ev.pos (by omega) (Ev.pos (by omega) (Ev.pos (by omega) (Ev.pos (by omega) ?_)))
      by_cases he : was[at_] = now[i]
      · refine Ev.pos he (Ev.neg (by omega) ?_)
        rw [wrap_succ i (by omega)]
        refine (more_l0 was now hwas hn d at_ (i + 1) (by omega) ?_).1
        rw [List.drop_eq_getElem_cons ha]
        exact (List.sublist_cons_self _ _).trans hs
      · refine Ev.neg he ?_
        rw [wrap_succ at_ (by omega)]
        refine (more_l0 was now hwas hn d (at_ + 1) i (by omega) ?_).2 hi
        rw [List.drop_eq_getElem_cons hi]
        exact sub_skip he hs
    refine ⟨?_, one⟩
    by_cases hi : i < now.length
    · have := one hi
      refine Ev.shift ?_
      simp only [keelsonlaw4_DependsMore.l0]
      exact Ev.pos (by omega) this
    · exact more_end l m G hl hm hlg hmg hG was now hwas at_ i (by omega)
end
theorem smallV_lens {l : List (List S3)} (h : smallV l = true) : l.length ≤ 40 ∧ ∀ g ∈ l, g.length ≤ 40 := by
  unfold smallV at h
  rw [Bool.and_eq_true] at h
  exact ⟨of_decide_eq_true h.1, fun g hg => (lightV_true (List.all_eq_true.1 h.2 g hg)).1⟩
theorem DependsMore (l m : List (List S3)) (G : List S3) (a0 : ByteArray) (a1 : Int) (a2 : ByteArray) (hG : G.length < 3518437208882) {P Q R : Prop} (_ : P) (_ : Q) (_ : R) : ∃ k, keelsonlaw4_DependsMore.f k l m G a0 a1 a2 = some true := by
  have j0 : ∀ c : Bool, (c = false → (l.length ≤ 40 ∧ ∀ g ∈ l, g.length ≤ 40) ∧ (m.length ≤ 40 ∧ ∀ g ∈ m, g.length ≤ 40) ∧ ([] ++ G ++ [⟨a0, a1, a2⟩] : List S3).length ≤ 40) → Ev (fun k => keelsonlaw4_DependsMore.j0 k l m G true c a0 a1 a2) true := by
    intro c hc
    refine Ev.shift ?_
    simp only [keelsonlaw4_DependsMore.j0]
    cases c
    · obtain ⟨⟨hl, hlg⟩, ⟨hm, hmg⟩, h⟩ := hc rfl
      simp only [List.length_append, List.length_nil, List.length_cons] at h
      have e1 := DOpen_f l G (by omega) (fun g hg => by have := hlg g hg; omega) (by omega)
      have e2 := DOpen_f l ([] ++ G ++ [⟨a0, a1, a2⟩]) (by omega) (fun g hg => by have := hlg g hg; omega) (by simp; omega)
      refine Ev.neg (by simp) (Ev.bind e1 (Ev.bindc rfl (Ev.pos (by simp; omega) (Ev.bindc rfl (Ev.bindc rfl (Ev.pos (by simp; omega) (Ev.bind e2 ?_)))))))
      have hn := opn_len (metB ([] ++ G ++ [⟨a0, a1, a2⟩])) l 0
      have hsub := opn_sub (m := metB G) (m' := metB ([] ++ G ++ [⟨a0, a1, a2⟩])) (fun g hg => by rw [List.nil_append]; exact metB_more G _ g hg) l 0
      exact (more_l0 l m G hl hm hlg hmg (by omega) _ _ rfl (by omega) _ 0 0 (Nat.le_refl _) (by rw [List.drop_zero, List.drop_zero]; exact hsub)).1
    · exact Ev.pos rfl (Ev.some_ _)
  have main : Ev (fun k => keelsonlaw4_DependsMore.f k l m G a0 a1 a2) true := by
    simp only [keelsonlaw4_DependsMore.f]
    refine Ev.bind shown4_ev (Ev.bind (small_g l) (Ev.bind (small_g m) (Ev.bindc rfl (Ev.pos (by simp; omega) (Ev.bindc rfl (Ev.bindc rfl (Ev.pos (by simp; omega) (Ev.bind (light_f _) (Ev.pos rfl ?_)))))))))
    cases h1 : smallV l with
    | false => exact Ev.neg (by simp) (j0 true (fun h => by cases h))
    | true =>
      refine Ev.pos rfl ?_
      cases h2 : smallV m with
      | false => exact Ev.neg (by simp) (j0 true (fun h => by cases h))
      | true =>
        refine Ev.pos rfl (j0 _ (fun h => ⟨smallV_lens h1, smallV_lens h2, ?_⟩))
        exact (lightV_true (by simpa using h)).1
  exact main.rounds
end Go.Proofs.YtjbbgekkombpnaaGreatDoor.Pure
