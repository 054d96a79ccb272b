import Derived.Test.YtjbbgekkombpnaaGreatDoorPureDep
import Derived.Test.YtjbbgekkombpnaaGreatDoorPureRelRef
import Derived.Test.YtjbbgekkombpnaaGreatDoorPAx17
import Derived.Test.YtjbbgekkombpnaaGreatDoorPAx18
import Derived.Test.YtjbbgekkombpnaaGreatDoorPAx7
namespace Go.Proofs.YtjbbgekkombpnaaGreatDoor.Pure
open Go.RowKit Go.Proofs.YtjbbgekkombpnaaGreatDoor.PA Go.Proofs.YtjbbgekkombpnaaGreatDoorW.PrintWords Go.Proofs.YtjbbgekkombpnaaGreatDoorW.PrintLast Go.Proofs.YtjbbgekkombpnaaGreatDoorW.PrintMore
open Dep (pcs splitB trimS)
theorem pieces_l0 (c : UInt8) : ∀ (t a pre : Bs) (out : List ByteArray), (∀ x ∈ a, x ≠ c) → pre.length + a.length + t.length < 1000000 → out.length + t.length < 1000000 →
    Ev (fun k => keelsonref4_pieces.l0 k (mk (pre ++ a ++ t)) (c.toNat : Int) out (pre.length : Int) ((pre.length + a.length : Nat) : Int)) (out ++ (splitB c (a ++ t)).map mk)
  | [], a, pre, out, h, hl, ho => by
    refine Ev.shift ?_
    simp only [keelsonref4_pieces.l0, mk_size]
    refine Ev.neg (by simp) (Ev.pos (by omega) (Ev.pos (by simp; omega) (Ev.pos (by simp at ho; omega) (Ev.eq_ ?_))))
    rw [Int.toNat_natCast, mk_ext_to, List.append_nil, List.append_nil, List.drop_left, Dep.splitB_none h]
    rfl
  | x :: t, a, pre, out, h, hl, ho => by
    simp only [List.length_cons] at hl ho
    refine Ev.shift ?_
    simp only [keelsonref4_pieces.l0, mk_size]
    have hb : bt (mk (pre ++ a ++ x :: t)) ((pre.length + a.length : Nat) : Int) = (x.toNat : Int) := by
      have := mk_bt_at (pre ++ a) x t
      rwa [List.length_append] at this
    refine Ev.pos (by simp; omega) (Ev.pos (by omega) ?_)
    by_cases hx : x = c
    · subst hx
      refine Ev.pos hb (Ev.pos (by omega) (Ev.pos (by omega) (Ev.pos (by simp; omega) (Ev.pos (by omega) ?_))))
      have ih := pieces_l0 x t [] (pre ++ a ++ [x]) (out ++ [mk a]) (by simp) (by simp; omega) (by simp; omega)
      rw [wrap_succ _ (by omega), Int.toNat_natCast, Int.toNat_natCast, mk_ext]
      have e1 : List.drop pre.length (List.take (pre.length + a.length) (pre ++ a ++ x :: t)) = a := by
        rw [show pre.length + a.length = (pre ++ a).length by simp, List.take_left, List.drop_left]
      rw [e1, Dep.splitB_hit t h]
      simp only [List.length_append, List.length_cons, List.length_nil, List.append_nil, List.nil_append, List.append_assoc, List.cons_append, Nat.add_zero, Nat.zero_add, List.map_cons, Nat.add_assoc] at ih ⊢
      exact ih
    · refine Ev.neg (by rw [hb]; intro e; exact hx (UInt8.toNat_inj.1 (by omega))) ?_
      have ih := pieces_l0 c t (a ++ [x]) pre out (fun y hy => by rcases List.mem_append.1 hy with hy | hy; exact h y hy; obtain rfl := List.mem_singleton.1 hy; exact hx) (by simp; omega) (by omega)
      rw [wrap_succ _ (by omega)]
      simp only [List.length_append, List.length_cons, List.length_nil, List.append_assoc, List.cons_append, List.nil_append, Nat.zero_add, Nat.add_assoc] at ih ⊢
      exact ih
theorem pieces_f (c : UInt8) (s : Bs) (h : s.length < 1000000) : Ev (fun k => keelsonref4_pieces.f k (mk s) (c.toNat : Int)) ((splitB c s).map mk) := by
  have := pieces_l0 c s [] [] [] (by simp) (by simpa using h) (by simpa using h)
  simpa [keelsonref4_pieces.f] using this
theorem trim_l1 : ∀ (n : Nat) (A m B : Bs), m.length = n → (∀ y ∈ A, y = 32) → (∀ y ∈ B, y = 32) → (∀ x r, m = x :: r → x ≠ 32) → A.length + m.length + B.length < 1000000 →
    Ev (fun k => keelsonref4_Trim.l1 k (mk (A ++ m ++ B)) (A.length : Int) ((A.length + m.length : Nat) : Int)) (mk (trimS (A ++ m ++ B))) := by
  intro n
  induction n using Nat.strongRecOn with
  | ind n ihn =>
    intro A m B hn hA hB hm hl
    rw [Dep.trimS_mid A B m hA hB]
    have fin : ∀ m : Bs, trimS m = m → List.drop A.length (List.take (A.length + m.length) (A ++ m ++ B)) = trimS m := fun m hm => by
      rw [show A.length + m.length = (A ++ m).length by simp, List.take_left, List.drop_left, hm]
    refine Ev.shift ?_
    simp only [keelsonref4_Trim.l1, mk_size]
    rcases List.eq_nil_or_concat m with rfl | ⟨m', x, rfl⟩
    · refine Ev.neg (by simp) (Ev.pos (by omega) (Ev.pos (by omega) (Ev.pos (by simp; omega) (Ev.eq_ ?_))))
      rw [Int.toNat_natCast, Int.toNat_natCast, mk_ext, fin [] rfl]
    · rw [List.concat_eq_append] at *
      have w1 : wrap64 (((A.length + (m' ++ [x]).length : Nat) : Int) - 1) = ((A.length + m'.length : Nat) : Int) := by
        simp only [List.length_append, List.length_cons, List.length_nil] at hl ⊢
        rw [wrap_in _ (by omega) (by omega)]
        omega
      have hb : bt (mk (A ++ (m' ++ [x]) ++ B)) ((A.length + m'.length : Nat) : Int) = (x.toNat : Int) := by
        have := mk_bt_at (A ++ m') x B
        rw [List.length_append] at this
        simpa [List.append_assoc] using this
      rw [w1]
      refine Ev.pos (by simp; omega) (Ev.pos (by omega) (Ev.pos (by simp; omega) ?_))
      by_cases hx : x = 32
      · subst hx
        refine Ev.pos hb ?_
        simp only [List.length_append, List.length_cons, List.length_nil] at hn hl
        have ih := ihn (n - 1) (by omega) A m' ([32] ++ B) (by omega) hA (fun y hy => by rcases List.mem_append.1 hy with hy | hy; exact List.mem_singleton.1 hy; exact hB y hy) (fun y r e => hm y (r ++ [32]) (by rw [e]; rfl)) (by simp; omega)
        rw [Dep.trimS_mid A _ m' hA (fun y hy => by rcases List.mem_append.1 hy with hy | hy; exact List.mem_singleton.1 hy; exact hB y hy)] at ih
        have e2 := Dep.trimS_mid [] [32] m' (by simp) (by simp)
        rw [List.nil_append] at e2
        rw [e2]
        simpa [List.append_assoc] using ih
      · refine Ev.neg (by rw [hb]; intro e; exact hx (UInt8.toNat_inj.1 (by have h3 : (x.toNat : Int) = 32 := e; show x.toNat = 32; omega))) (Ev.pos (by omega) (Ev.pos (by omega) (Ev.pos (by simp; omega) (Ev.eq_ ?_))))
        rw [Int.toNat_natCast, Int.toNat_natCast, mk_ext, fin (m' ++ [x]) ?_]
        unfold trimS Lib.trimB
        rw [Dep.trimR_last m' hx]
        cases m' with
        | nil => exact Dep.trimL_head [] hx
        | cons y r => exact Dep.trimL_head _ (hm y (r ++ [x]) rfl)
theorem trim_l0 : ∀ (t A : Bs), (∀ y ∈ A, y = 32) → A.length + t.length < 1000000 → Ev (fun k => keelsonref4_Trim.l0 k (mk (A ++ t)) (A.length : Int) ((A.length + t.length : Nat) : Int)) (mk (trimS (A ++ t)))
  | [], A, hA, hl => by
    refine Ev.shift ?_
    simp only [keelsonref4_Trim.l0]
    refine Ev.neg (by simp) (Ev.shift ?_)
    simp only [keelsonref4_Trim.j1]
    have := trim_l1 0 A [] [] rfl hA (by simp) (by simp) (by simpa using hl)
    simpa using this
  | x :: t, A, hA, hl => by
    simp only [List.length_cons] at hl
    refine Ev.shift ?_
    simp only [keelsonref4_Trim.l0, mk_size]
    refine Ev.pos (by simp; omega) (Ev.pos (by omega) (Ev.pos (by simp; omega) ?_))
    by_cases hx : x = 32
    · subst hx
      refine Ev.pos (mk_bt_at A 32 t) ?_
      have ih := trim_l0 t (A ++ [32]) (fun y hy => by rcases List.mem_append.1 hy with hy | hy; exact hA y hy; exact List.mem_singleton.1 hy) (by simp; omega)
      rw [wrap_succ _ (by omega)]
      simp only [List.length_append, List.length_cons, List.length_nil, List.append_assoc, List.cons_append, List.nil_append, Nat.zero_add] at ih ⊢
      rwa [show A.length + (t.length + 1) = A.length + 1 + t.length by omega]
    · refine Ev.neg (by rw [mk_bt_at]; intro e; exact hx (UInt8.toNat_inj.1 (by have h3 : (x.toNat : Int) = 32 := e; show x.toNat = 32; omega))) (Ev.shift ?_)
      simp only [keelsonref4_Trim.j1]
      have := trim_l1 (x :: t).length A (x :: t) [] rfl hA (by simp) (fun y r e => by obtain ⟨rfl, -⟩ := List.cons.inj e; exact hx) (by simp; omega)
      simpa using this
theorem Trim_f (s : Bs) (h : s.length < 1000000) : Ev (fun k => keelsonref4_Trim.f k (mk s)) (mk (trimS s)) := by
  have := trim_l0 s [] (by simp) (by simpa using h)
  simpa [keelsonref4_Trim.f, mk_size] using this
end Go.Proofs.YtjbbgekkombpnaaGreatDoor.Pure

namespace Go.Proofs.YtjbbgekkombpnaaGreatDoor.Pure
open Go.RowKit Go.Proofs.YtjbbgekkombpnaaGreatDoor.PA Go.Proofs.YtjbbgekkombpnaaGreatDoorW.PrintWords Go.Proofs.YtjbbgekkombpnaaGreatDoorW.PrintLast Go.Proofs.YtjbbgekkombpnaaGreatDoorW.PrintMore
open Dep (pcs splitB trimS)
theorem pieces124 (s : Bs) (h : s.length < 1000000) : Ev (fun k => keelsonref4_pieces.f k (mk s) 124) ((splitB 124 s).map mk) := pieces_f 124 s h
theorem pieces44 (s : Bs) (h : s.length < 1000000) : Ev (fun k => keelsonref4_pieces.f k (mk s) 44) ((splitB 44 s).map mk) := pieces_f 44 s h
theorem ref_l2 (x4 : List ByteArray) (x5 : List (List S3)) (x7 : Int) (R : List (List S3) × Int) (ps : List Bs) (hps : ∀ p ∈ ps, p.length < 1000000) (hlen : ps.length < 1000000) (h5 : x5.length < 1000000) :
    ∀ (n i : Nat) (g : List S3), n + i = ps.length → g.length ≤ i →
    ((grpV ((ps.drop i).map trimS) g).2 = 0 → Ev (fun k => keelsonref4_Parse.l1 k x4 (x5 ++ [(grpV ((ps.drop i).map trimS) g).1]) (wrap64 (x7 + 1))) R) →
    ((grpV ((ps.drop i).map trimS) g).2 ≠ 0 → R = ([], (grpV ((ps.drop i).map trimS) g).2)) →
    Ev (fun k => keelsonref4_Parse.l2 k x4 x5 x7 (ps.map mk) g (i : Int)) R
  | 0, i, g, hn, hg, h1, h2 => by
    rw [List.drop_of_length_le (by omega)] at h1
    refine Ev.shift ?_
    simp only [keelsonref4_Parse.l2, List.length_map]
    exact Ev.neg (by omega) (Ev.pos (by omega) (h1 rfl))
  | n + 1, i, g, hn, hg, h1, h2 => by
    have hi : i < ps.length := by omega
    rw [List.drop_eq_getElem_cons hi, List.map_cons, grpV] at h1 h2
    have hp := hps ps[i] (List.getElem_mem hi)
    refine Ev.shift ?_
    simp only [keelsonref4_Parse.l2, List.length_map, rdOf_mk ps i hi]
    refine Ev.pos (by omega) (Ev.pos (by omega) (Ev.bind (Trim_f _ hp) (Ev.bind (Parse_Ar _ (Nat.lt_of_le_of_lt (Dep.trimS_len _) hp)) ?_)))
    by_cases he : (parseA (trimS ps[i])).2.2.2 = 0
    · rw [if_pos he] at h1 h2
      refine Ev.pos he (Ev.pos (by omega) ?_)
      rw [wrap_succ i (by omega)]
      exact ref_l2 x4 x5 x7 R ps hps hlen h5 n (i + 1) (g ++ [atomV (trimS ps[i])]) (by omega) (by simp; omega) h1 h2
    · rw [if_neg he] at h1 h2
      refine Ev.neg he ?_
      rw [h2 he]
      exact Ev.some_ _
theorem ref_l1 (ps : List Bs) (hps : ∀ p ∈ ps, p.length < 900000) (hlen : ps.length < 1000000) : ∀ (n i : Nat) (l : List (List S3)), n + i = ps.length → l.length ≤ i → Ev (fun k => keelsonref4_Parse.l1 k (ps.map mk) l (i : Int)) (grpsV ((ps.drop i).map trimS) l)
  | 0, i, l, hn, hl => by
    rw [List.drop_of_length_le (by omega)]
    refine Ev.shift ?_
    simp only [keelsonref4_Parse.l1, List.length_map]
    exact Ev.neg (by omega) (Ev.some_ _)
  | n + 1, i, l, hn, hl => by
    have hi : i < ps.length := by omega
    rw [List.drop_eq_getElem_cons hi, List.map_cons, grpsV, Dep.pcs_trimS (by decide)]
    have hp := hps ps[i] (List.getElem_mem hi)
    refine Ev.shift ?_
    simp only [keelsonref4_Parse.l1, List.length_map, rdOf_mk ps i hi]
    refine Ev.pos (by omega) (Ev.pos (by omega) (Ev.bind (pieces124 _ (by omega)) ?_))
    refine ref_l2 (ps.map mk) l (i : Int) _ (splitB 124 ps[i]) (fun q hq => Nat.lt_of_le_of_lt (Dep.splitB_mem_len _ _ _ hq) (by omega)) (Nat.lt_of_le_of_lt (Dep.splitB_len _ _) (by omega)) (by omega) (splitB 124 ps[i]).length 0 [] (by omega) (Nat.le_refl _) (fun h => ?_) (fun h => ?_)
    · rw [List.drop_zero] at h ⊢
      have h' : (grpV (pcs 124 ps[i]) []).2 = 0 := h
      rw [if_pos h', wrap_succ i (by omega)]
      exact ref_l1 ps hps hlen n (i + 1) _ (by omega) (by simp; omega)
    · rw [List.drop_zero] at h ⊢
      have h' : ¬ (grpV (pcs 124 ps[i]) []).2 = 0 := h
      rw [if_neg h']
      rfl
theorem bigV_split (p : Bs) : bigV p = decide ((((splitB 124 p).map mk).length : Int) > 6) := by
  unfold bigV
  rw [List.length_map, Dep.splitB_count]
  simp only [decide_eq_decide]
  omega
theorem ref_l0 (ps : List Bs) (hps : ∀ p ∈ ps, p.length < 900000) (hlen : ps.length < 1000000) (R : List (List S3) × Int) (hR : Ev (fun k => keelsonref4_Parse.l1 k (ps.map mk) [] 0) R) :
    ∀ (n i : Nat), n + i = ps.length → Ev (fun k => keelsonref4_Parse.l0 k (ps.map mk) (i : Int)) (if (ps.drop i).any bigV = true then ([], 8) else R)
  | 0, i, hn => by
    rw [List.drop_of_length_le (by omega)]
    refine Ev.shift ?_
    simp only [keelsonref4_Parse.l0, List.length_map]
    exact Ev.neg (by omega) hR
  | n + 1, i, hn => by
    have hi : i < ps.length := by omega
    rw [List.drop_eq_getElem_cons hi, List.any_cons]
    have hp := hps ps[i] (List.getElem_mem hi)
    refine Ev.shift ?_
    simp only [keelsonref4_Parse.l0, List.length_map, rdOf_mk ps i hi]
    refine Ev.pos (by omega) (Ev.pos (by omega) (Ev.bind (pieces124 _ (by omega)) ?_))
    cases hb : bigV ps[i] with
    | true =>
      rw [Bool.true_or, if_pos rfl]
      rw [bigV_split] at hb
      have := of_decide_eq_true hb
      rw [List.length_map] at this
      simp only [List.length_map]
      exact Ev.pos this (Ev.some_ _)
    | false =>
      rw [Bool.false_or]
      rw [bigV_split] at hb
      have := of_decide_eq_false hb
      rw [List.length_map] at this
      simp only [List.length_map]
      refine Ev.neg this ?_
      rw [wrap_succ i (by omega)]
      exact ref_l0 ps hps hlen R hR n (i + 1) (by omega)
theorem bigV_trim (p : Bs) : bigV (trimS p) = bigV p := by unfold bigV; rw [Dep.count_trimS (by decide)]
theorem RParse_f (s : Bs) (hs : s.length < 900000) : Ev (fun k => keelsonref4_Parse.f k (mk s)) (depV s) := by
  simp only [keelsonref4_Parse.f, mk_toList]
  unfold depV
  by_cases h0 : s = []
  · rw [if_pos h0]; exact Ev.pos h0 (Ev.some_ _)
  · rw [if_neg h0]
    have hm : ∀ p ∈ splitB 44 s, p.length < 900000 := fun p hp => Nat.lt_of_le_of_lt (Dep.splitB_mem_len _ _ _ hp) hs
    have hl := Dep.splitB_len 44 s
    have hpl : (pcs 44 s).length = (splitB 44 s).length := by unfold pcs; rw [List.length_map]
    refine Ev.neg h0 (Ev.bind (pieces44 s (by omega)) ?_)
    simp only [List.length_map]
    rw [hpl]
    by_cases h12 : ((splitB 44 s).length : Int) > 12
    · rw [if_pos h12]; exact Ev.pos h12 (Ev.some_ _)
    · rw [if_neg h12]
      refine Ev.neg h12 ?_
      have h := ref_l0 (splitB 44 s) hm (by omega) _ (ref_l1 (splitB 44 s) hm (by omega) (splitB 44 s).length 0 [] (by omega) (Nat.le_refl _)) (splitB 44 s).length 0 (by omega)
      rw [List.drop_zero] at h
      have ha : (pcs 44 s).any bigV = (splitB 44 s).any bigV := by
        unfold pcs
        rw [List.any_map]
        congr 1
        funext p
        exact bigV_trim p
      rw [ha]
      exact h
theorem grpV_len : ∀ (ps : List Bs) (g : List S3), (grpV ps g).1.length ≤ g.length + ps.length
  | [], g => by simp [grpV]
  | x :: r, g => by
    rw [grpV]
    split
    · have := grpV_len r (g ++ [atomV x])
      simp at this ⊢
      omega
    · simp
theorem grpsV_len : ∀ (ps : List Bs) (l : List (List S3)), (grpsV ps l).1.length ≤ l.length + ps.length
  | [], l => by simp [grpsV]
  | x :: r, l => by
    rw [grpsV]
    split
    · have := grpsV_len r (l ++ [(grpV (pcs 124 x) []).1])
      simp at this ⊢
      omega
    · simp
theorem grpsV_mem (M : Nat) : ∀ (ps : List Bs) (l : List (List S3)), (∀ p ∈ ps, p.length < M) → (∀ g ∈ l, g.length ≤ M) → ∀ g ∈ (grpsV ps l).1, g.length ≤ M
  | [], l, _, hl, g, hg => hl g hg
  | x :: r, l, hp, hl, g, hg => by
    rw [grpsV] at hg
    split at hg
    · refine grpsV_mem M r _ (fun p h => hp p (by simp [h])) (fun q hq => ?_) g hg
      rcases List.mem_append.1 hq with hq | hq
      · exact hl q hq
      · obtain rfl := List.mem_singleton.1 hq
        have h1 := grpV_len (pcs 124 x) []
        have h2 := Dep.pcs_len 124 x
        have h3 := hp x (by simp)
        simp only [List.length_nil] at h1
        omega
    · cases hg
theorem depV_len (s : Bs) : (depV s).1.length ≤ 12 := by
  unfold depV
  split
  · simp
  · split
    · simp
    · split
      · simp
      · have := grpsV_len (pcs 44 s) []
        simp only [List.length_nil] at this
        omega
theorem depV_mem (s : Bs) : ∀ g ∈ (depV s).1, g.length ≤ s.length + 1 := by
  unfold depV
  split
  · simp
  · split
    · simp
    · split
      · simp
      · exact grpsV_mem (s.length + 1) (pcs 44 s) [] (fun p hp => Nat.lt_succ_of_le (Dep.pcs_mem_len hp)) (by simp)
theorem ref_atoms (l : List (List S3)) (hl : l.length < 1000000) : ∀ (n i : Nat) (out : List S3), n + i = l.length → out.length ≤ i → Ev (fun k => keelsonref4_Atoms.l0 k l out (i : Int)) (atomsF (l.drop i) out)
  | 0, i, out, hn, ho => by
    rw [List.drop_of_length_le (by omega)]
    refine Ev.shift ?_
    simp only [keelsonref4_Atoms.l0]
    exact Ev.neg (by omega) (Ev.some_ _)
  | n + 1, i, out, hn, ho => by
    have hi : i < l.length := by omega
    rw [List.drop_eq_getElem_cons hi, atomsF]
    have hrd : rd_L4 l (i : Int) = l[i] := by
      unfold rd_L4
      rw [Int.toNat_natCast, List.getD_eq_getElem?_getD, List.getElem?_eq_getElem hi]
      rfl
    refine Ev.shift ?_
    simp only [keelsonref4_Atoms.l0, hrd]
    refine Ev.pos (by omega) (Ev.pos (by omega) ?_)
    generalize l[i] = g
    by_cases h1 : g.length = 1
    · rw [if_pos h1]
      obtain ⟨q, rfl⟩ := List.length_eq_one_iff.1 h1
      refine Ev.pos (by simp) (Ev.pos (by simp) (Ev.pos (by omega) ?_))
      rw [wrap_succ i (by omega)]
      exact ref_atoms l hl n (i + 1) (out ++ [q]) (by omega) (by simp; omega)
    · rw [if_neg h1]
      exact Ev.neg (by omega) (Ev.some_ _)
theorem RAtoms_f (s : Bs) (hs : s.length < 900000) : Ev (fun k => keelsonref4_Atoms.f k (mk s)) (datV s) := by
  simp only [keelsonref4_Atoms.f]
  refine Ev.bind (RParse_f s hs) ?_
  unfold datV
  have hl := depV_len s
  by_cases h : (depV s).2 = 0
  · simp only [if_pos h]
    exact ref_atoms (depV s).1 (by omega) (depV s).1.length 0 [] (by omega) (Nat.le_refl _)
  · simp only [if_neg h]; exact Ev.some_ _
theorem atomsF_len : ∀ (l : List (List S3)) (out : List S3), (atomsF l out).1.length ≤ out.length + l.length
  | [], out => by simp [atomsF]
  | g :: r, out => by
    rw [atomsF]
    split
    · next h =>
      have := atomsF_len r (out ++ g)
      simp at this ⊢
      omega
    · simp
theorem datV_len (s : Bs) : (datV s).1.length ≤ 12 := by
  unfold datV
  split
  · have := atomsF_len (depV s).1 []
    have := depV_len s
    simp only [List.length_nil] at *
    omega
  · simp
theorem sameAtoms_l0 (l : List S3) (hl : l.length < 1000000) : ∀ (n i : Nat), n + i = l.length → Ev (fun k => keelsonlaw4_sameAtoms.l0 k l l (i : Int)) true
  | 0, i, hn => by
    refine Ev.shift ?_
    simp only [keelsonlaw4_sameAtoms.l0]
    exact Ev.neg (by omega) (Ev.some_ _)
  | n + 1, i, hn => by
    refine Ev.shift ?_
    simp only [keelsonlaw4_sameAtoms.l0]
    refine Ev.pos (by omega) (Ev.pos (by omega) (Ev.pos (by omega) (Ev.neg (by simp) ?_)))
    rw [wrap_succ i (by omega)]
    exact sameAtoms_l0 l hl n (i + 1) (by omega)
theorem sameAtoms_f (l : List S3) (hl : l.length < 1000000) : Ev (fun k => keelsonlaw4_sameAtoms.f k l l) true := by
  simp only [keelsonlaw4_sameAtoms.f]
  exact Ev.pos trivial (sameAtoms_l0 l hl l.length 0 (by omega))
theorem same_l0 (l : List (List S3)) (hl : l.length < 1000000) (hg : ∀ g ∈ l, g.length < 1000000) : ∀ (n i : Nat), n + i = l.length → Ev (fun k => keelsonlaw4_same.l0 k l l (i : Int)) true
  | 0, i, hn => by
    refine Ev.shift ?_
    simp only [keelsonlaw4_same.l0]
    exact Ev.neg (by omega) (Ev.some_ _)
  | n + 1, i, hn => by
    have hi : i < l.length := by omega
    have hrd : rd_L4 l (i : Int) = l[i] := by
      unfold rd_L4
      rw [Int.toNat_natCast, List.getD_eq_getElem?_getD, List.getElem?_eq_getElem hi]
      rfl
    refine Ev.shift ?_
    simp only [keelsonlaw4_same.l0, hrd]
    refine Ev.pos (by omega) (Ev.pos (by omega) (Ev.pos (by omega) (Ev.bind (sameAtoms_f _ (hg _ (List.getElem_mem hi))) (Ev.pos rfl ?_))))
    rw [wrap_succ i (by omega)]
    exact same_l0 l hl hg n (i + 1) (by omega)
theorem same_f (l : List (List S3)) (hl : l.length < 1000000) (hg : ∀ g ∈ l, g.length < 1000000) : Ev (fun k => keelsonlaw4_same.f k l l) true := by
  simp only [keelsonlaw4_same.f]
  exact Ev.pos trivial (same_l0 l hl hg l.length 0 (by omega))
end Go.Proofs.YtjbbgekkombpnaaGreatDoor.Pure

