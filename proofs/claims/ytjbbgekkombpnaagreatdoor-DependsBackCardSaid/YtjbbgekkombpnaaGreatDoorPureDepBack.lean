import Derived.Test.YtjbbgekkombpnaaGreatDoorPureDepJoin
import Derived.Test.YtjbbgekkombpnaaGreatDoorPureRelText
namespace Go.Proofs.YtjbbgekkombpnaaGreatDoor.Pure
open Go.RowKit Go.Proofs.YtjbbgekkombpnaaGreatDoor.PA Go.Proofs.YtjbbgekkombpnaaGreatDoorW.PrintWords Go.Proofs.YtjbbgekkombpnaaGreatDoorW.PrintLast Go.Proofs.YtjbbgekkombpnaaGreatDoorW.PrintMore
open Go.Lib (join joinTail)
open Dep (pcs splitB trimS)
theorem join_more (sep x z : Bs) (r : List Bs) : join (x :: z :: r) sep = x ++ (sep ++ join (z :: r) sep) := by
  rw [Lib.join_cons, joinTail_cons, Lib.join_cons]
  simp
theorem pcs_join (c : UInt8) (hc : c ≠ 32) (A B : Bs) (hA : ∀ y ∈ A, y = 32) (hB : ∀ y ∈ B, y = 32) : ∀ (r : List Bs) (x : Bs), (∀ y ∈ x :: r, c ∉ y) → pcs c (join (x :: r) (A ++ c :: B)) = (x :: r).map trimS
  | [], x, h => by
    rw [Lib.join_one]
    unfold pcs
    rw [Dep.splitB_none (fun y hy e => h x (by simp) (by rw [← e]; exact hy))]
  | z :: r, x, h => by
    have ih := pcs_join c hc A B hA hB r z (fun y hy => h y (by simp [hy]))
    rw [join_more, show x ++ (A ++ c :: B ++ join (z :: r) (A ++ c :: B)) = (x ++ A) ++ c :: (B ++ join (z :: r) (A ++ c :: B)) by simp]
    have hx : ∀ y ∈ x ++ A, y ≠ c := fun y hy e => by
      rcases List.mem_append.1 hy with hy | hy
      · exact h x (by simp) (by rw [← e]; exact hy)
      · exact hc (e.symm.trans (hA y hy))
    have e1 : pcs c ((x ++ A) ++ c :: (B ++ join (z :: r) (A ++ c :: B))) = trimS (x ++ A) :: pcs c (B ++ join (z :: r) (A ++ c :: B)) := by
      unfold pcs
      rw [Dep.splitB_hit _ hx, List.map_cons]
    have e2 := Dep.trimS_mid [] A x (by simp) hA
    rw [List.nil_append] at e2
    rw [e1, Dep.pcs_blanksL hc hB, ih, e2]
    rfl
def Tight (x : Bs) : Prop := (∃ a r, x = a :: r ∧ a ≠ 32) ∧ ∃ b r, x = r ++ [b] ∧ b ≠ 32
theorem trimS_tight {x : Bs} (h : Tight x) : trimS x = x := by
  obtain ⟨⟨a, r, e1, ha⟩, b, r', e2, hb⟩ := h
  unfold trimS Lib.trimB
  have h2 : Lib.trimRightB x 32 = x := by rw [e2]; exact Dep.trimR_last r' hb
  rw [h2, e1]
  exact Dep.trimL_head r ha
theorem tight_join (sep : Bs) : ∀ (r : List Bs) (x : Bs), (∀ y ∈ x :: r, Tight y) → Tight (join (x :: r) sep)
  | [], x, h => by rw [Lib.join_one]; exact h x (by simp)
  | z :: r, x, h => by
    obtain ⟨-, b, r', e2, hb⟩ := tight_join sep r z (fun y hy => h y (by simp [hy]))
    obtain ⟨⟨a, t, e1, ha⟩, -⟩ := h x (by simp)
    rw [join_more]
    refine ⟨⟨a, t ++ (sep ++ join (z :: r) sep), by rw [e1]; rfl, ha⟩, b, x ++ (sep ++ r'), by rw [e2]; simp, hb⟩
theorem name_no {n : Bs} (h : nameV n = true) {c : UInt8} (hc : oth3 c = false) : c ∉ n := by
  intro hm
  have h1 : fstOk n = true := by unfold nameV at h; simp at h; exact h.1.1
  cases n with
  | nil => simp at hm
  | cons d t =>
    rw [fstOk_all _ (by simp)] at h1
    simp only [Bool.and_eq_true] at h1
    rw [List.all_eq_true.1 h1.2 c hm] at hc
    cases hc
theorem name_pos {n : Bs} (h : nameV n = true) : 2 ≤ n.length := by unfold nameV at h; simp at h; omega
theorem ver_no {v : Bs} (h : plainV v = true) {c : UInt8} (hc : okU c = false) : c ∉ v := by
  intro hm
  unfold plainV at h
  rw [Bool.and_eq_true] at h
  have e := of_decide_eq_true h.2
  have hm' : c ∈ printV (parseV v).1 (parseV v).2.1 (parseV v).2.2.1 := by rw [e]; exact hm
  clear e h hm
  generalize (parseV v).1 = ep at hm'
  generalize (parseV v).2.1 = u at hm'
  generalize (parseV v).2.2.1 = r at hm'
  have hR : okR c = false := by
    cases h : okR c with
    | false => rfl
    | true => unfold okU at hc; rw [h] at hc; cases hc
  have hD : dg c = false := by
    cases h : dg c with
    | false => rfl
    | true => unfold okR at hR; rw [h] at hR; cases hR
  have h45 : c ≠ 45 := fun e => by rw [e] at hc; exact absurd hc (by decide)
  have h58 : c ≠ 58 := fun e => by rw [e] at hc; exact absurd hc (by decide)
  unfold printV at hm'
  split at hm'
  · next hr =>
    have he := rightV_rng hr
    unfold rightV at hr
    simp only [Bool.and_eq_true] at hr
    have hu := hr.1.1.2
    have hrr := hr.1.2
    unfold textV at hm'
    rcases List.mem_append.1 hm' with hm' | hm'
    · split at hm'
      · cases hm'
      · rcases List.mem_append.1 hm' with hm' | hm'
        · obtain ⟨n, rfl⟩ : ∃ n : Nat, ep = (n : Int) := ⟨ep.toNat, by omega⟩
          rw [itoa_nat] at hm'
          rw [dec_all n c hm'] at hD
          cases hD
        · exact h58 (List.mem_singleton.1 hm')
    · rcases List.mem_append.1 hm' with hm' | hm'
      · rw [List.all_eq_true.1 hu c hm'] at hc
        cases hc
      · split at hm'
        · cases hm'
        · rcases List.mem_cons.1 hm' with hm' | hm'
          · exact h45 hm'
          · rw [List.all_eq_true.1 hrr c hm'] at hR
            cases hR
  · cases hm'
theorem text_no {n : Bs} {op : Int} {v : Bs} (h : rightA n op v = true) {c : UInt8} (h1 : oth3 c = false) (h2 : okU c = false) (h3 : c ∉ ([32, 40, 41, 60, 61, 62] : Bs)) : c ∉ textA n op v := by
  unfold rightA at h
  simp only [Bool.and_eq_true, decide_eq_true_eq] at h
  obtain ⟨⟨⟨hn, h0⟩, h5⟩, hv⟩ := h
  have hn' := name_no hn h1
  unfold textA
  by_cases hz : op = 0
  · rw [if_pos hz]; exact hn'
  · rw [if_neg hz] at hv ⊢
    have hv' := ver_no hv h2
    have hs : c ∉ sgn op := by
      obtain ⟨s1, s2, s3, s4, s5⟩ := sgn_ops
      have : op = 1 ∨ op = 2 ∨ op = 3 ∨ op = 4 ∨ op = 5 := by omega
      intro hm
      rcases this with rfl | rfl | rfl | rfl | rfl
      · rw [s1] at hm; exact h3 (by simp at hm ⊢; simp [hm])
      · rw [s2] at hm; exact h3 (by simp at hm ⊢; rcases hm with hm | hm <;> simp [hm])
      · rw [s3] at hm; exact h3 (by simp at hm ⊢; simp [hm])
      · rw [s4] at hm; exact h3 (by simp at hm ⊢; rcases hm with hm | hm <;> simp [hm])
      · rw [s5] at hm; exact h3 (by simp at hm ⊢; simp [hm])
    simp only [List.mem_cons, List.not_mem_nil, or_false, not_or] at h3
    simp only [List.mem_append, List.mem_cons, List.not_mem_nil, or_false, not_or]
    exact ⟨⟨⟨⟨⟨hn', h3.1, h3.2.1⟩, hs⟩, h3.1⟩, hv'⟩, h3.2.2.1⟩
theorem tight_text {n : Bs} {op : Int} {v : Bs} (h : rightA n op v = true) : Tight (textA n op v) := by
  unfold rightA at h
  simp only [Bool.and_eq_true, decide_eq_true_eq] at h
  obtain ⟨⟨⟨hn, h0⟩, h5⟩, hv⟩ := h
  have h32 := name_32 hn
  have hl := name_pos hn
  obtain ⟨a, r, rfl⟩ : ∃ a r, n = a :: r := by cases n with | nil => simp at hl | cons a r => exact ⟨a, r, rfl⟩
  have ha : a ≠ 32 := fun e => h32 (by rw [e]; simp)
  unfold textA
  by_cases hz : op = 0
  · rw [if_pos hz]
    refine ⟨⟨a, r, rfl, ha⟩, ?_⟩
    rcases List.eq_nil_or_concat (a :: r) with e | ⟨q, b, e⟩
    · cases e
    · rw [List.concat_eq_append] at e
      exact ⟨b, q, e, fun eb => h32 (by rw [e, eb]; simp)⟩
  · rw [if_neg hz]
    exact ⟨⟨a, _, by simp only [List.cons_append]; rfl, ha⟩, 41, _, rfl, by decide⟩
theorem printS_text {x : S3} (h : rightS x = true) : printS x = textA (bs x.f0) x.f1 (bs x.f2) := by
  unfold printS printA
  have h' : rightA (bs x.f0) x.f1 (bs x.f2) = true := h
  rw [if_pos h']
theorem printS_tight {x : S3} (h : rightS x = true) : Tight (printS x) := by rw [printS_text h]; exact tight_text h
theorem printS_44 {x : S3} (h : rightS x = true) : (44 : UInt8) ∉ printS x := by rw [printS_text h]; exact text_no h (by decide) (by decide) (by decide)
theorem printS_124 {x : S3} (h : rightS x = true) : (124 : UInt8) ∉ printS x := by rw [printS_text h]; exact text_no h (by decide) (by decide) (by decide)
theorem atomV_print {x : S3} (h : rightS x = true) : (parseA (printS x)).2.2.2 = 0 ∧ atomV (printS x) = x := by
  have e : parseA (printS x) = (bs x.f0, x.f1, bs x.f2, 0) := by rw [printS_text h]; exact parseA_text h
  refine ⟨by rw [e], ?_⟩
  unfold atomV
  rw [e]
  show (⟨mk (bs x.f0), x.f1, mk (bs x.f2)⟩ : S3) = x
  rw [mk_bs, mk_bs]
theorem grpV_of : ∀ (g acc : List S3), (∀ x ∈ g, rightS x = true) → grpV (g.map printS) acc = (acc ++ g, 0)
  | [], acc, _ => by simp [grpV]
  | x :: r, acc, h => by
    obtain ⟨e1, e2⟩ := atomV_print (h x (by simp))
    rw [List.map_cons, grpV, if_pos e1, e2, grpV_of r (acc ++ [x]) (fun y hy => h y (by simp [hy]))]
    simp
theorem join_mem {sep : Bs} {c : UInt8} (hs : c ∉ sep) : ∀ r : List Bs, (∀ x ∈ r, c ∉ x) → c ∉ join r sep
  | [], _ => by simp [Lib.join_nil]
  | [x], h => by rw [Lib.join_one]; exact h x (by simp)
  | x :: z :: r, h => by
    rw [join_more]
    intro hm
    rcases List.mem_append.1 hm with hm | hm
    · exact h x (by simp) hm
    · rcases List.mem_append.1 hm with hm | hm
      · exact hs hm
      · exact join_mem hs (z :: r) (fun y hy => h y (by simp [hy])) hm
theorem map_same : ∀ (xs : List Bs), (∀ y ∈ xs, trimS y = y) → xs.map trimS = xs
  | [], _ => rfl
  | y :: t, h => by rw [List.map_cons, h y (by simp), map_same t (fun z hz => h z (by simp [hz]))]
theorem textG_facts {g : List S3} (h1 : 1 ≤ g.length) (hr : ∀ x ∈ g, rightS x = true) : Tight (textG g) ∧ (44 : UInt8) ∉ textG g ∧ pcs 124 (textG g) = g.map printS := by
  have hm : ∀ y ∈ g.map printS, ∃ x ∈ g, y = printS x := fun y hy => by obtain ⟨x, hx, e⟩ := List.mem_map.1 hy; exact ⟨x, hx, e.symm⟩
  refine ⟨?_, join_mem (by decide) _ (fun y hy => by obtain ⟨x, hx, rfl⟩ := hm y hy; exact printS_44 (hr x hx)), ?_⟩
  · match g, h1 with
    | x :: r, _ => exact tight_join _ _ _ (fun y hy => by obtain ⟨z, hz, rfl⟩ := hm y hy; exact printS_tight (hr z hz))
  · match g, h1 with
    | x :: r, _ =>
      have := pcs_join 124 (by decide) [32] [32] (by simp) (by simp) (r.map printS) (printS x) (fun y hy => by obtain ⟨z, hz, rfl⟩ := hm y hy; exact printS_124 (hr z hz))
      show pcs 124 (join (printS x :: r.map printS) [32, 124, 32]) = _
      rw [show ([32, 124, 32] : Bs) = [32] ++ 124 :: [32] from rfl, this]
      exact map_same _ (fun y hy => by obtain ⟨z, hz, rfl⟩ := hm y hy; exact trimS_tight (printS_tight (hr z hz)))
theorem grpsV_of : ∀ (l acc : List (List S3)), (∀ g ∈ l, 1 ≤ g.length ∧ ∀ x ∈ g, rightS x = true) → grpsV (l.map textG) acc = (acc ++ l, 0)
  | [], acc, _ => by simp [grpsV]
  | g :: r, acc, h => by
    obtain ⟨h1, h2⟩ := h g (by simp)
    rw [List.map_cons, grpsV, (textG_facts h1 h2).2.2, grpV_of g [] h2, List.nil_append, if_pos rfl, grpsV_of r (acc ++ [g]) (fun q hq => h q (by simp [hq]))]
    simp
theorem pcs_count (c : UInt8) (p : Bs) : (pcs c p).length = p.count c + 1 := by unfold pcs; rw [List.length_map, Dep.splitB_count]
theorem depV_text {l : List (List S3)} (h : rightL l = true) : depV (textL l) = (l, 0) := by
  obtain ⟨h12, hg⟩ := rightL_len h
  cases l with
  | nil => rfl
  | cons g r =>
    have hm : ∀ y ∈ (g :: r).map textG, ∃ q ∈ g :: r, y = textG q := fun y hy => by obtain ⟨x, hx, e⟩ := List.mem_map.1 hy; exact ⟨x, hx, e.symm⟩
    have hf := fun q (hq : q ∈ g :: r) => textG_facts (hg q hq).1 (hg q hq).2.2
    have hp : pcs 44 (textL (g :: r)) = (g :: r).map textG := by
      have := pcs_join 44 (by decide) [] [32] (by simp) (by simp) (r.map textG) (textG g) (fun y hy => by obtain ⟨q, hq, rfl⟩ := hm y hy; exact (hf q hq).2.1)
      show pcs 44 (join (textG g :: r.map textG) [44, 32]) = _
      rw [show ([44, 32] : Bs) = [] ++ 44 :: [32] from rfl, this]
      exact map_same _ (fun y hy => by obtain ⟨q, hq, rfl⟩ := hm y hy; exact trimS_tight (hf q hq).1)
    have ht : Tight (textL (g :: r)) := tight_join _ _ _ (fun y hy => by obtain ⟨q, hq, rfl⟩ := hm y hy; exact (hf q hq).1)
    obtain ⟨⟨a, t, e0, _⟩, _⟩ := ht
    unfold depV
    rw [if_neg (by rw [e0]; simp), hp, List.length_map, if_neg (by omega)]
    have hany : ((g :: r).map textG).any bigV = false := by
      rw [List.any_eq_false]
      intro y hy
      obtain ⟨q, hq, rfl⟩ := hm y hy
      have hc := pcs_count 124 (textG q)
      rw [(hf q hq).2.2, List.length_map] at hc
      have := (hg q hq).2.1
      unfold bigV
      rw [decide_eq_true_eq]
      omega
    rw [hany, if_neg (by simp), grpsV_of _ [] (fun q hq => ⟨(hg q hq).1, (hg q hq).2.2⟩), List.nil_append]
def okS (x : S3) : Prop := rightS x = true ∧ smS x
theorem atomV_ok {s : Bs} (h : (parseA s).2.2.2 = 0) (hs : s.length ≤ 2000) : okS (atomV s) := by
  rcases parseA_form s with ⟨n, op, v, e, hr, _, hn, hv⟩ | ⟨x, hx, e⟩
  · unfold atomV
    rw [e]
    have b1 : bs (mk n) = n := mk_dataList n
    have b2 : bs (mk v) = v := mk_dataList v
    refine ⟨?_, ?_⟩
    · show rightA (bs (mk n)) op (bs (mk v)) = true
      rw [b1, b2]; exact hr
    · show (mk n).size ≤ 2000 ∧ (mk v).size ≤ 2000
      rw [mk_size, mk_size]; omega
  · rw [e] at h
    exact absurd h hx
theorem grpV_ok : ∀ (ps : List Bs) (acc : List S3), (grpV ps acc).2 = 0 → (∀ x ∈ acc, okS x) → (∀ p ∈ ps, p.length ≤ 2000) → (∀ x ∈ (grpV ps acc).1, okS x) ∧ (grpV ps acc).1.length = acc.length + ps.length
  | [], acc, _, ha, _ => ⟨ha, rfl⟩
  | p :: r, acc, h, ha, hp => by
    rw [grpV] at h ⊢
    by_cases he : (parseA p).2.2.2 = 0
    · rw [if_pos he] at h ⊢
      obtain ⟨k1, k2⟩ := grpV_ok r (acc ++ [atomV p]) h (fun x hx => by
        rcases List.mem_append.1 hx with hx | hx
        · exact ha x hx
        · obtain rfl := List.mem_singleton.1 hx
          exact atomV_ok he (hp p (by simp))) (fun q hq => hp q (by simp [hq]))
      refine ⟨k1, ?_⟩
      rw [k2]
      simp
      omega
    · rw [if_neg he] at h
      exact absurd h he
def okG (g : List S3) : Prop := 1 ≤ g.length ∧ g.length ≤ 6 ∧ ∀ x ∈ g, okS x
theorem grpsV_ok : ∀ (ps : List Bs) (acc : List (List S3)), (grpsV ps acc).2 = 0 → (∀ g ∈ acc, okG g) → (∀ p ∈ ps, p.length ≤ 2000 ∧ bigV p = false) → (∀ g ∈ (grpsV ps acc).1, okG g) ∧ (grpsV ps acc).1.length = acc.length + ps.length
  | [], acc, _, ha, _ => ⟨ha, rfl⟩
  | p :: r, acc, h, ha, hp => by
    rw [grpsV] at h ⊢
    by_cases he : (grpV (pcs 124 p) []).2 = 0
    · rw [if_pos he] at h ⊢
      obtain ⟨hp1, hp2⟩ := hp p (by simp)
      obtain ⟨g1, g2⟩ := grpV_ok (pcs 124 p) [] he (by simp) (fun q hq => Nat.le_trans (Dep.pcs_mem_len hq) hp1)
      have hc := pcs_count 124 p
      have hb : ¬ 6 ≤ p.count 124 := by unfold bigV at hp2; exact of_decide_eq_false hp2
      rw [List.length_nil] at g2
      obtain ⟨k1, k2⟩ := grpsV_ok r (acc ++ [(grpV (pcs 124 p) []).1]) h (fun g hg => by
        rcases List.mem_append.1 hg with hg | hg
        · exact ha g hg
        · obtain rfl := List.mem_singleton.1 hg
          exact ⟨by omega, by omega, g1⟩) (fun q hq => hp q (by simp [hq]))
      refine ⟨k1, ?_⟩
      rw [k2]
      simp
      omega
    · rw [if_neg he] at h
      exact absurd h he
theorem depV_ok {s : Bs} (h : (depV s).2 = 0) (hs : s.length ≤ 1000) : rightL (depV s).1 = true ∧ SmL (depV s).1 := by
  have key : ∀ l : List (List S3), (∀ g ∈ l, okG g) → l.length ≤ 12 → rightL l = true ∧ SmL l := fun l hg hl => by
    refine ⟨?_, ⟨by omega, fun g hm => by have := (hg g hm).2.1; omega, fun g hm x hx => ((hg g hm).2.2 x hx).2⟩⟩
    unfold rightL
    rw [Bool.and_eq_true]
    refine ⟨List.all_eq_true.2 (fun g hm => ?_), decide_eq_true hl⟩
    obtain ⟨a, b, c⟩ := hg g hm
    unfold rightG
    rw [decide_eq_true a, decide_eq_true b, Bool.true_and, Bool.true_and]
    exact List.all_eq_true.2 (fun x hx => (c x hx).1)
  unfold depV at h ⊢
  split
  · exact key [] (by simp) (by simp)
  · next h0 =>
    rw [if_neg h0] at h
    split
    · next h12 => rw [if_pos h12] at h; cases h
    · next h12 =>
      rw [if_neg h12] at h
      split
      · next hb => rw [if_pos hb] at h; cases h
      · next hb =>
        rw [if_neg hb] at h
        have hb' : (pcs 44 s).any bigV = false := by simpa using hb
        rw [List.any_eq_false] at hb'
        obtain ⟨k1, k2⟩ := grpsV_ok (pcs 44 s) [] h (by simp) (fun p hp => ⟨by have := Dep.pcs_mem_len hp; omega, by simpa using hb' p hp⟩)
        exact key _ k1 (by rw [List.length_nil] at k2; omega)
theorem grpsV_err : ∀ (ps : List Bs) (acc : List (List S3)), (grpsV ps acc).2 ≠ 0 → (grpsV ps acc).1 = []
  | [], acc, h => absurd rfl h
  | p :: r, acc, h => by
    rw [grpsV] at h ⊢
    split at h
    · next he => rw [if_pos he]; exact grpsV_err r _ h
    · next he => rw [if_neg he]
theorem depV_err {s : Bs} (h : (depV s).2 ≠ 0) : (depV s).1 = [] := by
  unfold depV at h ⊢
  split
  · rfl
  · next h0 =>
    rw [if_neg h0] at h
    split
    · rfl
    · next h12 =>
      rw [if_neg h12] at h
      split
      · rfl
      · next hb =>
        rw [if_neg hb] at h
        exact grpsV_err _ _ h
end Go.Proofs.YtjbbgekkombpnaaGreatDoor.Pure
