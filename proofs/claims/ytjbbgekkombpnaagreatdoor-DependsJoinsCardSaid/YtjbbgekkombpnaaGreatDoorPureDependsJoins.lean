import Derived.Test.YtjbbgekkombpnaaGreatDoorPureDepBack
import Derived.Test.YtjbbgekkombpnaaGreatDoorPAx22
import Derived.Test.YtjbbgekkombpnaaGreatDoorPAx11
namespace Go.Proofs.YtjbbgekkombpnaaGreatDoor.Pure
open Go.RowKit Go.Proofs.YtjbbgekkombpnaaGreatDoor.PA Go.Proofs.YtjbbgekkombpnaaGreatDoorW.PrintWords Go.Proofs.YtjbbgekkombpnaaGreatDoorW.PrintLast Go.Proofs.YtjbbgekkombpnaaGreatDoorW.PrintMore
def givesS (x y : S3) : Bool := givesV (bs x.f0) x.f1 (bs x.f2) (bs y.f0) y.f1 (bs y.f2)
theorem prov_f (x y : S3) : Ev (fun k => atomProv k x y) (givesS x y) := by
  unfold atomProv
  have := Provides_f (bs x.f0) x.f1 (bs x.f2) (bs y.f0) y.f1 (bs y.f2)
  simp only [mk_bs] at this
  exact this
theorem anyA_f {p : Nat → S3 → Option Bool} {q : S3 → Bool} (h : ∀ x, Ev (fun k => p k x) (q x)) : ∀ l : List S3, Ev (fun k => anyA (p k) l) (l.any q)
  | [] => Ev.some_ _
  | x :: r => by
    simp only [anyA, List.any_cons]
    refine Ev.bind (h x) ?_
    cases q x with
    | true => exact Ev.pos rfl (Ev.eq_ rfl)
    | false => exact Ev.neg (by simp) (by rw [Bool.false_or]; exact anyA_f h r)
theorem met_f (G : List S3) (x : S3) : Ev (fun k => groupMet k G [x]) (G.any (givesS x)) := by
  unfold groupMet
  refine Ev.pos (by simp) ?_
  have := anyA_f (p := fun k a => anyA (atomProv k a) G) (q := fun a => G.any (givesS a)) (fun a => anyA_f (fun b => prov_f a b) G) [x]
  simpa using this
def openV (G : List S3) : List S3 → Int → List Int → List Int
  | [], _, out => out
  | x :: r, i, out => if G.any (givesS x) = true then openV G r (i + 1) out else openV G r (i + 1) (out ++ [i])
theorem open_f (G : List S3) : ∀ (l : List S3) (i : Int) (out : List Int), Ev (fun k => openF k G (ones l) i out) (openV G l i out)
  | [], _, _ => Ev.some_ _
  | x :: r, i, out => by
    simp only [ones, List.map_cons, openF]
    rw [openV]
    refine Ev.bind (met_f G x) ?_
    cases G.any (givesS x) with
    | true => exact Ev.pos rfl (open_f G r _ _)
    | false => exact Ev.neg (by simp) (open_f G r _ _)
theorem openV_mem (G : List S3) : ∀ (l : List S3) (i : Nat) (out : List Int) (j : Int), j ∈ openV G l (i : Int) out → j ∈ out ∨ ∃ m, ∃ h : m < l.length, j = ((i + m : Nat) : Int) ∧ G.any (givesS l[m]) = false
  | [], _, _, _, h => .inl h
  | x :: r, i, out, j, h => by
    rw [openV, show (i : Int) + 1 = ((i + 1 : Nat) : Int) by omega] at h
    have up : (∃ m, ∃ h : m < r.length, j = ((i + 1 + m : Nat) : Int) ∧ G.any (givesS r[m]) = false) → ∃ m, ∃ h : m < (x :: r).length, j = ((i + m : Nat) : Int) ∧ G.any (givesS (x :: r)[m]) = false := by
      rintro ⟨m, hm, e, hh⟩
      exact ⟨m + 1, by simp; omega, by rw [e]; omega, by simpa using hh⟩
    cases hg : G.any (givesS x) with
    | true =>
      rw [hg, if_pos rfl] at h
      rcases openV_mem G r (i + 1) out j h with h | h
      · exact .inl h
      · exact .inr (up h)
    | false =>
      rw [hg, if_neg (by simp)] at h
      rcases openV_mem G r (i + 1) _ j h with h | h
      · rcases List.mem_append.1 h with h | h
        · exact .inl h
        · exact .inr ⟨0, by simp, by simpa using h, hg⟩
      · exact .inr (up h)
theorem gives_self {x : S3} (hr : rightS x = true) (h : x.f1 = 0 ∨ x.f1 = 3) : givesS x x = true := by
  unfold givesS givesV
  rw [decide_eq_true rfl, Bool.true_and]
  rcases h with h | h
  · rw [decide_eq_true h, Bool.true_or]
  · have hv : plainV (bs x.f2) = true := by
      unfold rightS rightA at hr
      simp only [Bool.and_eq_true] at hr
      have := hr.2
      rwa [if_neg (by omega)] at this
    have ho : okV (bs x.f2) = true := by
      unfold plainV at hv
      rw [Bool.and_eq_true] at hv
      exact hv.1
    have hs : holdsV 3 (bs x.f2) (bs x.f2) = true := by
      show (okV (bs x.f2) && okV (bs x.f2) && (cV (bs x.f2) (bs x.f2) == 0)) = true
      rw [ho, cV_self]
      rfl
    rw [decide_eq_true h, h, hs]
    simp
theorem atomsF_ones : ∀ (l out : List S3), atomsF (ones l) out = (out ++ l, 0)
  | [], out => by simp [ones, atomsF]
  | x :: r, out => by
    have := atomsF_ones r (out ++ [x])
    simp only [ones] at this
    simp only [ones, List.map_cons, atomsF, List.length_cons, List.length_nil, if_true, this]
    simp
structure JInv (S G : List S3) : Prop where
  len : S.length ≤ 12
  right : ∀ x ∈ S, rightS x = true
  sm : ∀ x ∈ S, smS x
  glen : G.length ≤ S.length
  given : ∀ x ∈ S, (x.f1 = 0 ∨ x.f1 = 3) → x ∈ G
theorem JInv.rightL {S G : List S3} (h : JInv S G) : Pure.rightL (ones S) = true := by
  unfold Pure.rightL
  rw [Bool.and_eq_true]
  refine ⟨List.all_eq_true.2 (fun g hg => ?_), decide_eq_true (by have := h.len; simpa [ones] using this)⟩
  obtain ⟨x, hx, rfl⟩ := List.mem_map.1 hg
  unfold rightG
  simp [h.right x hx]
theorem joins_l1 (S : List S3) (hl : S.length ≤ 12) (O : List Int) (hO : ∀ j ∈ O, ∃ m, ∃ h : m < S.length, j = (m : Int) ∧ S[m].f1 ≠ 0 ∧ S[m].f1 ≠ 3) (hol : O.length < 1000000) : ∀ (n i : Nat), n + i = O.length → Ev (fun k => keelsonlaw4_DependsJoins.l1 k S S 0 O (i : Int)) true
  | 0, i, h => by
    refine Ev.shift ?_
    simp only [keelsonlaw4_DependsJoins.l1]
    have e : Ev (fun k => depends_Join.f k []) (mk []) := DJoin_f [] (by simp) (by simp)
    exact Ev.neg (by omega) (Ev.pos trivial (Ev.bind (sameAtoms_f S (by omega)) (Ev.pos rfl (Ev.bind e (Ev.eq_ (by rw [mk_toList]; rfl))))))
  | n + 1, i, h => by
    have hi : i < O.length := by omega
    have hrd : rd O (i : Int) = O[i] := by
      unfold rd
      rw [Int.toNat_natCast, List.getD_eq_getElem?_getD, List.getElem?_eq_getElem hi]
      rfl
    obtain ⟨m, hm, e, h1, h2⟩ := hO O[i] (List.getElem_mem hi)
    refine Ev.shift ?_
    simp only [keelsonlaw4_DependsJoins.l1, hrd, e, rdT S m hm]
    refine Ev.pos (by omega) (Ev.pos (by omega) (Ev.pos (by omega) (Ev.pos (by omega) (Ev.neg h1 (Ev.neg h2 ?_)))))
    rw [wrap_succ i (by omega)]
    exact joins_l1 S hl O hO hol n (i + 1) (by omega)
theorem openV_len (G : List S3) : ∀ (l : List S3) (i : Int) (out : List Int), (openV G l i out).length ≤ out.length + l.length
  | [], _, _ => Nat.le_refl _
  | x :: r, i, out => by
    rw [openV]
    split
    · have := openV_len G r (i + 1) out
      simp only [List.length_cons]
      omega
    · have := openV_len G r (i + 1) (out ++ [i])
      simp only [List.length_append, List.length_cons, List.length_nil] at this ⊢
      omega
theorem joins_end (a S G : List S3) (i : Int) (h : JInv S G) : Ev (fun k => keelsonlaw4_DependsJoins.j2 k a S G (ones S) i false) true := by
  refine Ev.shift ?_
  simp only [keelsonlaw4_DependsJoins.j2]
  have hr := h.rightL
  have h12 := h.len
  have e1 := DJoin_f S (by omega) h.sm
  have e2 : printL (ones S) = textL (ones S) := by
    unfold printL
    rw [if_pos hr]
  have ho := ones_sm (a := S) (by omega) h.sm
  have hl := textL_len (ones S) (rightL_len hr).1 (fun g hg => ((rightL_len hr).2 g hg).2.1) ho.sm
  have e3 := DAtoms_f (textL (ones S)) (by omega)
  have e4 : datV (textL (ones S)) = (S, 0) := by
    unfold datV
    rw [depV_text hr]
    simp [atomsF_ones]
  rw [e2] at e1
  rw [e4] at e3
  have hG := h.glen
  have e5 : Ev (fun k => depends_Open.f k (ones S) G) (openV G S 0 []) := by
    unfold depends_Open.f
    exact Ev.pos ⟨by simp [ones]; omega, by omega⟩ (open_f G S 0 [])
  refine Ev.neg (by simp) (Ev.bind e1 (Ev.bind e3 (Ev.bind e5 ?_)))
  have hlen := openV_len G S 0 []
  rw [List.length_nil] at hlen
  refine joins_l1 S h12 _ (fun j hj => ?_) (by omega) (openV G S 0 []).length 0 (by omega)
  rcases openV_mem G S 0 [] j hj with hj | ⟨m, hm, e, hg⟩
  · cases hj
  · refine ⟨m, hm, by rw [e]; omega, ?_⟩
    have key : ¬ (S[m].f1 = 0 ∨ S[m].f1 = 3) := fun h03 => by
      have hin := h.given _ (List.getElem_mem hm) h03
      have := List.any_eq_true.2 ⟨_, hin, gives_self (h.right _ (List.getElem_mem hm)) h03⟩
      rw [hg] at this
      cases this
    exact ⟨fun e => key (.inl e), fun e => key (.inr e)⟩
theorem joins_l0 (a : List S3) (hl : a.length ≤ 40) (hs : ∀ x ∈ a, smS x) : ∀ (n i : Nat) (S G : List S3), n + i = a.length → JInv S G → Ev (fun k => keelsonlaw4_DependsJoins.l0 k a S G (ones S) (i : Int)) true
  | 0, i, S, G, h, hi => by
    refine Ev.shift ?_
    simp only [keelsonlaw4_DependsJoins.l0]
    exact Ev.neg (by omega) (joins_end a S G i hi)
  | n + 1, i, S, G, h, hI => by
    have hi : i < a.length := by omega
    have hm := List.getElem_mem hi
    have h12 := hI.len
    have hgl := hI.glen
    refine Ev.shift ?_
    simp only [keelsonlaw4_DependsJoins.l0]
    refine Ev.pos (by omega) ?_
    by_cases hc : (S.length : Int) < 12
    · rw [decide_eq_true hc]
      refine Ev.shift ?_
      simp only [keelsonlaw4_DependsJoins.j2, rdT a i hi]
      refine Ev.pos trivial (Ev.pos (by omega) (Ev.pos (by omega) (Ev.bind (RightS_r _ (hs _ hm)) ?_)))
      rw [wrap_succ i (by omega)]
      cases hr : rightS a[i] with
      | false => exact Ev.neg (by simp) (joins_l0 a hl hs n (i + 1) S G (by omega) hI)
      | true =>
        have ho : ones S ++ [[a[i]]] = ones (S ++ [a[i]]) := by simp [ones]
        have hol : (ones S).length = S.length := by simp [ones]
        have step : ∀ G', (G' = G ++ [a[i]] ∨ (G' = G ∧ ¬ (a[i].f1 = 0 ∨ a[i].f1 = 3))) → JInv (S ++ [a[i]]) G' := fun G' hG' => by
          have hmem : ∀ y ∈ G, y ∈ G' := fun y hy => by
            rcases hG' with rfl | ⟨rfl, _⟩
            · exact List.mem_append_left _ hy
            · exact hy
          have hlen' : G'.length ≤ G.length + 1 := by
            rcases hG' with rfl | ⟨rfl, _⟩
            · simp
            · omega
          refine ⟨by simp; omega, fun x hx => ?_, fun x hx => ?_, by simp; omega, fun x hx hx3 => ?_⟩
          · rcases List.mem_append.1 hx with hx | hx
            · exact hI.right x hx
            · rw [List.mem_singleton.1 hx]; exact hr
          · rcases List.mem_append.1 hx with hx | hx
            · exact hI.sm x hx
            · rw [List.mem_singleton.1 hx]; exact hs _ hm
          · rcases List.mem_append.1 hx with hx | hx
            · exact hmem _ (hI.given x hx hx3)
            · obtain rfl := List.mem_singleton.1 hx
              rcases hG' with rfl | ⟨_, hn⟩
              · simp
              · exact absurd hx3 hn
        refine Ev.pos rfl (Ev.pos (by omega) (Ev.bindc rfl (Ev.pos (by omega) (Ev.bindc rfl ?_))))
        show Ev (fun k => if a[i].f1 = 0 then _ else _) true
        have next : ∀ G', (G' = G ++ [a[i]] ∨ (G' = G ∧ ¬ (a[i].f1 = 0 ∨ a[i].f1 = 3))) → Ev (fun k => keelsonlaw4_DependsJoins.l0 k a (S ++ [a[i]]) G' (ones S ++ [[a[i]]]) ((i + 1 : Nat) : Int)) true := fun G' hG' => by
          rw [ho]
          exact joins_l0 a hl hs n (i + 1) _ G' (by omega) (step G' hG')
        by_cases h0 : a[i].f1 = 0
        · exact Ev.pos h0 (Ev.pos (by omega) (next _ (.inl rfl)))
        · refine Ev.neg h0 ?_
          by_cases h3 : a[i].f1 = 3
          · exact Ev.pos h3 (Ev.pos (by omega) (next _ (.inl rfl)))
          · exact Ev.neg h3 (next _ (.inr ⟨rfl, fun h => h.elim h0 h3⟩))
    · rw [decide_eq_false hc]
      exact joins_end a S G i hI
theorem DependsJoins (a : List S3) {P : Prop} (_ : P) : ∃ k, keelsonlaw4_DependsJoins.f k a = some true := by
  have main : Ev (fun k => keelsonlaw4_DependsJoins.f k a) true := by
    simp only [keelsonlaw4_DependsJoins.f]
    refine Ev.bind shown4_ev (Ev.bind (light_f a) (Ev.pos rfl ?_))
    refine Ev.shift ?_
    simp only [keelsonlaw4_DependsJoins.j0]
    cases h : lightV a with
    | false => exact Ev.pos (by simp) (Ev.some_ _)
    | true =>
      obtain ⟨h1, h2⟩ := lightV_true h
      exact Ev.neg (by simp) (joins_l0 a h1 h2 a.length 0 [] [] (by omega) ⟨by simp, fun x hx => (nomatch hx), fun x hx => (nomatch hx), by simp, fun x hx => (nomatch hx)⟩)
  exact main.rounds
end Go.Proofs.YtjbbgekkombpnaaGreatDoor.Pure
