import Derived.Test.YtdkmdicmipcifaaDiskGood
namespace Go.Proofs.Ytdkmdicmipcifaa.Disk
open Go
def Cr (left0 : List Int) (L0 : FL) (i : Nat) (left : List Int) (L : FL) : Prop :=
  ∃ done rest, L = done ++ rest ∧ done.length = i ∧ crashL left0 L0 = done ++ crashL left rest ∧ L.map (·.1) = L0.map (·.1)
theorem Cr.start (left : List Int) (L : FL) : Cr left L 0 left L := ⟨[], L, rfl, rfl, rfl, rfl⟩
theorem Cr.len {left0 left : List Int} {L0 L : FL} {i : Nat} (h : Cr left0 L0 i left L) : L.length = L0.length := by
  obtain ⟨_, _, _, _, _, h⟩ := h
  simpa using congrArg List.length h
theorem Cr.fin {left0 left : List Int} {L0 L : FL} {i : Nat} (h : Cr left0 L0 i left L) (hi : L0.length ≤ i) : L = crashL left0 L0 := by
  have hl := h.len
  obtain ⟨done, rest, h1, h2, h3, h4⟩ := h
  have : rest = [] := by
    cases rest with
    | nil => rfl
    | cons y r => rw [h1] at hl; simp at hl; omega
  subst this
  rw [h3, h1]
  cases left <;> simp [crashL]
theorem del_mid {done r : FL} {y : Bs × File} (h : Sorted (done ++ y :: r)) : del y.1 (done ++ y :: r) = done ++ r := by
  obtain ⟨h1, h2, h3⟩ := List.pairwise_append.1 h
  obtain ⟨h4, h5⟩ := List.pairwise_cons.1 h2
  unfold del
  rw [List.filter_append, List.filter_cons_of_neg (by simp)]
  congr 1
  · refine List.filter_eq_self.2 (fun z hz => ?_)
    have := before_ne (h3 z hz y List.mem_cons_self)
    simpa using this
  · refine List.filter_eq_self.2 (fun z hz => ?_)
    have := before_ne (h4 z hz)
    simpa using fun e => this e.symm
theorem ins_mid {x : Bs × File} : ∀ {done r : FL}, (∀ z ∈ done, bytesBefore z.1 x.1 = true) → (∀ z ∈ r, bytesBefore x.1 z.1 = true) → ins x (done ++ r) = done ++ x :: r
  | [], [], _, _ => rfl
  | [], z :: r, _, h => by
    show ins x (z :: r) = _
    unfold ins
    rw [if_pos (h z List.mem_cons_self)]; rfl
  | z :: done, r, h1, h2 => by
    show ins x (z :: (done ++ r)) = _
    unfold ins
    rw [if_neg (by rw [before_asymm (h1 z List.mem_cons_self)]; simp), ins_mid (fun y hy => h1 y (List.mem_cons_of_mem _ hy)) h2]; rfl
theorem put_mid {done r : FL} {y : Bs × File} (f : File) (h : Sorted (done ++ y :: r)) : put y.1 f (done ++ y :: r) = done ++ (y.1, f) :: r := by
  obtain ⟨h1, h2, h3⟩ := List.pairwise_append.1 h
  obtain ⟨h4, h5⟩ := List.pairwise_cons.1 h2
  unfold put
  rw [del_mid h]
  exact ins_mid (fun z hz => h3 z hz y List.mem_cons_self) (fun z hz => h4 z hz)
theorem get_mid {done r : FL} {y : Bs × File} (h : Sorted (done ++ y :: r)) : get? y.1 (done ++ y :: r) = some y.2 := (get?_mem h).2 (by simp)
theorem Cr.step {left0 left : List Int} {L0 L : FL} {i : Nat} (h : Cr left0 L0 i left L) (hs : Sorted L) (hi : i < L0.length) :
    ((L0.map (·.1)).getD i [], get ((L0.map (·.1)).getD i []) L) ∈ L ∧ has ((L0.map (·.1)).getD i []) L = true ∧
    (((get ((L0.map (·.1)).getD i []) L).1.length : Int) - (get ((L0.map (·.1)).getD i []) L).2 = 0 → Cr left0 L0 (i + 1) left L) ∧
    (((get ((L0.map (·.1)).getD i []) L).1.length : Int) - (get ((L0.map (·.1)).getD i []) L).2 ≠ 0 → Cr left0 L0 (i + 1) left.tail (put ((L0.map (·.1)).getD i []) (cut left (get ((L0.map (·.1)).getD i []) L)) L)) := by
  have hl := h.len
  obtain ⟨done, rest, h1, h2, h3, h4⟩ := h
  cases rest with
  | nil => rw [h1] at hl; simp at hl; omega
  | cons y r =>
    have hn : (L0.map (·.1)).getD i [] = y.1 := by
      rw [← h4, h1, List.map_append, List.getD_eq_getElem?_getD, List.getElem?_append_right (by simp [h2]), List.length_map, h2, Nat.sub_self]; rfl
    rw [hn]
    rw [h1] at hs
    have hg := get_mid hs
    have hg' : get y.1 L = y.2 := by rw [h1]; exact get_some hg
    rw [hg']
    refine ⟨by rw [h1]; simp, by rw [has_get?, h1, hg]; rfl, fun h0 => ?_, fun h0 => ?_⟩
    · refine ⟨done ++ [y], r, by rw [h1]; simp, by simp [h2], ?_, h4⟩
      rw [h3]
      have e : crashL left (y :: r) = y :: crashL left r := by
        rw [crashL.eq_def]; simp only []; rw [if_pos h0]
      rw [e]; simp
    · refine ⟨done ++ [(y.1, cut left y.2)], r, by rw [h1, put_mid _ hs]; simp, by simp [h2], ?_, ?_⟩
      · rw [h3]
        have e : crashL left (y :: r) = (y.1, cut left y.2) :: crashL left.tail r := by
          rw [crashL.eq_def]; simp only []; rw [if_neg h0]
        rw [e]; simp
      · rw [← h4, h1, put_mid _ hs]; simp
theorem good_cut {d : Dk} (g : Good d) (n : Bs) (left : List Int) (h : has n d.L = true) : Good (putD d n (cut left (get n d.L))) := by
  have hx := has_some h
  have hs := get?_safe g hx
  obtain ⟨c1, c2, c3⟩ := cut_safe hs.1 hs.2.1 left
  refine good_put g (g.names _ ((get?_mem g.sorted).1 hx)) c3 (by omega) ?_ (.inl h)
  have := g.fits
  omega
end Go.Proofs.Ytdkmdicmipcifaa.Disk
