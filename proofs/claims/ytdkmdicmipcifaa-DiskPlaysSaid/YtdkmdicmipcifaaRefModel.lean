import Derived.Test.YtdkmdicmipcifaaDiskCrash
namespace Go.Proofs.Ytdkmdicmipcifaa.Disk
open Go
def pos (n : Bs) : FL → Nat
  | [] => 0
  | y :: r => if bytesBefore y.1 n = true then pos n r + 1 else 0
theorem pos_le (n : Bs) : ∀ l : FL, pos n l ≤ l.length
  | [] => Nat.le_refl _
  | y :: r => by
    unfold pos
    have := pos_le n r
    rw [List.length_cons]
    split <;> omega
theorem pos_before {n : Bs} : ∀ {l : FL} {i : Nat} {y : Bs × File}, i < pos n l → l[i]? = some y → bytesBefore y.1 n = true
  | [], _, _, h, _ => by simp [pos] at h
  | z :: r, i, y, h, hy => by
    unfold pos at h
    by_cases hb : bytesBefore z.1 n = true
    · rw [if_pos hb] at h
      cases i with
      | zero => simp at hy; subst hy; exact hb
      | succ i => exact pos_before (l := r) (i := i) (by omega) (by simpa using hy)
    · rw [if_neg hb] at h; omega
theorem pos_at {n : Bs} : ∀ {l : FL} {y : Bs × File}, l[pos n l]? = some y → bytesBefore y.1 n = false
  | [], _, h => by simp [pos] at h
  | z :: r, y, h => by
    by_cases hb : bytesBefore z.1 n = true
    · have e : pos n (z :: r) = pos n r + 1 := by rw [pos, if_pos hb]
      rw [e] at h
      exact pos_at (l := r) (by simpa using h)
    · have e : pos n (z :: r) = 0 := by rw [pos, if_neg hb]
      rw [e] at h
      simp at h
      subst h
      simpa using hb
theorem pos_go {n : Bs} {l : FL} {i : Nat} {y : Bs × File} (hi : i ≤ pos n l) (hy : l[i]? = some y) (hb : bytesBefore y.1 n = true) : i + 1 ≤ pos n l := by
  rcases Nat.lt_or_ge i (pos n l) with h | h
  · exact h
  · obtain rfl : i = pos n l := by omega
    rw [pos_at hy] at hb; cases hb
theorem pos_stop {n : Bs} {l : FL} {i : Nat} {y : Bs × File} (hi : i ≤ pos n l) (hy : l[i]? = some y) (hb : bytesBefore y.1 n = false) : i = pos n l := by
  rcases Nat.lt_or_ge i (pos n l) with h | h
  · rw [pos_before h hy] at hb; cases hb
  · omega
theorem pos_end {n : Bs} {l : FL} {i : Nat} (hi : i ≤ pos n l) (hl : l.length ≤ i) : i = pos n l := by
  have := pos_le n l; omega
theorem has_pos {n : Bs} : ∀ {l : FL}, Sorted l → has n l = (match l[pos n l]? with | some y => y.1 == n | none => false)
  | [], _ => rfl
  | z :: r, h => by
    obtain ⟨h1, h2⟩ := List.pairwise_cons.1 h
    by_cases hb : bytesBefore z.1 n = true
    · have e : pos n (z :: r) = pos n r + 1 := by rw [pos, if_pos hb]
      have e2 : has n (z :: r) = has n r := by
        unfold has; rw [List.any_cons]
        have : (z.1 == n) = false := by simpa using before_ne hb
        rw [this]; rfl
      rw [e, e2, has_pos h2, List.getElem?_cons_succ]
    · have e : pos n (z :: r) = 0 := by rw [pos, if_neg hb]
      rw [e, List.getElem?_cons_zero]
      show (z.1 == n || r.any _) = (z.1 == n)
      by_cases hz : z.1 = n
      · simp [hz]
      · have : (r.any fun y => y.1 == n) = false := by
          rw [List.any_eq_false]
          intro y hy hyn
          have hyn : y.1 = n := by simpa using hyn
          have := h1 y hy
          rw [hyn] at this
          exact hb this
        rw [this]; simp
theorem has_at {n : Bs} {l : FL} (h : Sorted l) (hh : has n l = true) : l[pos n l]? = some (n, get n l) ∧ pos n l < l.length := by
  have e := has_pos (n := n) h
  rw [hh] at e
  cases hy : l[pos n l]? with
  | none => rw [hy] at e; cases e
  | some y =>
    rw [hy] at e
    have hn : y.1 = n := by simpa using e.symm
    have hm : (n, y.2) ∈ l := by
      have := List.mem_of_getElem? hy
      rw [← hn]; exact this
    have := (get?_mem h).2 hm
    refine ⟨?_, (List.getElem?_eq_some_iff.1 hy).1⟩
    rw [get_some this, ← hn]
theorem pos_miss {n : Bs} : ∀ {l : FL}, Sorted l → has n l = false → del n l = l
  | l, _, hh => del_none (has_none hh)
theorem put_pos {n : Bs} {f : File} : ∀ {l : FL}, Sorted l → put n f l = l.take (pos n l) ++ (n, f) :: l.drop (pos n l + if has n l = true then 1 else 0)
  | [], _ => rfl
  | z :: r, h => by
    obtain ⟨h1, h2⟩ := List.pairwise_cons.1 h
    by_cases hb : bytesBefore z.1 n = true
    · have e : pos n (z :: r) = pos n r + 1 := by rw [pos, if_pos hb]
      have hz : z.1 ≠ n := before_ne hb
      have e2 : has n (z :: r) = has n r := by
        unfold has; rw [List.any_cons]
        have : (z.1 == n) = false := by simpa using hz
        rw [this]; rfl
      have e3 : put n f (z :: r) = z :: put n f r := by
        unfold put
        rw [del_miss r hz]
        show (if bytesBefore (n, f).1 z.1 then _ else _) = _
        rw [if_neg (by show ¬ bytesBefore n z.1 = true; rw [before_asymm hb]; simp)]
      rw [e, e2, e3, put_pos h2, List.take_succ_cons, show pos n r + 1 + (if has n r = true then 1 else 0) = (pos n r + if has n r = true then 1 else 0) + 1 by omega, List.drop_succ_cons, List.cons_append]
    · have e : pos n (z :: r) = 0 := by rw [pos, if_neg hb]
      rw [e, List.take_zero, List.nil_append, Nat.zero_add]
      by_cases hz : z.1 = n
      · have hh : has n (z :: r) = true := by unfold has; rw [List.any_cons, hz]; simp
        rw [hh, if_pos rfl]
        subst hz
        exact put_mid (done := []) f h
      · have hn : bytesBefore n z.1 = true := (WideAt.bytes_total n z.1 (fun e => hz e.symm)).resolve_right hb
        have hh : has n (z :: r) = false := by
          unfold has; rw [List.any_cons]
          have : (r.any fun y => y.1 == n) = false := by
            rw [List.any_eq_false]
            intro y hy hyn
            have hyn : y.1 = n := by simpa using hyn
            have := h1 y hy
            rw [hyn] at this
            exact hb this
          rw [this]; simpa using hz
        rw [hh]
        unfold put
        rw [pos_miss h hh]
        show (if bytesBefore (n, f).1 z.1 then _ else _) = _
        rw [if_pos hn]; rfl
theorem del_pos {n : Bs} : ∀ {l : FL}, Sorted l → has n l = true → del n l = l.take (pos n l) ++ l.drop (pos n l + 1)
  | [], _, h => by simp [has] at h
  | z :: r, h, hh => by
    obtain ⟨h1, h2⟩ := List.pairwise_cons.1 h
    by_cases hb : bytesBefore z.1 n = true
    · have e : pos n (z :: r) = pos n r + 1 := by rw [pos, if_pos hb]
      have hz : z.1 ≠ n := before_ne hb
      have e2 : has n r = true := by
        unfold has at hh ⊢; rw [List.any_cons] at hh
        have : (z.1 == n) = false := by simpa using hz
        rw [this] at hh; exact hh
      rw [e, del_miss r hz, del_pos h2 e2, List.take_succ_cons, List.drop_succ_cons, List.cons_append]
    · have e : pos n (z :: r) = 0 := by rw [pos, if_neg hb]
      have hz : z.1 = n := by
        have := has_pos (n := n) h
        rw [e, hh, List.getElem?_cons_zero] at this
        simpa using this.symm
      rw [e, List.take_zero, List.nil_append]
      subst hz
      exact del_mid (done := []) h
def tails (l : FL) : Nat := (l.filter fun y => !decide ((y.2.1.length : Int) - y.2.2 = 0)).length
def crashAt (left : List Int) (l : FL) (i : Nat) : FL := (crashL left l).take i ++ l.drop i
theorem crashL_len (left : List Int) (l : FL) : (crashL left l).length = l.length := by
  have := congrArg List.length (crashL_names left l)
  simpa using this
theorem crashAt_len (left : List Int) (l : FL) (i : Nat) (hi : i ≤ l.length) : (crashAt left l i).length = l.length := by
  unfold crashAt
  rw [List.length_append, List.length_take, List.length_drop, crashL_len]; omega
theorem crashAt_end (left : List Int) (l : FL) : crashAt left l l.length = crashL left l := by
  unfold crashAt
  rw [← crashL_len left l, List.take_length, crashL_len, List.drop_length, List.append_nil]
theorem crashAt_get (left : List Int) (l : FL) (i : Nat) (hi : i ≤ l.length) : (crashAt left l i)[i]? = l[i]? := by
  unfold crashAt
  have : ((crashL left l).take i).length = i := by rw [List.length_take, crashL_len]; omega
  rw [List.getElem?_append_right (by omega), this, Nat.sub_self, List.getElem?_drop, Nat.add_zero]
theorem crashL_at : ∀ {left : List Int} {l : FL} {i : Nat} {y : Bs × File}, l[i]? = some y →
    (crashL left l)[i]? = some (if (y.2.1.length : Int) - y.2.2 = 0 then y else (y.1, cut (left.drop (tails (l.take i))) y.2))
  | _, [], _, _, h => by simp at h
  | left, z :: r, 0, y, h => by
    simp at h
    subst h
    unfold crashL
    split
    · rfl
    · rfl
  | left, z :: r, i + 1, y, h => by
    have h' : r[i]? = some y := by simpa using h
    by_cases h0 : (z.2.1.length : Int) - z.2.2 = 0
    · have e : crashL left (z :: r) = z :: crashL left r := by rw [crashL.eq_def]; simp only []; rw [if_pos h0]
      have e2 : tails ((z :: r).take (i + 1)) = tails (r.take i) := by
        unfold tails
        rw [List.take_succ_cons, List.filter_cons_of_neg (by simp [h0])]
      rw [e, e2, List.getElem?_cons_succ, crashL_at h']
    · have e : crashL left (z :: r) = (z.1, cut left z.2) :: crashL left.tail r := by rw [crashL.eq_def]; simp only []; rw [if_neg h0]
      have e2 : tails ((z :: r).take (i + 1)) = tails (r.take i) + 1 := by
        unfold tails
        rw [List.take_succ_cons, List.filter_cons_of_pos (by simp [h0])]; rfl
      rw [e, e2, List.getElem?_cons_succ, crashL_at h', List.drop_tail]
theorem tails_next {l : FL} {i : Nat} {y : Bs × File} (h : l[i]? = some y) : tails (l.take (i + 1)) = tails (l.take i) + if (y.2.1.length : Int) - y.2.2 = 0 then 0 else 1 := by
  unfold tails
  rw [List.take_add_one, h, List.filter_append, List.length_append]
  congr 1
  show (List.filter _ [y]).length = _
  split
  · rename_i h0; rw [List.filter_cons_of_neg (by simp [h0])]; rfl
  · rename_i h0; rw [List.filter_cons_of_pos (by simp [h0])]; rfl
theorem tails_le (l : FL) (i : Nat) : tails (l.take i) ≤ i := by
  unfold tails
  exact Nat.le_trans (List.length_filter_le _ _) (by rw [List.length_take]; omega)
theorem crashAt_same {left : List Int} {l : FL} {i : Nat} {y : Bs × File} (h : l[i]? = some y) (h0 : (y.2.1.length : Int) - y.2.2 = 0) : crashAt left l (i + 1) = crashAt left l i := by
  have hi := (List.getElem?_eq_some_iff.1 h).1
  have hc := crashL_at (left := left) h
  rw [if_pos h0] at hc
  unfold crashAt
  rw [List.take_add_one, hc, List.drop_eq_getElem_cons hi, List.append_assoc]
  congr 1
  rw [List.getElem?_eq_getElem hi] at h
  rw [← Option.some.inj h]; rfl
theorem crashAt_set {left : List Int} {l : FL} {i : Nat} {y : Bs × File} (h : l[i]? = some y) (h0 : (y.2.1.length : Int) - y.2.2 ≠ 0) :
    crashAt left l (i + 1) = (crashAt left l i).set i (y.1, cut (left.drop (tails (l.take i))) y.2) := by
  have hi := (List.getElem?_eq_some_iff.1 h).1
  have hc := crashL_at (left := left) h
  rw [if_neg h0] at hc
  have hl : ((crashL left l).take i).length = i := by rw [List.length_take, crashL_len]; omega
  unfold crashAt
  rw [List.take_add_one, hc, List.set_append_right _ _ (by omega), hl, Nat.sub_self, List.drop_eq_getElem_cons hi, List.set_cons_zero, List.append_assoc]; rfl
theorem total_take {l : FL} {i : Nat} {y : Bs × File} (h : l[i]? = some y) : total (l.take (i + 1)) = total (l.take i) + y.2.1.length := by
  unfold total
  rw [List.take_add_one, h, List.map_append, List.sum_append]
  show _ + List.sum [(y.2.1.length : Int)] = _
  simp
theorem total_take_le (l : FL) (i : Nat) : total (l.take i) ≤ total l := by
  have h : total l = total (l.take i) + total (l.drop i) := by
    unfold total
    rw [← List.sum_append, ← List.map_append, List.take_append_drop]
  have := total_nonneg (l.drop i)
  omega
end Go.Proofs.Ytdkmdicmipcifaa.Disk
