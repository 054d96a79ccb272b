import Derived.Test.YtdkmdicmipcifaaDiskGood
namespace Go.Proofs.Ytdkmdicmipcifaa.Disk
open Go
def tL (i : Nat) : FL := if i = 0 then [] else [([97], (List.replicate i 120, 0))]
def tD (n i : Nat) : Dk := if i ≤ n then ⟨tL i, i, 1000, (n : Int) - i, false⟩ else ⟨tL n, n, 1000, 0, true⟩
theorem tL_get (i : Nat) : get [97] (tL i) = (List.replicate i 120, 0) := by
  unfold tL
  by_cases h : i = 0
  · subst h; rfl
  · rw [if_neg h]
    exact get_some (get?_hit [] rfl)
theorem tL_put (i : Nat) : put [97] (List.replicate i 120 ++ [120], 0) (tL i) = tL (i + 1) := by
  have e : (List.replicate i 120 ++ [120] : Bs) = List.replicate (i + 1) 120 := by rw [List.replicate_succ', ]
  have e1 : tL (i + 1) = [([97], (List.replicate (i + 1) 120, 0))] := rfl
  rw [e, e1]
  by_cases h : i = 0
  · subst h; rfl
  · have e2 : tL i = [([97], (List.replicate i 120, 0))] := by unfold tL; rw [if_neg h]
    rw [e2]
    unfold put
    rw [del_hit (y := (([97] : Bs), ((List.replicate i 120, 0) : File))) [] rfl]; rfl
theorem tL_len (i : Nat) : (tL i).length ≤ 1 := by unfold tL; split <;> simp
theorem tD_new (n : Nat) (h : n ≤ 60) : limit (new 1000) n = tD n 0 := by
  unfold tD limit new
  rw [if_pos (by omega)]
  have e : max (n : Int) (-1) = (n : Int) - (0 : Nat) := by omega
  rw [e]; rfl
theorem tD_step (n i : Nat) (hn : n ≤ 60) (hi : i ≤ 100) : append (tD n i) [97] [120] = (tD n (i + 1), if i < n then 0 else 11) ∧ (tD n (i + 1)).gone = decide (i ≥ n) := by
  have hok : nameOk [97] = true := by decide
  by_cases h1 : i < n
  · have e : tD n i = ⟨tL i, i, 1000, (n : Int) - i, false⟩ := by unfold tD; rw [if_pos (by omega)]
    have e' : tD n (i + 1) = ⟨tL (i + 1), (i + 1 : Nat), 1000, (n : Int) - (i + 1 : Nat), false⟩ := by unfold tD; rw [if_pos (by omega)]
    rw [e, e']
    have hl := tL_len i
    refine ⟨?_, by simp; omega⟩
    unfold append
    rw [if_neg (by simp), if_neg (by simp [hok]), if_neg (by simp only []; omega), if_neg (by simp only [List.length_cons, List.length_nil]; omega)]
    rw [turn_ok (by simp only []; omega), if_neg (by simp), if_pos h1]
    simp only []
    rw [tL_get]
    unfold putD
    simp only []
    rw [tL_put, tL_get]
    congr 2
    · simp; omega
    · omega
  · have e' : tD n (i + 1) = ⟨tL n, n, 1000, 0, true⟩ := by unfold tD; rw [if_neg (by omega)]
    by_cases h2 : i = n
    · subst h2
      have e : tD i i = ⟨tL i, i, 1000, 0, false⟩ := by unfold tD; rw [if_pos (Nat.le_refl _)]; simp
      rw [e, e']
      have hl := tL_len i
      refine ⟨?_, by simp⟩
      unfold append
      rw [if_neg (by simp), if_neg (by simp [hok]), if_neg (by simp only []; omega), if_neg (by simp only [List.length_cons, List.length_nil]; omega), if_neg h1]
      have ht : turn ⟨tL i, i, 1000, 0, false⟩ = (⟨tL i, i, 1000, 0, true⟩, 11) := rfl
      rw [ht, if_pos (by simp)]
    · have e : tD n i = ⟨tL n, n, 1000, 0, true⟩ := by unfold tD; rw [if_neg (by omega)]
      rw [e, e', if_neg h1]
      exact ⟨by unfold append; rw [if_pos rfl], by simp; omega⟩
theorem tD_good (n i : Nat) (hn : n ≤ 60) : Good (tD n i) := by
  have hL : ∀ j, j ≤ 60 → Sorted (tL j) ∧ (∀ y ∈ tL j, nameOk y.1 = true) ∧ (∀ y ∈ tL j, 0 ≤ y.2.2 ∧ y.2.2 ≤ y.2.1.length) ∧ total (tL j) = j := fun j _ => by
    unfold tL
    by_cases h : j = 0
    · subst h; exact ⟨List.Pairwise.nil, by simp, by simp, rfl⟩
    · rw [if_neg h]
      refine ⟨List.pairwise_singleton _ _, ?_, ?_, ?_⟩
      · intro y hy; rw [List.mem_singleton] at hy; subst hy; show nameOk [97] = true; decide
      · intro y hy; rw [List.mem_singleton] at hy; subst hy; simp
      · simp [total]
  unfold tD
  by_cases h : i ≤ n
  · rw [if_pos h]
    obtain ⟨a, b, c, e⟩ := hL i (by omega)
    have := tL_len i
    exact ⟨a, b, c, e.symm, by simp only []; omega, by simp, by simp only []; omega, by simp only []; omega⟩
  · rw [if_neg h]
    obtain ⟨a, b, c, e⟩ := hL n (by omega)
    have := tL_len n
    exact ⟨a, b, c, e.symm, by simp only []; omega, by simp, by simp only []; omega, by simp⟩
theorem tD_end (n i : Nat) : (tD n i).used = min (n : Int) i ∧ (decide ((sync (tD n i) [97]).2 = 0) = (decide ((tD n i).used > 0) && decide (i < n))) := by
  have hh : ∀ j, has [97] (tL j) = decide (0 < j) := fun j => by
    unfold tL
    by_cases h : j = 0
    · subst h; rfl
    · rw [if_neg h]; simp [has]; omega
  by_cases h : i ≤ n
  · have e : tD n i = ⟨tL i, i, 1000, (n : Int) - i, false⟩ := by unfold tD; rw [if_pos h]
    rw [e]
    refine ⟨by simp only []; omega, ?_⟩
    have e2 : (there ⟨tL i, i, 1000, (n : Int) - i, false⟩ [97] true).2.2 = (if 0 < i then (if i < n then 0 else 11) else 6) := by
      unfold there
      rw [if_neg (by simp), hh]
      by_cases h0 : 0 < i
      · rw [if_neg (by simp; omega), if_pos rfl, if_pos h0]
        show (turn _).2 = _
        rw [turn_err]
        simp only []
        by_cases h1 : i < n
        · rw [if_neg (by omega), if_pos h1]
        · rw [if_pos (by omega), if_neg h1]
      · rw [if_pos (by simp; omega), if_neg h0]
    have e3 : (sync ⟨tL i, i, 1000, (n : Int) - i, false⟩ [97]).2 = (there ⟨tL i, i, 1000, (n : Int) - i, false⟩ [97] true).2.2 := by
      unfold sync; split
      · rename_i h; exact h.symm
      · rfl
    rw [e3, e2]
    by_cases h0 : 0 < i
    · rw [if_pos h0]
      by_cases h1 : i < n
      · rw [if_pos h1]; simp [h0, h1]
      · rw [if_neg h1]; simp [h1]
    · rw [if_neg h0]; simp [h0]
  · have e : tD n i = ⟨tL n, n, 1000, 0, true⟩ := by unfold tD; rw [if_neg h]
    rw [e]
    refine ⟨by simp only []; omega, ?_⟩
    have e3 : (sync ⟨tL n, n, 1000, 0, true⟩ [97]).2 = 11 := by unfold sync there; rfl
    rw [e3]
    have : ¬ i < n := by omega
    simp [this]
end Go.Proofs.Ytdkmdicmipcifaa.Disk
