import Derived.Test.YtjbbgekkombpnaaGreatDoorPureRelParse
namespace Go.Proofs.YtjbbgekkombpnaaGreatDoor.Pure
open Go.RowKit Go.Proofs.YtjbbgekkombpnaaGreatDoor.PA Go.Proofs.YtjbbgekkombpnaaGreatDoorW.PrintWords Go.Proofs.YtjbbgekkombpnaaGreatDoorW.PrintLast Go.Proofs.YtjbbgekkombpnaaGreatDoorW.PrintMore
theorem sgn_ops : sgn 1 = [60, 60] ∧ sgn 2 = [60, 61] ∧ sgn 3 = [61] ∧ sgn 4 = [62, 61] ∧ sgn 5 = [62, 62] := by
  unfold sgn
  simp only [toList_data]
  exact ⟨rfl, rfl, rfl, rfl, rfl⟩
theorem op_sgn (g : Bs) (h : (opOf g).2 = true) : sgn (opOf g).1 = g ∧ 1 ≤ (opOf g).1 ∧ (opOf g).1 ≤ 5 := by
  obtain ⟨s1, s2, s3, s4, s5⟩ := sgn_ops
  unfold opOf at *
  by_cases h1 : g = [60, 60]
  · rw [if_pos h1]; exact ⟨s1.trans h1.symm, by decide, by decide⟩
  · rw [if_neg h1] at h ⊢
    by_cases h2 : g = [60, 61]
    · rw [if_pos h2]; exact ⟨s2.trans h2.symm, by decide, by decide⟩
    · rw [if_neg h2] at h ⊢
      by_cases h3 : g = [61]
      · rw [if_pos h3]; exact ⟨s3.trans h3.symm, by decide, by decide⟩
      · rw [if_neg h3] at h ⊢
        by_cases h4 : g = [62, 61]
        · rw [if_pos h4]; exact ⟨s4.trans h4.symm, by decide, by decide⟩
        · rw [if_neg h4] at h ⊢
          by_cases h5 : g = [62, 62]
          · rw [if_pos h5]; exact ⟨s5.trans h5.symm, by decide, by decide⟩
          · rw [if_neg h5] at h; cases h
theorem sgn_op (op : Int) (h0 : 1 ≤ op) (h5 : op ≤ 5) : opOf (sgn op) = (op, true) ∧ (32 : UInt8) ∉ sgn op := by
  obtain ⟨s1, s2, s3, s4, s5⟩ := sgn_ops
  have : op = 1 ∨ op = 2 ∨ op = 3 ∨ op = 4 ∨ op = 5 := by omega
  rcases this with rfl | rfl | rfl | rfl | rfl
  · rw [s1]; decide
  · rw [s2]; decide
  · rw [s3]; decide
  · rw [s4]; decide
  · rw [s5]; decide
theorem pre_iff (r : Bs) (c : UInt8) : Lib.hasPrefix r [c] = true ↔ ∃ t, r = c :: t := by
  unfold Lib.hasPrefix
  rw [List.isPrefixOf_iff_prefix]
  constructor
  · rintro ⟨t, h⟩; exact ⟨t, h.symm⟩
  · rintro ⟨t, h⟩; exact ⟨t, h.symm⟩
theorem suf_iff (r : Bs) (c : UInt8) : Lib.hasSuffix r [c] = true ↔ ∃ t, r = t ++ [c] := by
  unfold Lib.hasSuffix
  rw [List.isSuffixOf_iff_suffix]
  constructor
  · rintro ⟨t, h⟩; exact ⟨t, h.symm⟩
  · rintro ⟨t, h⟩; exact ⟨t, h.symm⟩
theorem trimP_cons (c : UInt8) (t : Bs) : Lib.trimPrefix (c :: t) [c] = t := by
  unfold Lib.trimPrefix
  rw [if_pos ((pre_iff _ _).2 ⟨t, rfl⟩)]; rfl
theorem trimS_app (c : UInt8) (t : Bs) : Lib.trimSuffix (t ++ [c]) [c] = t := by
  unfold Lib.trimSuffix
  rw [if_pos ((suf_iff _ _).2 ⟨t, rfl⟩)]; simp
theorem name_32 {n : Bs} (h : nameV n = true) : (32 : UInt8) ∉ n := by
  intro hm
  have h1 : fstOk n = true := by unfold nameV at h; simp at h; exact h.1.1
  cases n with
  | nil => simp at hm
  | cons c t =>
    rw [fstOk_all _ (by simp)] at h1
    simp only [Bool.and_eq_true] at h1
    exact absurd (List.all_eq_true.1 h1.2 32 hm) (by decide)
theorem parseA_form (s : Bs) : (∃ n op v, parseA s = (n, op, v, 0) ∧ rightA n op v = true ∧ textA n op v = s ∧ n.length ≤ s.length ∧ v.length ≤ s.length) ∨ (∃ x, x ≠ 0 ∧ parseA s = badA x) := by
  unfold parseA
  cases hc : cutAt 32 s with
  | none =>
    simp only []
    by_cases hn : nameV s = true
    · rw [if_pos hn]
      exact .inl ⟨s, 0, [], rfl, by unfold rightA; rw [hn]; rfl, by unfold textA; rw [if_pos rfl], Nat.le_refl _, Nat.zero_le _⟩
    · rw [if_neg hn]; exact .inr ⟨3, by decide, rfl⟩
  | some p =>
    obtain ⟨n, r⟩ := p
    have hs := (cutAt_some.1 hc).1
    simp only []
    by_cases hn : nameV n = true
    · rw [if_pos hn]
      unfold formA
      by_cases hp : Lib.hasPrefix r [40] = true
      · rw [if_pos hp]
        obtain ⟨r', rfl⟩ := (pre_iff _ _).1 hp
        rw [trimP_cons]
        by_cases hq : Lib.hasSuffix r' [41] = true
        · rw [if_pos hq]
          obtain ⟨m, rfl⟩ := (suf_iff _ _).1 hq
          rw [trimS_app]
          unfold inA
          cases hd : cutAt 32 m with
          | none => exact .inr ⟨5, by decide, rfl⟩
          | some q =>
            obtain ⟨g, v⟩ := q
            have hm := (cutAt_some.1 hd).1
            simp only []
            by_cases hk : (opOf g).2 = true
            · rw [if_pos hk]
              obtain ⟨k1, k2, k3⟩ := op_sgn g hk
              by_cases hv : plainV v = true
              · rw [if_pos hv]
                have ht : textA n (opOf g).1 v = s := by
                  unfold textA
                  rw [if_neg (by omega), k1, hs, hm]
                  simp
                refine .inl ⟨n, (opOf g).1, v, rfl, ?_, ht, ?_, ?_⟩
                · unfold rightA
                  rw [hn, decide_eq_true (show 0 ≤ (opOf g).1 by omega), decide_eq_true k3, if_neg (by omega), hv]; rfl
                · rw [hs]; simp
                · rw [hs, hm]; simp; omega
              · rw [if_neg hv]; exact .inr ⟨4, by decide, rfl⟩
            · rw [if_neg hk]; exact .inr ⟨5, by decide, rfl⟩
        · rw [if_neg hq]; exact .inr ⟨5, by decide, rfl⟩
      · rw [if_neg hp]; exact .inr ⟨5, by decide, rfl⟩
    · rw [if_neg hn]; exact .inr ⟨3, by decide, rfl⟩
theorem parseA_text {n : Bs} {op : Int} {v : Bs} (h : rightA n op v = true) : parseA (textA n op v) = (n, op, v, 0) := by
  unfold rightA at h
  simp only [Bool.and_eq_true, decide_eq_true_eq] at h
  obtain ⟨⟨⟨hn, h0⟩, h5⟩, hv⟩ := h
  have h32 := name_32 hn
  unfold textA
  by_cases hz : op = 0
  · subst hz
    rw [if_pos rfl] at hv ⊢
    have hv' : v = [] := of_decide_eq_true hv
    subst hv'
    unfold parseA
    rw [cutAt_none.2 h32]
    simp only []
    rw [if_pos hn]
  · rw [if_neg hz] at hv ⊢
    obtain ⟨g1, g2⟩ := sgn_op op (by omega) h5
    unfold parseA
    have e : n ++ [32, 40] ++ sgn op ++ [32] ++ v ++ [41] = n ++ 32 :: (40 :: ((sgn op ++ 32 :: v) ++ [41])) := by simp
    rw [e, cutAt_some.2 ⟨rfl, h32⟩]
    simp only []
    rw [if_pos hn]
    unfold formA
    rw [if_pos ((pre_iff _ _).2 ⟨_, rfl⟩), trimP_cons, if_pos ((suf_iff _ _).2 ⟨_, rfl⟩), trimS_app]
    unfold inA
    rw [cutAt_some.2 ⟨rfl, g2⟩]
    simp only []
    rw [g1, if_pos rfl, if_pos hv]
end Go.Proofs.YtjbbgekkombpnaaGreatDoor.Pure
