/- The plain law of VersionEnds: a tilde behind a text makes it less, a letter greater, noughts ahead of a number change nothing. -/
import Derived.Test.YtpjhaaifgiicoaaDoorPureVersionOrders
import Derived.Test.YtpjhaaifgiicoaaDoorPureDec
import Derived.Test.YtpjhaaifgiicoaaDoorPAx7
namespace Go.Proofs.YtpjhaaifgiicoaaDoor.Pure
open Go.RowKit Go.Proofs.YtpjhaaifgiicoaaDoor.PA Go.Proofs.YtpjhaaifgiicoaaDoorW.PrintWords Go.Proofs.YtpjhaaifgiicoaaDoorW.PrintLast Go.Proofs.YtpjhaaifgiicoaaDoorW.PrintMore

theorem key_end (c : UInt8) (b : Bs) (hc : dg c = false) : ∀ (a : Bs) (st : Option Nat), ∃ K, key (a ++ c :: b) st = key a st ++ wt c :: K
  | [], none => ⟨key b none, by simp [key, hc]⟩
  | [], some n => ⟨key b none, by simp [key, hc]⟩
  | d :: a, none => by
    cases hd : dg d
    · obtain ⟨K, h⟩ := key_end c b hc a none
      exact ⟨K, by simp [key, hd, h]⟩
    · obtain ⟨K, h⟩ := key_end c b hc a (some (dv d))
      exact ⟨K, by simp [key, hd, h]⟩
  | d :: a, some n => by
    cases hd : dg d
    · obtain ⟨K, h⟩ := key_end c b hc a none
      exact ⟨K, by simp [key, hd, h]⟩
    · obtain ⟨K, h⟩ := key_end c b hc a (some (10 * n + dv d))
      exact ⟨K, by simp [key, hd, h]⟩
theorem key_app (x y : Bs) (h : ∀ st, key x st = key y st) : ∀ (a : Bs) (st : Option Nat), key (a ++ x) st = key (a ++ y) st
  | [], st => h st
  | d :: a, none => by simp only [List.cons_append, key]; rw [key_app x y h a, key_app x y h a]
  | d :: a, some n => by simp only [List.cons_append, key]; rw [key_app x y h a, key_app x y h a]
theorem key_zero (d : UInt8) (t : Bs) (hd : dg d = true) : ∀ z, key (List.replicate z 48 ++ d :: t) none = key (d :: t) none
  | 0 => rfl
  | z + 1 => by
    have h0 : dg 48 = true := by decide
    have e : ∀ z, key (List.replicate z 48 ++ d :: t) (some 0) = key (d :: t) (some 0) := by
      intro z
      induction z with
      | zero => rfl
      | succ z ih =>
        rw [List.replicate_succ, List.cons_append]
        simp only [key, h0, if_true]
        rw [show 10 * 0 + dv 48 = 0 from rfl, ih]
        simp only [key, hd, if_true]
    rw [List.replicate_succ, List.cons_append]
    simp only [key, h0, if_true]
    rw [show dv 48 = 0 from rfl, e z]
    simp only [key, hd, if_true, Nat.mul_zero, Nat.zero_add]
theorem letters_at : ∀ i, i < 52 → ∃ c : UInt8, (⟨#[97, 98, 99, 100, 101, 102, 103, 104, 105, 106, 107, 108, 109, 110, 111, 112, 113, 114, 115, 116, 117, 118, 119, 120, 121, 122, 65, 66, 67, 68, 69, 70, 71, 72, 73, 74, 75, 76, 77, 78, 79, 80, 81, 82, 83, 84, 85, 86, 87, 88, 89, 90]⟩ : ByteArray).extract i (i + 1) = mk [c] ∧ lt c = true := by
  have h : ∀ i, i < 52 → (⟨#[97, 98, 99, 100, 101, 102, 103, 104, 105, 106, 107, 108, 109, 110, 111, 112, 113, 114, 115, 116, 117, 118, 119, 120, 121, 122, 65, 66, 67, 68, 69, 70, 71, 72, 73, 74, 75, 76, 77, 78, 79, 80, 81, 82, 83, 84, 85, 86, 87, 88, 89, 90]⟩ : ByteArray).extract i (i + 1) = mk [if i < 26 then UInt8.ofNat (97 + i) else UInt8.ofNat (39 + i)] ∧ lt (if i < 26 then UInt8.ofNat (97 + i) else UInt8.ofNat (39 + i)) = true := by decide +kernel
  intro i hi
  exact ⟨_, h i hi⟩
theorem zeros_at : ∀ i, i < 9 → (⟨#[48, 48, 48, 48, 48, 48, 48, 48]⟩ : ByteArray).extract 0 i = mk (List.replicate i 48) := by decide +kernel
theorem wt_lt {c : UInt8} (h : lt c = true) : dg c = false ∧ 0 < wt c := by
  have h1 : ∀ c : UInt8, lt c = true → dg c = false ∧ 0 < wt c := byte_all (by decide +kernel)
  exact h1 c h
theorem tail_less (a b : Bs) : cmpT (a ++ 126 :: b) a = -1 := by
  obtain ⟨K, h⟩ := key_end 126 b (by decide) a none
  unfold cmpT keyW
  rw [h]
  conv => lhs; arg 2; rw [← List.append_nil (key a none)]
  rw [lex_app, lex_cn]
  rfl
theorem tail_more (a b : Bs) (c : UInt8) (hc : lt c = true) : cmpT (a ++ c :: b) a = 1 := by
  obtain ⟨h1, h2⟩ := wt_lt hc
  obtain ⟨K, h⟩ := key_end c b h1 a none
  unfold cmpT keyW
  rw [h]
  conv => lhs; arg 2; rw [← List.append_nil (key a none)]
  have : cmpI (wt c) 0 = 1 := cmpI_pos.2 h2
  rw [lex_app, lex_cn, this]
  rfl
theorem tail_both (a b : Bs) (c : UInt8) (hc : lt c = true) : cmpT (a ++ 126 :: b) (a ++ [c]) = -1 := by
  obtain ⟨h1, h2⟩ := wt_lt hc
  obtain ⟨K, h⟩ := key_end 126 b (by decide) a none
  obtain ⟨K', h'⟩ := key_end c [] h1 a none
  unfold cmpT keyW
  rw [h, h']
  have e : wt 126 = -1 := by decide
  have : cmpI (wt 126) (wt c) = -1 := cmpI_neg.2 (by omega)
  rw [lex_app, lex_cc, this]
  rfl
theorem tail_same (a b d : Bs) (z : Nat) (hd : ∀ c ∈ d, dg c = true) (h0 : d ≠ []) : cmpT (a ++ 46 :: (d ++ b)) (a ++ 46 :: (List.replicate z 48 ++ (d ++ b))) = 0 := by
  cases d with
  | nil => exact absurd rfl h0
  | cons c d =>
    have hc := hd c (by simp)
    have k := key_zero c (d ++ b) hc z
    have e : ∀ st, key (46 :: (c :: d ++ b)) st = key (46 :: (List.replicate z 48 ++ (c :: d ++ b))) st := by
      have h46 : dg 46 = false := by decide
      intro st
      cases st with
      | none => simp only [key, h46]; rw [List.cons_append, k, if_neg (by simp), if_neg (by simp)]
      | some n => simp only [key, h46]; rw [List.cons_append, k, if_neg (by simp), if_neg (by simp)]
    unfold cmpT keyW
    rw [key_app _ _ e a none]
    exact lex_self _
theorem VersionEnds (a0 a1 : ByteArray) (a2 a3 a4 : Int) (_w0 : a0.size ≤ 140737488351232) (_w1 : a1.size ≤ 140737488351232) (w2 : (Lit.int .i64 a2).wf = true) (w3 : (Lit.int .i64 a3).wf = true) (w4 : (Lit.int .i64 a4).wf = true) : ∃ k, keelsonlaw2_VersionEnds.f k a0 a1 a2 a3 a4 = some true := by
  obtain ⟨a, rfl, ha⟩ := mk_ex a0
  obtain ⟨b, rfl, hb⟩ := mk_ex a1
  have rng : ∀ {x : Int}, (Lit.int .i64 x).wf = true → -9223372036854775808 ≤ x ∧ x ≤ 9223372036854775807 := by
    intro x h
    unfold Lit.wf at h
    rw [Bool.and_eq_true] at h
    have e1 : IntKind.i64.min = -9223372036854775808 := by decide
    have e2 : IntKind.i64.max = 9223372036854775807 := by decide
    have h1 : IntKind.i64.min ≤ x := of_decide_eq_true h.1
    have h2 : x ≤ IntKind.i64.max := of_decide_eq_true h.2
    omega
  have r2 := rng w2; have r3 := rng w3; have r4 := rng w4
  have flip : ∀ x : Int, x < 0 → -9223372036854775808 ≤ x → wrap64 (-(wrap64 (x + 1))) = -(x + 1) := by
    intro x h1 h2
    rw [wrap_in (x + 1) (by omega) (by omega), wrap_in _ (by omega) (by omega)]
  have j3 : ∀ (n i z : Nat), n < 9223372036854775808 → i < 52 → z < 9 → a.length ≤ 200 → b.length ≤ 200 →
      Ev (fun k => keelsonlaw2_VersionEnds.j3 k (mk a) (mk b) (n : Int) ((⟨#[97, 98, 99, 100, 101, 102, 103, 104, 105, 106, 107, 108, 109, 110, 111, 112, 113, 114, 115, 116, 117, 118, 119, 120, 121, 122, 65, 66, 67, 68, 69, 70, 71, 72, 73, 74, 75, 76, 77, 78, 79, 80, 81, 82, 83, 84, 85, 86, 87, 88, 89, 90]⟩ : ByteArray).extract i (i + 1)) ((⟨#[48, 48, 48, 48, 48, 48, 48, 48]⟩ : ByteArray).extract 0 z)) true := by
    intro n i z hn hi hz la lb
    obtain ⟨c, hc, hl⟩ := letters_at i hi
    rw [hc, zeros_at z hz]
    refine Ev.shift ?_
    have hd := decDigits_dg n n (Nat.le_refl _)
    have hdl := decDigits_len 18 n (by omega)
    simp only [keelsonlaw2_VersionEnds.j3]
    refine Ev.bind (Decimal_f n hn) ?_
    generalize Lib.decDigits n = d at *
    rw [show (⟨#[126]⟩ : ByteArray) = mk [126] from rfl, show (⟨#[46]⟩ : ByteArray) = mk [46] from rfl]
    simp only [mk_app, mk_size, List.length_append, List.length_cons, List.length_nil, List.length_replicate, List.append_assoc, List.cons_append, List.nil_append]
    have e1 := tail_less a b
    have e2 := tail_more a b c hl
    have e3 := tail_same a b d z hd.1 hd.2
    have e4 := tail_both a b c hl
    refine Ev.pos (by omega) (Ev.pos (by omega) (Ev.bind (CompareText_f _ a (by simp; omega) (by omega)) (Ev.pos (by omega) (Ev.pos (by omega) (Ev.bind (CompareText_f _ a (by simp; omega) (by omega)) ?_)))))
    refine Ev.pos (by omega) (Ev.pos (by omega) (Ev.pos (by omega) (Ev.pos (by omega) (Ev.pos (by omega) (Ev.bind (CompareText_f _ _ (by simp; omega) (by simp; omega)) ?_)))))
    refine Ev.pos e1 (Ev.pos e2 (Ev.pos e3 (Ev.bind (CompareText_f _ _ (by simp; omega) (by simp; omega)) (Ev.eq_ ?_))))
    rw [e4]; rfl
  have j2 : ∀ (x y z : Int), 0 ≤ x → 0 ≤ y → x ≤ 9223372036854775807 → y ≤ 9223372036854775807 → -9223372036854775808 ≤ z → z ≤ 9223372036854775807 → a.length ≤ 200 → b.length ≤ 200 → Ev (fun k => keelsonlaw2_VersionEnds.j2 k (mk a) (mk b) x y z) true := by
    intro x y z hx hy hx2 hy2 hz hz2 la lb
    obtain ⟨x, rfl⟩ : ∃ n : Nat, x = n := ⟨x.toNat, by omega⟩
    obtain ⟨y, rfl⟩ : ∃ n : Nat, y = n := ⟨y.toNat, by omega⟩
    refine Ev.shift ?_
    simp only [keelsonlaw2_VersionEnds.j2]
    rw [show Int.tmod (x : Int) 52 = ((x % 52 : Nat) : Int) from tmod_nat x 52, show Int.tmod (y : Int) 9 = ((y % 9 : Nat) : Int) from tmod_nat y 9, wrap_succ _ (by omega)]
    simp only [Int.toNat_natCast]
    refine Ev.pos (by omega) (Ev.pos (by omega) (Ev.pos (by omega) (Ev.pos (by omega) (Ev.pos (by omega) ?_))))
    by_cases h : z < 0
    · refine Ev.pos h ?_
      rw [flip z h hz]
      obtain ⟨n, hn⟩ : ∃ n : Nat, -(z + 1) = n := ⟨(-(z + 1)).toNat, by omega⟩
      rw [hn]
      exact j3 n _ _ (by omega) (by omega) (by omega) la lb
    · refine Ev.neg h ?_
      obtain ⟨n, rfl⟩ : ∃ n : Nat, z = n := ⟨z.toNat, by omega⟩
      exact j3 n _ _ (by omega) (by omega) (by omega) la lb
  have j1 : ∀ (x : Int), 0 ≤ x → x ≤ 9223372036854775807 → a.length ≤ 200 → b.length ≤ 200 → Ev (fun k => keelsonlaw2_VersionEnds.j1 k (mk a) (mk b) x a3 a4) true := by
    intro x hx hx2 la lb
    refine Ev.shift ?_
    simp only [keelsonlaw2_VersionEnds.j1]
    by_cases h : a3 < 0
    · refine Ev.pos h ?_
      rw [flip a3 h r3.1]
      exact j2 _ _ _ hx (by omega) hx2 (by omega) r4.1 r4.2 la lb
    · exact Ev.neg h (j2 _ _ _ hx (by omega) hx2 r3.2 r4.1 r4.2 la lb)
  have j0 : ∀ g : Bool, (g = false → a.length ≤ 200 ∧ b.length ≤ 200) → Ev (fun k => keelsonlaw2_VersionEnds.j0 k (mk a) (mk b) a2 a3 a4 true g) true := by
    intro g hg
    refine Ev.shift ?_
    simp only [keelsonlaw2_VersionEnds.j0]
    cases g
    · obtain ⟨la, lb⟩ := hg rfl
      refine Ev.neg (by simp) ?_
      by_cases h : a2 < 0
      · refine Ev.pos h ?_
        rw [flip a2 h r2.1]
        exact j1 _ (by omega) (by omega) la lb
      · exact Ev.neg h (j1 _ (by omega) r2.2 la lb)
    · exact Ev.pos rfl (Ev.some_ _)
  have all : Ev (fun k => keelsonlaw2_VersionEnds.f k (mk a) (mk b) a2 a3 a4) true := by
    simp only [keelsonlaw2_VersionEnds.f, mk_size]
    refine Ev.bind shown_ev (Ev.pos rfl ?_)
    by_cases h1 : (a.length : Int) > 200
    · exact Ev.pos h1 (j0 true (fun h => by cases h))
    · refine Ev.neg h1 (j0 _ fun h => ?_)
      have := of_decide_eq_false h
      omega
  exact all.rounds
end Go.Proofs.YtpjhaaifgiicoaaDoor.Pure
