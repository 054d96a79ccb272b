import Derived.Test.YtohijjobmmibcaaDoorPureLex
import Derived.Test.YtohijjobmmibcaaDoorPAx5
namespace Go.Proofs.YtohijjobmmibcaaDoor.Pure
open Go.RowKit Go.Proofs.YtohijjobmmibcaaDoor.PA Go.Proofs.YtohijjobmmibcaaDoorW.PrintWords Go.Proofs.YtohijjobmmibcaaDoorW.PrintLast Go.Proofs.YtohijjobmmibcaaDoorW.PrintMore
theorem digit_f (c : UInt8) : version_digit.f (c.toNat : Int) = some (dg c) := by
  unfold version_digit.f dg
  by_cases h : (c.toNat : Int) ≥ 48
  · rw [if_pos h]
    congr 1
    rw [decide_eq_decide]
    omega
  · rw [if_neg h]
    congr 1
    symm
    rw [decide_eq_false_iff_not]
    omega
theorem other_f (c : UInt8) : version_CompareText_1.f (c.toNat : Int) = some (nd c) := by
  unfold version_CompareText_1.f
  rw [digit_f]
  rfl
theorem part20 : ∀ (t p : Bs), p.length + t.length < 4611686018427387904 → Ev (fun k => version_part_53.l0 k (mk (p ++ t)) (p.length : Int)) (mk (p ++ t.takeWhile nd), mk (t.dropWhile nd)) := by
  intro t
  induction t with
  | nil =>
    intro p h
    refine Ev.shift ?_
    simp only [version_part_53.l0, mk_size, List.append_nil]
    refine Ev.neg (by omega) (Ev.pos (by omega) (Ev.pos (by omega) (Ev.eq_ ?_)))
    rw [Int.toNat_natCast, mk_ext_from, mk_ext_to, List.take_length, List.drop_length]
    simp
  | cons c t ih =>
    intro p h
    refine Ev.shift ?_
    simp only [List.length_cons] at h
    simp only [version_part_53.l0, mk_size, List.length_append, List.length_cons]
    refine Ev.pos (by omega) (Ev.pos (by omega) (Ev.bindc (by rw [mk_bt_at]; exact other_f c) ?_))
    cases hc : nd c
    · refine Ev.neg (by simp) (Ev.pos (by omega) (Ev.eq_ ?_))
      rw [Int.toNat_natCast, mk_ext_from, List.takeWhile_cons_of_neg (by simp [hc]), List.dropWhile_cons_of_neg (by simp [hc])]
      rw [show p.length + (t.length + 1) = (p ++ c :: t).length by simp, mk_ext_to]
      simp
    · refine Ev.pos rfl ?_
      rw [wrap_succ _ (by omega), List.takeWhile_cons_of_pos hc, List.dropWhile_cons_of_pos hc]
      have := ih (p ++ [c]) (by simp; omega)
      simpa using this
theorem part21 : ∀ (t p : Bs), p.length + t.length < 4611686018427387904 → Ev (fun k => version_part_49.l0 k (mk (p ++ t)) (p.length : Int)) (mk (p ++ t.takeWhile dg), mk (t.dropWhile dg)) := by
  intro t
  induction t with
  | nil =>
    intro p h
    refine Ev.shift ?_
    simp only [version_part_49.l0, mk_size, List.append_nil]
    refine Ev.neg (by omega) (Ev.pos (by omega) (Ev.pos (by omega) (Ev.eq_ ?_)))
    rw [Int.toNat_natCast, mk_ext_from, mk_ext_to, List.take_length, List.drop_length]
    simp
  | cons c t ih =>
    intro p h
    refine Ev.shift ?_
    simp only [List.length_cons] at h
    simp only [version_part_49.l0, mk_size, List.length_append, List.length_cons]
    refine Ev.pos (by omega) (Ev.pos (by omega) (Ev.bindc (by rw [mk_bt_at]; exact digit_f c) ?_))
    cases hc : dg c
    · refine Ev.neg (by simp) (Ev.pos (by omega) (Ev.eq_ ?_))
      rw [Int.toNat_natCast, mk_ext_from, List.takeWhile_cons_of_neg (by simp [hc]), List.dropWhile_cons_of_neg (by simp [hc])]
      rw [show p.length + (t.length + 1) = (p ++ c :: t).length by simp, mk_ext_to]
      simp
    · refine Ev.pos rfl ?_
      rw [wrap_succ _ (by omega), List.takeWhile_cons_of_pos hc, List.dropWhile_cons_of_pos hc]
      have := ih (p ++ [c]) (by simp; omega)
      simpa using this
theorem part20_f (t : Bs) (n : Nat) (h : t.length < 4611686018427387904) : Ev (fun k => version_part_53.f k (mk t) n) (mk (t.takeWhile nd), mk (t.dropWhile nd)) := part20 t [] (by simpa using h)
theorem part21_f (t : Bs) (n : Nat) (h : t.length < 4611686018427387904) : Ev (fun k => version_part_49.f k (mk t) n) (mk (t.takeWhile dg), mk (t.dropWhile dg)) := part21 t [] (by simpa using h)
def wtAt (l : Bs) (i : Nat) : Int := match l[i]? with | some c => wt c | none => 0
theorem letters_f : ∀ c : UInt8, (0 ≤ Lib.indexByte ((⟨#[48, 49, 50, 51, 52, 53, 54, 55, 56, 57, 97, 98, 99, 100, 101, 102, 103, 104, 105, 106, 107, 108, 109, 110, 111, 112, 113, 114, 115, 116, 117, 118, 119, 120, 121, 122, 65, 66, 67, 68, 69, 70, 71, 72, 73, 74, 75, 76, 77, 78, 79, 80, 81, 82, 83, 84, 85, 86, 87, 88, 89, 90, 46, 43, 126]⟩ : ByteArray).extract 10 62).data.toList c) ↔ lt c = true :=
  byte_all (by decide +kernel)
theorem toByte (c : UInt8) : ((c.toNat : Int)).toNat.toUInt8 = c := by rw [Int.toNat_natCast]; exact UInt8.ofNat_toNat
theorem weight_f (l : Bs) (i : Nat) (h : l.length < 4611686018427387904) : version_weight.f (mk l) (i : Int) = some (wtAt l i) := by
  unfold version_weight.f wtAt
  rw [mk_size]
  by_cases hi : i < l.length
  · have e : bt (mk l) (i : Int) = (l[i].toNat : Int) := by rw [mk_bt]; simp [hi]
    rw [if_neg (by omega), if_pos (by omega), if_pos (by omega), e, List.getElem?_eq_getElem hi]
    have hb := l[i].toNat_lt
    simp only []
    generalize l[i] = c at *
    by_cases h1 : c.toNat = 126
    · rw [if_pos (by omega)]
      unfold wt; rw [if_pos h1]
    · rw [if_neg (by omega)]
      unfold wt; rw [if_neg h1, if_pos (by decide), if_pos (by decide)]
      unfold strings_IndexByte.f
      rw [toByte]
      simp only [Option.bind_some]
      by_cases h2 : lt c = true
      · rw [if_pos ((letters_f c).2 h2), if_pos h2]
        rw [wrap_in _ (by omega) (by omega)]
      · rw [if_neg (fun h => h2 ((letters_f c).1 h)), if_neg h2]
        congr 1
        unfold wrap64
        omega
  · rw [if_pos (by omega), List.getElem?_eq_none (by omega)]
theorem cmpInt_f (a b : Int) : cmp_Compare_int.f a b = some (cmpI a b) := by
  unfold cmp_Compare_int.f cmp_isNaN_int.f cmpI
  simp only [bne_self_eq_false, Option.bind_some, Bool.false_eq_true, if_false, gt_iff_lt]
  (repeat' split) <;> rfl
def orI : List Int → Int
  | [] => 0
  | a :: l => if a = 0 then orI l else a
theorem or_l0 : ∀ (t p : List Int), p.length + t.length < 4611686018427387904 → Ev (fun k => cmp_Or_int.l0 k 0 (p ++ t) ((p ++ t).length : Int) (p.length : Int)) (orI t) := by
  intro t
  induction t with
  | nil =>
    intro p h
    refine Ev.shift ?_
    simp only [cmp_Or_int.l0, List.append_nil]
    exact Ev.neg (by omega) (Ev.some_ _)
  | cons a t ih =>
    intro p h
    refine Ev.shift ?_
    simp only [List.length_cons] at h
    have e : rd (p ++ a :: t) (p.length : Int) = a := by simp [rd]
    simp only [cmp_Or_int.l0, List.length_append, List.length_cons, e]
    refine Ev.pos (by omega) (Ev.pos (by omega) (Ev.pos (by omega) ?_))
    by_cases ha : a = 0
    · refine Ev.pos ha ?_
      rw [wrap_succ _ (by omega)]
      have := ih (p ++ [a]) (by simp; omega)
      simpa [orI, ha, Nat.add_assoc, Nat.add_comm 1] using this
    · refine Ev.neg ha (Ev.eq_ ?_)
      simp [orI, ha]
theorem or_f (l : List Int) (h : l.length < 4611686018427387904) : Ev (fun k => cmp_Or_int.f k l) (orI l) := by
  have := or_l0 l [] (by simpa using h)
  simpa [cmp_Or_int.f] using this
theorem hd_wt (u : Bs) (i : Nat) : hd ((u.drop i).map wt) = wtAt u i := by
  unfold wtAt
  by_cases h : i < u.length
  · rw [List.drop_eq_getElem_cons h, List.getElem?_eq_getElem h]; rfl
  · rw [List.drop_eq_nil_of_le (by omega), List.getElem?_eq_none (by omega)]; rfl
theorem tail_wt (u : Bs) (i : Nat) : ((u.drop i).map wt).tail = (u.drop (i + 1)).map wt := by
  rw [← List.map_tail, List.tail_drop]
theorem words_l0 (u v : Bs) (n : Nat) (hu : u.length ≤ n) (hv : v.length ≤ n) (hn : n < 4611686018427387904) : ∀ (d i : Nat), n - i = d → i ≤ n →
    Ev (fun k => version_words.l0 k (mk u) (mk v) (n : Int) (i : Int)) (lex ((u.drop i).map wt) ((v.drop i).map wt)) := by
  intro d
  induction d with
  | zero =>
    intro i h hi
    refine Ev.shift ?_
    simp only [version_words.l0]
    refine Ev.neg (by omega) (Ev.eq_ ?_)
    rw [List.drop_eq_nil_of_le (by omega), List.drop_eq_nil_of_le (by omega)]
    rfl
  | succ d ih =>
    intro i h hi
    refine Ev.shift ?_
    simp only [version_words.l0]
    refine Ev.pos (by omega) (Ev.bindc (weight_f u i (by omega)) (Ev.bindc (weight_f v i (by omega)) (Ev.bindc (cmpInt_f _ _) ?_)))
    rw [lex_step, hd_wt, hd_wt, tail_wt, tail_wt]
    by_cases hc : cmpI (wtAt u i) (wtAt v i) = 0
    · refine Ev.pos hc ?_
      rw [wrap_succ _ (by omega), if_pos hc]
      exact ih (i + 1) (by omega) (by omega)
    · refine Ev.neg hc (Ev.eq_ ?_)
      rw [if_neg hc]
theorem mx_nat (a b : Nat) : mx (a : Int) (b : Int) = ((max a b : Nat) : Int) := by unfold mx; split <;> omega
theorem words_f (u v : Bs) (hu : u.length < 4611686018427387904) (hv : v.length < 4611686018427387904) : Ev (fun k => version_words.f k (mk u) (mk v)) (lex (u.map wt) (v.map wt)) := by
  have := words_l0 u v (max u.length v.length) (by omega) (by omega) (by omega) _ 0 rfl (by omega)
  simp only [version_words.f, mk_size, mx_nat]
  simpa using this
def sgS (a b : Bs) : Int := if Op.bytesLess a b = true then -1 else if Op.bytesLess b a = true then 1 else 0
theorem cmpStr_f (a b : Bs) : cmp_Compare_string.f (mk a) (mk b) = some (sgS a b) := by
  unfold cmp_Compare_string.f cmp_isNaN_string.f sgS
  simp only [bne_self_eq_false, Option.bind_some, Bool.false_eq_true, if_false, mk_toList]
  (repeat' split) <;> rfl
theorem trim0_f (l : Bs) : strings_TrimLeft.f (mk l) (⟨#[48]⟩ : ByteArray) = some (mk (l.dropWhile (· == 48))) := by
  unfold strings_TrimLeft.f Lib.trimLeftB
  simp only [mk_dataList]
  rfl
theorem val_add : ∀ (l : Bs) (n : Nat), val n l = n * 10 ^ l.length + val 0 l
  | [], n => by show n = n * 10 ^ 0 + 0; rw [Nat.pow_zero, Nat.mul_one, Nat.add_zero]
  | c :: l, n => by
    rw [val_c, val_c, List.length_cons, Nat.pow_succ]
    rw [val_add l (10 * n + dv c), val_add l (10 * 0 + dv c)]
    rw [Nat.add_mul, Nat.mul_zero, Nat.zero_add, Nat.mul_comm 10 n, Nat.mul_assoc, Nat.mul_comm 10 (10 ^ l.length)]
    omega
theorem dv_lt {c : UInt8} (h : dg c = true) : dv c ≤ 9 := by unfold dg at h; unfold dv; simp at h; omega
theorem val_lt : ∀ (l : Bs), (∀ c ∈ l, dg c = true) → val 0 l < 10 ^ l.length
  | [], _ => by show 0 < 10 ^ 0; rw [Nat.pow_zero]; omega
  | c :: l, h => by
    have h1 := val_lt l (fun d hd => h d (by simp [hd]))
    have h2 := dv_lt (h c (by simp))
    rw [val_c, List.length_cons, Nat.pow_succ]
    rw [val_add, Nat.mul_zero, Nat.zero_add]
    generalize 10 ^ l.length = e at *
    have : dv c * e ≤ 9 * e := Nat.mul_le_mul_right _ h2
    omega
theorem val_ge (c : UInt8) (l : Bs) (h : dg c = true) (h0 : c ≠ 48) : 10 ^ l.length ≤ val 0 (c :: l) := by
  rw [val_c, val_add]
  have : 1 ≤ dv c := by
    unfold dg at h; unfold dv; simp at h
    have : c.toNat ≠ 48 := fun e => h0 (UInt8.toNat_inj.1 e)
    omega
  have := Nat.mul_le_mul_right (10 ^ l.length) this
  simp only [Nat.mul_zero, Nat.zero_add, Nat.one_mul] at *
  omega
theorem val_zeros : ∀ (l : Bs), val 0 (l.dropWhile (· == 48)) = val 0 l
  | [] => rfl
  | c :: l => by
    by_cases h : c = 48
    · subst h
      rw [List.dropWhile_cons_of_pos (by simp), val_zeros l]
      rfl
    · rw [List.dropWhile_cons_of_neg (by simpa using h)]
theorem less_val : ∀ (x y : Bs), x.length = y.length → (∀ c ∈ x, dg c = true) → (∀ c ∈ y, dg c = true) → (Op.bytesLess x y = true ↔ val 0 x < val 0 y)
  | [], [], _, _, _ => ⟨fun h => (by cases h), fun h => absurd h (Nat.lt_irrefl _)⟩
  | [], _ :: _, h, _, _ => by simp at h
  | _ :: _, [], h, _, _ => by simp at h
  | a :: x, b :: y, h, hx, hy => by
    have hl : x.length = y.length := by simpa using h
    have ih := less_val x y hl (fun c hc => hx c (by simp [hc])) (fun c hc => hy c (by simp [hc]))
    have h1 := val_lt x (fun c hc => hx c (by simp [hc]))
    have h2 := val_lt y (fun c hc => hy c (by simp [hc]))
    have ha := hx a (by simp); have hb := hy b (by simp)
    rw [val_c, val_c, val_add x, val_add y, ← hl]
    simp only [Op.bytesLess, Nat.mul_zero, Nat.zero_add]
    rw [← hl] at h2
    generalize 10 ^ x.length = e at *
    unfold dg at ha hb
    simp at ha hb
    have ea : a.toNat = dv a + 48 := by unfold dv; omega
    have eb : b.toNat = dv b + 48 := by unfold dv; omega
    simp only [Bool.or_eq_true, Bool.and_eq_true, decide_eq_true_eq, beq_iff_eq, UInt8.lt_iff_toNat_lt, ← UInt8.toNat_inj, ih, ea, eb]
    generalize dv a = p at *; generalize dv b = q at *
    constructor
    · rintro (h | ⟨h, k⟩)
      · have : (p + 1) * e ≤ q * e := Nat.mul_le_mul_right _ (by omega)
        rw [Nat.add_mul] at this; omega
      · have : p = q := by omega
        subst this; omega
    · intro k
      by_cases hpq : p < q
      · exact .inl (by omega)
      · by_cases hqp : q < p
        · have : (q + 1) * e ≤ p * e := Nat.mul_le_mul_right _ (by omega)
          rw [Nat.add_mul] at this; omega
        · have : p = q := by omega
          subst this
          exact .inr ⟨rfl, by omega⟩
theorem nums (x y : Bs) (hx : ∀ c ∈ x, dg c = true) (hy : ∀ c ∈ y, dg c = true) :
    orI [cmpI ((x.dropWhile (· == 48)).length : Int) ((y.dropWhile (· == 48)).length : Int), sgS (x.dropWhile (· == 48)) (y.dropWhile (· == 48))] = cmpI (val 0 x) (val 0 y) := by
  rw [← val_zeros x, ← val_zeros y]
  have hx' : ∀ c ∈ x.dropWhile (· == 48), dg c = true := fun c hc => hx c ((List.dropWhile_suffix _).subset hc)
  have hy' : ∀ c ∈ y.dropWhile (· == 48), dg c = true := fun c hc => hy c ((List.dropWhile_suffix _).subset hc)
  have hx0 := List.head?_dropWhile_not (· == (48 : UInt8)) x
  have hy0 := List.head?_dropWhile_not (· == (48 : UInt8)) y
  generalize x.dropWhile (· == 48) = x at *
  generalize y.dropWhile (· == 48) = y at *
  have hx1 : ∀ d r, x = d :: r → d ≠ 48 := by rintro d r rfl; simpa using hx0
  have hy1 : ∀ d r, y = d :: r → d ≠ 48 := by rintro d r rfl; simpa using hy0
  clear hx0 hy0
  have lt : ∀ (x y : Bs), (∀ c ∈ x, dg c = true) → (∀ c ∈ y, dg c = true) → (∀ d r, y = d :: r → d ≠ 48) → x.length < y.length → val 0 x < val 0 y := by
    intro x y hx hy h0 hl
    cases y with
    | nil => simp at hl
    | cons d r =>
      have h1 := val_lt x hx
      have h2 := val_ge d r (hy d (by simp)) (h0 d r rfl)
      have h3 : 10 ^ x.length ≤ 10 ^ r.length := Nat.pow_le_pow_right (by omega) (by simp at hl; omega)
      omega
  simp only [orI]
  rcases Nat.lt_trichotomy x.length y.length with h | h | h
  · have := lt x y hx' hy' hy1 h
    rw [cmpI_neg.2 (by omega), cmpI_neg.2 (by omega)]; rfl
  · rw [cmpI_zero.2 (by omega), if_pos rfl]
    have a1 := less_val x y h hx' hy'
    have a2 := less_val y x h.symm hy' hx'
    unfold sgS
    by_cases b1 : Op.bytesLess x y = true
    · rw [if_pos b1, cmpI_neg.2 (by have := a1.1 b1; omega)]; rfl
    · rw [if_neg b1]
      by_cases b2 : Op.bytesLess y x = true
      · rw [if_pos b2, cmpI_pos.2 (by have := a2.1 b2; omega)]; rfl
      · rw [if_neg b2, if_pos rfl]
        have c1 : ¬ val 0 x < val 0 y := fun h => b1 (a1.2 h)
        have c2 : ¬ val 0 y < val 0 x := fun h => b2 (a2.2 h)
        rw [cmpI_zero.2 (by omega)]
  · have := lt y x hy' hx' hx1 h
    rw [cmpI_pos.2 (by omega), cmpI_pos.2 (by omega)]; rfl
theorem all_dg (t : Bs) : ∀ c ∈ t.takeWhile dg, dg c = true := by
  intro c hc
  have := List.all_takeWhile (p := dg) (l := t)
  rw [List.all_eq_true] at this
  exact this c hc
theorem numbers_f (x y : Bs) (hx : ∀ c ∈ x, dg c = true) (hy : ∀ c ∈ y, dg c = true) : Ev (fun k => version_numbers.f k (mk x) (mk y)) (cmpI (val 0 x) (val 0 y)) := by
  simp only [version_numbers.f]
  refine Ev.bindc (trim0_f x) (Ev.bindc (trim0_f y) (Ev.bindc (cmpInt_f _ _) (Ev.bindc (cmpStr_f _ _) (Ev.bind (or_f _ (by simp)) (Ev.eq_ ?_)))))
  rw [mk_size, mk_size, nums x y hx hy]
end Go.Proofs.YtohijjobmmibcaaDoor.Pure
