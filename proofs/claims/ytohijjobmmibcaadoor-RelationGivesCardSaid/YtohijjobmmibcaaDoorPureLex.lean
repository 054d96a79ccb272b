import Derived.Test.YtohijjobmmibcaaDoorPureKit
namespace Go.Proofs.YtohijjobmmibcaaDoor.Pure
def cmpI (a b : Int) : Int := if a < b then -1 else if b < a then 1 else 0
theorem cmpI_self (a : Int) : cmpI a a = 0 := by unfold cmpI; split <;> omega
theorem cmpI_zero {a b : Int} : cmpI a b = 0 ↔ a = b := by unfold cmpI; (repeat' split) <;> omega
theorem cmpI_neg {a b : Int} : cmpI a b = -1 ↔ a < b := by unfold cmpI; (repeat' split) <;> omega
theorem cmpI_pos {a b : Int} : cmpI a b = 1 ↔ b < a := by unfold cmpI; (repeat' split) <;> omega
def hd : List Int → Int
  | [] => 0
  | a :: _ => a
def lex0 : List Int → Int
  | [] => 0
  | b :: y => if cmpI 0 b = 0 then lex0 y else cmpI 0 b
def lex : List Int → List Int → Int
  | [], y => lex0 y
  | a :: x, y => if cmpI a (hd y) = 0 then lex x y.tail else cmpI a (hd y)
theorem lex_nn : lex [] [] = 0 := rfl
theorem lex_nc (b : Int) (y : List Int) : lex [] (b :: y) = if cmpI 0 b = 0 then lex [] y else cmpI 0 b := rfl
theorem lex_cn (a : Int) (x : List Int) : lex (a :: x) [] = if cmpI a 0 = 0 then lex x [] else cmpI a 0 := rfl
theorem lex_cc (a b : Int) (x y : List Int) : lex (a :: x) (b :: y) = if cmpI a b = 0 then lex x y else cmpI a b := rfl
theorem lex_step (x y : List Int) : lex x y = if cmpI (hd x) (hd y) = 0 then lex x.tail y.tail else cmpI (hd x) (hd y) := by
  cases x with
  | nil => cases y with
    | nil => simp [lex, lex0, hd, cmpI_self]
    | cons b y => rfl
  | cons a x => rfl
theorem lex_self : ∀ x, lex x x = 0
  | [] => rfl
  | a :: x => by rw [lex_cc, cmpI_self, if_pos rfl, lex_self x]
theorem lex_three : ∀ (n : Nat) (x y z : List Int), x.length + y.length + z.length ≤ n →
    (lex x y = 0 → lex x z = lex y z) ∧ (lex y z = 0 → lex x y = lex x z) ∧ (lex x y = -1 → lex y z = -1 → lex x z = -1) := by
  intro n
  induction n with
  | zero =>
    intro x y z h
    obtain rfl : x = [] := List.length_eq_zero_iff.1 (by omega)
    obtain rfl : y = [] := List.length_eq_zero_iff.1 (by omega)
    obtain rfl : z = [] := List.length_eq_zero_iff.1 (by omega)
    simp [lex_nn]
  | succ n ih =>
    intro x y z h
    by_cases he : x = [] ∧ y = [] ∧ z = []
    · obtain ⟨rfl, rfl, rfl⟩ := he; simp [lex_nn]
    · have hl : x.tail.length + y.tail.length + z.tail.length ≤ n := by
        simp only [List.length_tail]
        have : x.length ≠ 0 ∨ y.length ≠ 0 ∨ z.length ≠ 0 := by
          by_cases h1 : x.length = 0
          · by_cases h2 : y.length = 0
            · by_cases h3 : z.length = 0
              · exact absurd ⟨List.length_eq_zero_iff.1 h1, List.length_eq_zero_iff.1 h2, List.length_eq_zero_iff.1 h3⟩ he
              · exact .inr (.inr h3)
            · exact .inr (.inl h2)
          · exact .inl h1
        omega
      obtain ⟨i1, i2, i3⟩ := ih x.tail y.tail z.tail hl
      rw [lex_step x y, lex_step y z, lex_step x z]
      generalize hd x = a at *; generalize hd y = b at *; generalize hd z = c at *
      generalize lex x.tail y.tail = p at *; generalize lex y.tail z.tail = q at *; generalize lex x.tail z.tail = r at *
      unfold cmpI
      refine ⟨?_, ?_, ?_⟩ <;> (repeat' split) <;> first | omega | (intros; first | omega | (apply i1; omega) | (apply i2; omega) | (apply i3 <;> omega) | (exfalso; omega))
theorem lex_zero_l {x y : List Int} (z : List Int) (h : lex x y = 0) : lex x z = lex y z := (lex_three _ x y z (Nat.le_refl _)).1 h
theorem lex_zero_r (x : List Int) {y z : List Int} (h : lex y z = 0) : lex x y = lex x z := (lex_three _ x y z (Nat.le_refl _)).2.1 h
theorem lex_app : ∀ (p x y : List Int), lex (p ++ x) (p ++ y) = lex x y
  | [], _, _ => rfl
  | a :: p, x, y => by rw [List.cons_append, List.cons_append, lex_cc, cmpI_self, if_pos rfl, lex_app p x y]
def dg (c : UInt8) : Bool := decide (48 ≤ c.toNat ∧ c.toNat ≤ 57)
def nd (c : UInt8) : Bool := !dg c
def lt (c : UInt8) : Bool := decide (97 ≤ c.toNat ∧ c.toNat ≤ 122 ∨ 65 ≤ c.toNat ∧ c.toNat ≤ 90)
def dv (c : UInt8) : Nat := c.toNat - 48
def wt (c : UInt8) : Int := if c.toNat = 126 then -1 else if lt c then c.toNat else c.toNat + 256
def val (n : Nat) (l : Bs) : Nat := l.foldl (fun a c => 10 * a + dv c) n
theorem val_c (n : Nat) (c : UInt8) (t : Bs) : val n (c :: t) = val (10 * n + dv c) t := by unfold val; rw [List.foldl_cons]
def key : Bs → Option Nat → List Int
  | [], none => []
  | [], some n => [(n : Int)]
  | c :: t, none => if dg c = true then 0 :: key t (some (dv c)) else wt c :: key t none
  | c :: t, some n => if dg c = true then key t (some (10 * n + dv c)) else (n : Int) :: wt c :: key t none
def keyW (t : Bs) : List Int := key t none
def keyN (n : Nat) (t : Bs) : List Int := key t (some n)
theorem keyW_c (c : UInt8) (t : Bs) : keyW (c :: t) = if dg c = true then 0 :: keyN (dv c) t else wt c :: keyW t := rfl
theorem keyN_c (n : Nat) (c : UInt8) (t : Bs) : keyN n (c :: t) = if dg c = true then keyN (10 * n + dv c) t else (n : Int) :: wt c :: keyW t := rfl
def cmpT (a b : Bs) : Int := lex (keyW a) (keyW b)
theorem nd_of {c : UInt8} (h : dg c = false) : nd c = true := by unfold nd; rw [h]; rfl
theorem nd_not {c : UInt8} (h : dg c = true) : ¬ nd c = true := by unfold nd; rw [h]; simp
theorem dg_not {c : UInt8} (h : dg c = false) : ¬ dg c = true := by rw [h]; simp
theorem keyN_split : ∀ (t : Bs) (n : Nat), keyN n t = (val n (t.takeWhile dg) : Int) :: keyW (t.dropWhile dg)
  | [], n => rfl
  | c :: t, n => by
    cases h : dg c
    · rw [keyN_c, if_neg (dg_not h), List.takeWhile_cons_of_neg (dg_not h), List.dropWhile_cons_of_neg (dg_not h), keyW_c, if_neg (dg_not h)]
      rfl
    · rw [keyN_c, if_pos h, List.takeWhile_cons_of_pos h, List.dropWhile_cons_of_pos h, keyN_split t, val_c]
theorem keyW_split : ∀ (t : Bs), lex (keyW t) ((t.takeWhile nd).map wt ++ keyW (t.dropWhile nd)) = 0
  | [] => rfl
  | c :: t => by
    cases h : dg c
    · rw [List.takeWhile_cons_of_pos (nd_of h), List.dropWhile_cons_of_pos (nd_of h), List.map_cons, List.cons_append, keyW_c, if_neg (dg_not h), lex_cc, if_pos (cmpI_self _), keyW_split t]
    · rw [List.takeWhile_cons_of_neg (nd_not h), List.dropWhile_cons_of_neg (nd_not h)]
      exact lex_self _
theorem keyW_digits (t : Bs) (h : t.takeWhile nd = []) : lex (keyW t) (0 :: (val 0 (t.takeWhile dg) : Int) :: keyW (t.dropWhile dg)) = 0 := by
  cases t with
  | nil => decide
  | cons c t =>
    cases hc : dg c
    · rw [List.takeWhile_cons_of_pos (nd_of hc)] at h
      cases h
    · have e : val 0 (c :: List.takeWhile dg t) = val (dv c) (List.takeWhile dg t) := by
        rw [val_c, Nat.mul_zero, Nat.zero_add]
      rw [keyW_c, if_pos hc, keyN_split, List.takeWhile_cons_of_pos hc, List.dropWhile_cons_of_pos hc, e]
      exact lex_self _
theorem wt_nz (c : UInt8) : dg c = false → wt c ≠ 0 := by
  unfold wt
  intro h
  (repeat' split) <;> try omega
  rename_i h1 h2
  unfold lt at h2
  simp at h2
  omega
theorem lex_words : ∀ (x y : Bs) (u v : List Int), (∀ c ∈ x, dg c = false) → (∀ c ∈ y, dg c = false) →
    lex (x.map wt ++ 0 :: u) (y.map wt ++ 0 :: v) = if lex (x.map wt) (y.map wt) = 0 then lex u v else lex (x.map wt) (y.map wt)
  | [], [], u, v, _, _ => by simp [lex_cc, lex_nn, cmpI_self]
  | [], d :: y, u, v, _, hy => by
    have hd := wt_nz d (hy d (by simp))
    have : cmpI 0 (wt d) ≠ 0 := fun h => hd (cmpI_zero.1 h).symm
    simp [lex_cc, lex_nc, this]
  | c :: x, [], u, v, hx, _ => by
    have hc := wt_nz c (hx c (by simp))
    have : cmpI (wt c) 0 ≠ 0 := fun h => hc (cmpI_zero.1 h)
    simp [lex_cc, lex_cn, this]
  | c :: x, d :: y, u, v, hx, hy => by
    simp only [List.map_cons, List.cons_append, lex_cc]
    rw [lex_words x y u v (fun c h => hx c (by simp [h])) (fun c h => hy c (by simp [h]))]
    by_cases h : cmpI (wt c) (wt d) = 0
    · simp [h]
    · simp [h]
theorem cmpT_parts (a b : Bs) : cmpT a b =
    if lex ((a.takeWhile nd).map wt) ((b.takeWhile nd).map wt) = 0 then
      if cmpI (val 0 ((a.dropWhile nd).takeWhile dg)) (val 0 ((b.dropWhile nd).takeWhile dg)) = 0 then
        cmpT ((a.dropWhile nd).dropWhile dg) ((b.dropWhile nd).dropWhile dg)
      else cmpI (val 0 ((a.dropWhile nd).takeWhile dg)) (val 0 ((b.dropWhile nd).takeWhile dg))
    else lex ((a.takeWhile nd).map wt) ((b.takeWhile nd).map wt) := by
  have key : ∀ t : Bs, lex (keyW t) ((t.takeWhile nd).map wt ++ 0 :: (val 0 ((t.dropWhile nd).takeWhile dg) : Int) :: keyW ((t.dropWhile nd).dropWhile dg)) = 0 := by
    intro t
    rw [lex_zero_l _ (keyW_split t), lex_app]
    refine keyW_digits _ ?_
    cases h : t.dropWhile nd with
    | nil => rfl
    | cons c r =>
      have := List.head?_dropWhile_not nd t
      rw [h] at this
      simp at this
      rw [List.takeWhile_cons_of_neg (by rw [this]; simp)]
  have hall : ∀ t : Bs, ∀ c ∈ t.takeWhile nd, dg c = false := by
    intro t c hc
    have := List.all_takeWhile (p := nd) (l := t)
    rw [List.all_eq_true] at this
    have := this c hc
    unfold nd at this
    simpa using this
  unfold cmpT
  rw [lex_zero_l _ (key a), lex_zero_r _ (key b), lex_words _ _ _ _ (hall a) (hall b)]
  rw [lex_cc]
end Go.Proofs.YtohijjobmmibcaaDoor.Pure
