import Derived.Test.YtiidmjmkgjfaeaaGreatDoorWWords
import Derived.Test.YtiidmjmkgjfaeaaGreatDoorPAx8
import Derived.Test.YtiidmjmkgjfaeaaGreatDoorPAx4
import Derived.Lib.ItoaLen
import Derived.Lib.IndexBytes
import Derived.Lib.AtoiAllCases
import Derived.Test.YtiidmjmkgjfaeaaGreatDoorPAx9
import Derived.Test.YtiidmjmkgjfaeaaGreatDoorPAx2
import Derived.Test.YtiidmjmkgjfaeaaGreatDoorPAx5
import Derived.Test.YtiidmjmkgjfaeaaGreatDoorPAx6
namespace Go.Proofs.YtiidmjmkgjfaeaaGreatDoor.Pure
open Go.RowKit Go.Proofs.YtiidmjmkgjfaeaaGreatDoorW.PrintWords
abbrev Bs := List UInt8
def mk (l : Bs) : ByteArray := ⟨l.toArray⟩
theorem mk_data (s : ByteArray) : mk s.data.toList = s := by cases s;simp [mk]
theorem mk_size (l : Bs) : (mk l).size = l.length := by simp [mk,ByteArray.size]
theorem toList_loop (s : ByteArray) : ∀ (n i : Nat) (r : List UInt8),s.size - i = n → ByteArray.toList.loop s i r = r.reverse ++ s.data.toList.drop i := by
 intro n
 induction n with
 | zero =>
  intro i r h
  unfold ByteArray.toList.loop
  rw [if_neg (by omega),List.drop_eq_nil_of_le (by simp;omega)]
  simp
 | succ n ih =>
  intro i r h
  unfold ByteArray.toList.loop
  have hi : i < s.size := by omega
  rw [if_pos hi,ih (i + 1) _ (by omega)]
  have h2 : i < s.data.toList.length := by simpa using hi
  have h3 : i < s.data.size := hi
  rw [List.drop_eq_getElem_cons h2]
  simp [ByteArray.get!]
  exact getElem!_pos s.data i h3
theorem toList_data (s : ByteArray) : s.toList = s.data.toList := by
 unfold ByteArray.toList
 rw [toList_loop s _ 0 [] rfl]
 simp
theorem mk_toList (l : Bs) : (mk l).toList = l := by rw [toList_data];simp [mk]
theorem mk_dataList (l : Bs) : (mk l).data.toList = l := by simp [mk]
theorem mk_app (a b : Bs) : mk a ++ mk b = mk (a ++ b) := by
 have h : (mk a ++ mk b).data = (mk a).data ++ (mk b).data := ByteArray.data_append
 have : (mk a ++ mk b) = ⟨(mk a ++ mk b).data⟩ := rfl
 rw [this,h]
 simp [mk]
theorem mk_ext (l : Bs) (a b : Nat) : (mk l).extract a b = mk ((l.take b).drop a) := by
 have h : ((mk l).extract a b).data = (mk l).data.extract a b := ByteArray.data_extract
 have : (mk l).extract a b = ⟨((mk l).extract a b).data⟩ := rfl
 rw [this,h]
 simp only [mk,List.extract_toArray,List.extract_eq_take_drop]
 rw [List.drop_take]
theorem mk_ext_to (l : Bs) (a : Nat) : (mk l).extract a l.length = mk (l.drop a) := by rw [mk_ext,List.take_length]
theorem mk_ext_from (l : Bs) (b : Nat) : (mk l).extract 0 b = mk (l.take b) := by rw [mk_ext,List.drop_zero]
theorem mk_bt (l : Bs) (i : Nat) : bt (mk l) (i : Int) = ((l.getD i 0).toNat : Int) := by
 unfold bt
 split
 ·rename_i h
  have h2 : i < l.length := by rw [mk_size] at h;simpa using h
  rw [List.getD_eq_getElem?_getD,List.getElem?_eq_getElem h2]
  simp [mk,ByteArray.getElem_eq_getElem_data]
 ·rename_i h
  have h2 : ¬ i < l.length := by rw [mk_size] at h;simpa using h
  rw [List.getD_eq_getElem?_getD,List.getElem?_eq_none (by omega)]
  rfl
theorem mk_bt_at (p : Bs) (c : UInt8) (t : Bs) : bt (mk (p ++ c :: t)) (p.length : Int) = (c.toNat : Int) := by rw [mk_bt];simp
theorem mk_bt_0 (c : UInt8) (t : Bs) : bt (mk (c :: t)) 0 = (c.toNat : Int) := mk_bt_at [] c t
section
variable {α β : Type} {c : Prop} [Decidable c] {g f : Nat → Option α} {r : α}
theorem Ev.pos (h : c) (hg : Ev g r) : Ev (fun k => if c then g k else f k) r := Ev.congr (fun _ => if_pos h) hg
theorem Ev.neg (h : ¬ c) (hf : Ev f r) : Ev (fun k => if c then g k else f k) r := Ev.congr (fun _ => if_neg h) hf
theorem Ev.some_ (r : α) : Ev (fun _ => some r) r := Ev.now r
theorem Ev.eq_ {r' : α} (h : r' = r) : Ev (fun _ => some r') r := h ▸ Ev.now r'
theorem Ev.bindc {x : Option β} {a : β} {f : Nat → β → Option α} (h : x = some a) (k : Ev (fun n => f n a) r) : Ev (fun n => x.bind (f n)) r := Ev.congr (fun n => by rw [h];rfl) k
theorem Ev.shift (h : Ev (fun k => g (k + 1)) r) : Ev g r := by
 obtain ⟨K,hK⟩ := h
 exact ⟨K + 1,fun k hk => by obtain ⟨j,rfl⟩ : ∃ j,k = j + 1 := ⟨k - 1,by omega⟩;exact hK j (by omega)⟩
theorem Ev.const_ {x : Option α} (h : x = some r) : Ev (fun _ => x) r := ⟨0,fun _ _ => h⟩
end
theorem wrap_succ (n : Nat) (h : n + 1 < 9223372036854775808) : wrap64 ((n : Int) + 1) = ((n + 1 : Nat) : Int) := by unfold wrap64;omega
theorem wrap_in (i : Int) (h0 : -9223372036854775808 ≤ i) (h1 : i < 9223372036854775808) : wrap64 i = i := by unfold wrap64;omega
theorem byte_all {P : UInt8 → Prop} (h : ∀ n,n < 256 → P (UInt8.ofNat n)) (c : UInt8) : P c := by
 have := h c.toNat c.toNat_lt
 rwa [UInt8.ofNat_toNat] at this
end Go.Proofs.YtiidmjmkgjfaeaaGreatDoor.Pure

namespace Go.Proofs.YtiidmjmkgjfaeaaGreatDoor.Pure
def cmpI (a b : Int) : Int := if a < b then -1 else if b < a then 1 else 0
theorem cmpI_self (a : Int) : cmpI a a = 0 := by unfold cmpI;split <;> omega
theorem cmpI_zero {a b : Int} : cmpI a b = 0 ↔ a = b := by unfold cmpI;(repeat' split) <;> omega
theorem cmpI_neg {a b : Int} : cmpI a b = -1 ↔ a < b := by unfold cmpI;(repeat' split) <;> omega
theorem cmpI_pos {a b : Int} : cmpI a b = 1 ↔ b < a := by unfold cmpI;(repeat' split) <;> omega
def hd : List Int → Int
 | [] => 0
 | a :: _ => a
def lex0 : List Int → Int
 | [] => 0
 | b :: y => if cmpI 0 b = 0 then lex0 y else cmpI 0 b
def lex : List Int → List Int → Int
 | [],y => lex0 y
 | a :: x,y => if cmpI a (hd y) = 0 then lex x y.tail else cmpI a (hd y)
theorem lex_nn : lex [] [] = 0 := rfl
theorem lex_nc (b : Int) (y : List Int) : lex [] (b :: y) = if cmpI 0 b = 0 then lex [] y else cmpI 0 b := rfl
theorem lex_cn (a : Int) (x : List Int) : lex (a :: x) [] = if cmpI a 0 = 0 then lex x [] else cmpI a 0 := rfl
theorem lex_cc (a b : Int) (x y : List Int) : lex (a :: x) (b :: y) = if cmpI a b = 0 then lex x y else cmpI a b := rfl
theorem lex_step (x y : List Int) : lex x y = if cmpI (hd x) (hd y) = 0 then lex x.tail y.tail else cmpI (hd x) (hd y) := by
 cases x with
 | nil => cases y with
  | nil => simp [lex,lex0,hd,cmpI_self]
  | cons b y => rfl
 | cons a x => rfl
theorem lex_self : ∀ x,lex x x = 0
 | [] => rfl
 | a :: x => by rw [lex_cc,cmpI_self,if_pos rfl,lex_self x]
theorem lex_three : ∀ (n : Nat) (x y z : List Int),x.length + y.length + z.length ≤ n →
  (lex x y = 0 → lex x z = lex y z) ∧ (lex y z = 0 → lex x y = lex x z) ∧ (lex x y = -1 → lex y z = -1 → lex x z = -1) := by
 intro n
 induction n with
 | zero =>
  intro x y z h
  obtain rfl : x = [] := List.length_eq_zero_iff.1 (by omega)
  obtain rfl : y = [] := List.length_eq_zero_iff.1 (by omega)
  obtain rfl : z = [] := List.length_eq_zero_iff.1 (by omega)
  simp [lex_nn]
 | succ n ih =>
  intro x y z h
  by_cases he : x = [] ∧ y = [] ∧ z = []
  ·obtain ⟨rfl,rfl,rfl⟩ := he;simp [lex_nn]
  ·have hl : x.tail.length + y.tail.length + z.tail.length ≤ n := by
    simp only [List.length_tail]
    have : x.length ≠ 0 ∨ y.length ≠ 0 ∨ z.length ≠ 0 := by
     by_cases h1 : x.length = 0
     ·by_cases h2 : y.length = 0
      ·by_cases h3 : z.length = 0
       ·exact absurd ⟨List.length_eq_zero_iff.1 h1,List.length_eq_zero_iff.1 h2,List.length_eq_zero_iff.1 h3⟩ he
       ·exact .inr (.inr h3)
      ·exact .inr (.inl h2)
     ·exact .inl h1
    omega
   obtain ⟨i1,i2,i3⟩ := ih x.tail y.tail z.tail hl
   rw [lex_step x y,lex_step y z,lex_step x z]
   generalize hd x = a at *;generalize hd y = b at *;generalize hd z = c at *
   generalize lex x.tail y.tail = p at *;generalize lex y.tail z.tail = q at *;generalize lex x.tail z.tail = r at *
   unfold cmpI
   refine ⟨?_,?_,?_⟩ <;> (repeat' split) <;> first | omega | (intros;first | omega | (apply i1;omega) | (apply i2;omega) | (apply i3 <;> omega) | (exfalso;omega))
theorem lex_zero_l {x y : List Int} (z : List Int) (h : lex x y = 0) : lex x z = lex y z := (lex_three _ x y z (Nat.le_refl _)).1 h
theorem lex_zero_r (x : List Int) {y z : List Int} (h : lex y z = 0) : lex x y = lex x z := (lex_three _ x y z (Nat.le_refl _)).2.1 h
theorem lex_app : ∀ (p x y : List Int),lex (p ++ x) (p ++ y) = lex x y
 | [],_,_ => rfl
 | a :: p,x,y => by rw [List.cons_append,List.cons_append,lex_cc,cmpI_self,if_pos rfl,lex_app p x y]
def dg (c : UInt8) : Bool := decide (48 ≤ c.toNat ∧ c.toNat ≤ 57)
def nd (c : UInt8) : Bool := !dg c
def lt (c : UInt8) : Bool := decide (97 ≤ c.toNat ∧ c.toNat ≤ 122 ∨ 65 ≤ c.toNat ∧ c.toNat ≤ 90)
def dv (c : UInt8) : Nat := c.toNat - 48
def wt (c : UInt8) : Int := if c.toNat = 126 then -1 else if lt c then c.toNat else c.toNat + 256
def val (n : Nat) (l : Bs) : Nat := l.foldl (fun a c => 10 * a + dv c) n
theorem val_c (n : Nat) (c : UInt8) (t : Bs) : val n (c :: t) = val (10 * n + dv c) t := by unfold val;rw [List.foldl_cons]
def key : Bs → Option Nat → List Int
 | [],none => []
 | [],some n => [(n : Int)]
 | c :: t,none => if dg c = true then 0 :: key t (some (dv c)) else wt c :: key t none
 | c :: t,some n => if dg c = true then key t (some (10 * n + dv c)) else (n : Int) :: wt c :: key t none
def keyW (t : Bs) : List Int := key t none
def keyN (n : Nat) (t : Bs) : List Int := key t (some n)
theorem keyW_c (c : UInt8) (t : Bs) : keyW (c :: t) = if dg c = true then 0 :: keyN (dv c) t else wt c :: keyW t := rfl
theorem keyN_c (n : Nat) (c : UInt8) (t : Bs) : keyN n (c :: t) = if dg c = true then keyN (10 * n + dv c) t else (n : Int) :: wt c :: keyW t := rfl
def cmpT (a b : Bs) : Int := lex (keyW a) (keyW b)
theorem nd_of {c : UInt8} (h : dg c = false) : nd c = true := by unfold nd;rw [h];rfl
theorem nd_not {c : UInt8} (h : dg c = true) : ¬ nd c = true := by unfold nd;rw [h];simp
theorem dg_not {c : UInt8} (h : dg c = false) : ¬ dg c = true := by rw [h];simp
theorem keyN_split : ∀ (t : Bs) (n : Nat),keyN n t = (val n (t.takeWhile dg) : Int) :: keyW (t.dropWhile dg)
 | [],n => rfl
 | c :: t,n => by
  cases h : dg c
  ·rw [keyN_c,if_neg (dg_not h),List.takeWhile_cons_of_neg (dg_not h),List.dropWhile_cons_of_neg (dg_not h),keyW_c,if_neg (dg_not h)]
   rfl
  ·rw [keyN_c,if_pos h,List.takeWhile_cons_of_pos h,List.dropWhile_cons_of_pos h,keyN_split t,val_c]
theorem keyW_split : ∀ (t : Bs),lex (keyW t) ((t.takeWhile nd).map wt ++ keyW (t.dropWhile nd)) = 0
 | [] => rfl
 | c :: t => by
  cases h : dg c
  ·rw [List.takeWhile_cons_of_pos (nd_of h),List.dropWhile_cons_of_pos (nd_of h),List.map_cons,List.cons_append,keyW_c,if_neg (dg_not h),lex_cc,if_pos (cmpI_self _),keyW_split t]
  ·rw [List.takeWhile_cons_of_neg (nd_not h),List.dropWhile_cons_of_neg (nd_not h)]
   exact lex_self _
theorem keyW_digits (t : Bs) (h : t.takeWhile nd = []) : lex (keyW t) (0 :: (val 0 (t.takeWhile dg) : Int) :: keyW (t.dropWhile dg)) = 0 := by
 cases t with
 | nil => decide
 | cons c t =>
  cases hc : dg c
  ·rw [List.takeWhile_cons_of_pos (nd_of hc)] at h
   cases h
  ·have e : val 0 (c :: List.takeWhile dg t) = val (dv c) (List.takeWhile dg t) := by
    rw [val_c,Nat.mul_zero,Nat.zero_add]
   rw [keyW_c,if_pos hc,keyN_split,List.takeWhile_cons_of_pos hc,List.dropWhile_cons_of_pos hc,e]
   exact lex_self _
theorem wt_nz (c : UInt8) : dg c = false → wt c ≠ 0 := by
 unfold wt
 intro h
 (repeat' split) <;> try omega
 rename_i h1 h2
 unfold lt at h2
 simp at h2
 omega
theorem lex_words : ∀ (x y : Bs) (u v : List Int),(∀ c ∈ x,dg c = false) → (∀ c ∈ y,dg c = false) →
  lex (x.map wt ++ 0 :: u) (y.map wt ++ 0 :: v) = if lex (x.map wt) (y.map wt) = 0 then lex u v else lex (x.map wt) (y.map wt)
 | [],[],u,v,_,_ => by simp [lex_cc,lex_nn,cmpI_self]
 | [],d :: y,u,v,_,hy => by
  have hd := wt_nz d (hy d (by simp))
  have : cmpI 0 (wt d) ≠ 0 := fun h => hd (cmpI_zero.1 h).symm
  simp [lex_cc,lex_nc,this]
 | c :: x,[],u,v,hx,_ => by
  have hc := wt_nz c (hx c (by simp))
  have : cmpI (wt c) 0 ≠ 0 := fun h => hc (cmpI_zero.1 h)
  simp [lex_cc,lex_cn,this]
 | c :: x,d :: y,u,v,hx,hy => by
  simp only [List.map_cons,List.cons_append,lex_cc]
  rw [lex_words x y u v (fun c h => hx c (by simp [h])) (fun c h => hy c (by simp [h]))]
  by_cases h : cmpI (wt c) (wt d) = 0
  ·simp [h]
  ·simp [h]
theorem cmpT_parts (a b : Bs) : cmpT a b =
  if lex ((a.takeWhile nd).map wt) ((b.takeWhile nd).map wt) = 0 then
   if cmpI (val 0 ((a.dropWhile nd).takeWhile dg)) (val 0 ((b.dropWhile nd).takeWhile dg)) = 0 then
    cmpT ((a.dropWhile nd).dropWhile dg) ((b.dropWhile nd).dropWhile dg)
   else cmpI (val 0 ((a.dropWhile nd).takeWhile dg)) (val 0 ((b.dropWhile nd).takeWhile dg))
  else lex ((a.takeWhile nd).map wt) ((b.takeWhile nd).map wt) := by
 have key : ∀ t : Bs,lex (keyW t) ((t.takeWhile nd).map wt ++ 0 :: (val 0 ((t.dropWhile nd).takeWhile dg) : Int) :: keyW ((t.dropWhile nd).dropWhile dg)) = 0 := by
  intro t
  rw [lex_zero_l _ (keyW_split t),lex_app]
  refine keyW_digits _ ?_
  cases h : t.dropWhile nd with
  | nil => rfl
  | cons c r =>
   have := List.head?_dropWhile_not nd t
   rw [h] at this
   simp at this
   rw [List.takeWhile_cons_of_neg (by rw [this];simp)]
 have hall : ∀ t : Bs,∀ c ∈ t.takeWhile nd,dg c = false := by
  intro t c hc
  have := List.all_takeWhile (p := nd) (l := t)
  rw [List.all_eq_true] at this
  have := this c hc
  unfold nd at this
  simpa using this
 unfold cmpT
 rw [lex_zero_l _ (key a),lex_zero_r _ (key b),lex_words _ _ _ _ (hall a) (hall b)]
 rw [lex_cc]
end Go.Proofs.YtiidmjmkgjfaeaaGreatDoor.Pure

namespace Go.Proofs.YtiidmjmkgjfaeaaGreatDoor.Pure
open Go.RowKit Go.Proofs.YtiidmjmkgjfaeaaGreatDoor.PA Go.Proofs.YtiidmjmkgjfaeaaGreatDoorW.PrintWords Go.Proofs.YtiidmjmkgjfaeaaGreatDoorW.PrintLast Go.Proofs.YtiidmjmkgjfaeaaGreatDoorW.PrintMore
theorem digit_f (c : UInt8) : version_digit.f (c.toNat : Int) = some (dg c) := by
 unfold version_digit.f dg
 by_cases h : (c.toNat : Int) ≥ 48
 ·rw [if_pos h]
  congr 1
  rw [decide_eq_decide]
  omega
 ·rw [if_neg h]
  congr 1
  symm
  rw [decide_eq_false_iff_not]
  omega
theorem other_f (c : UInt8) : version_CompareText_1.f (c.toNat : Int) = some (nd c) := by
 unfold version_CompareText_1.f
 rw [digit_f]
 rfl
theorem part20 : ∀ (t p : Bs),p.length + t.length < 4611686018427387904 → Ev (fun k => version_part_159.l0 k (mk (p ++ t)) (p.length : Int)) (mk (p ++ t.takeWhile nd),mk (t.dropWhile nd)) := by
 intro t
 induction t with
 | nil =>
  intro p h
  refine Ev.shift ?_
  simp only [version_part_159.l0,mk_size,List.append_nil]
  refine Ev.neg (by omega) (Ev.pos (by omega) (Ev.pos (by omega) (Ev.eq_ ?_)))
  rw [Int.toNat_natCast,mk_ext_from,mk_ext_to,List.take_length,List.drop_length]
  simp
 | cons c t ih =>
  intro p h
  refine Ev.shift ?_
  simp only [List.length_cons] at h
  simp only [version_part_159.l0,mk_size,List.length_append,List.length_cons]
  refine Ev.pos (by omega) (Ev.pos (by omega) (Ev.bindc (by rw [mk_bt_at];exact other_f c) ?_))
  cases hc : nd c
  ·refine Ev.neg (by simp) (Ev.pos (by omega) (Ev.eq_ ?_))
   rw [Int.toNat_natCast,mk_ext_from,List.takeWhile_cons_of_neg (by simp [hc]),List.dropWhile_cons_of_neg (by simp [hc])]
   rw [show p.length + (t.length + 1) = (p ++ c :: t).length by simp,mk_ext_to]
   simp
  ·refine Ev.pos rfl ?_
   rw [wrap_succ _ (by omega),List.takeWhile_cons_of_pos hc,List.dropWhile_cons_of_pos hc]
   have := ih (p ++ [c]) (by simp;omega)
   simpa using this
theorem part21 : ∀ (t p : Bs),p.length + t.length < 4611686018427387904 → Ev (fun k => version_part_156.l0 k (mk (p ++ t)) (p.length : Int)) (mk (p ++ t.takeWhile dg),mk (t.dropWhile dg)) := by
 intro t
 induction t with
 | nil =>
  intro p h
  refine Ev.shift ?_
  simp only [version_part_156.l0,mk_size,List.append_nil]
  refine Ev.neg (by omega) (Ev.pos (by omega) (Ev.pos (by omega) (Ev.eq_ ?_)))
  rw [Int.toNat_natCast,mk_ext_from,mk_ext_to,List.take_length,List.drop_length]
  simp
 | cons c t ih =>
  intro p h
  refine Ev.shift ?_
  simp only [List.length_cons] at h
  simp only [version_part_156.l0,mk_size,List.length_append,List.length_cons]
  refine Ev.pos (by omega) (Ev.pos (by omega) (Ev.bindc (by rw [mk_bt_at];exact digit_f c) ?_))
  cases hc : dg c
  ·refine Ev.neg (by simp) (Ev.pos (by omega) (Ev.eq_ ?_))
   rw [Int.toNat_natCast,mk_ext_from,List.takeWhile_cons_of_neg (by simp [hc]),List.dropWhile_cons_of_neg (by simp [hc])]
   rw [show p.length + (t.length + 1) = (p ++ c :: t).length by simp,mk_ext_to]
   simp
  ·refine Ev.pos rfl ?_
   rw [wrap_succ _ (by omega),List.takeWhile_cons_of_pos hc,List.dropWhile_cons_of_pos hc]
   have := ih (p ++ [c]) (by simp;omega)
   simpa using this
theorem part20_f (t : Bs) (n : Nat) (h : t.length < 4611686018427387904) : Ev (fun k => version_part_159.f k (mk t) n) (mk (t.takeWhile nd),mk (t.dropWhile nd)) := part20 t [] (by simpa using h)
theorem part21_f (t : Bs) (n : Nat) (h : t.length < 4611686018427387904) : Ev (fun k => version_part_156.f k (mk t) n) (mk (t.takeWhile dg),mk (t.dropWhile dg)) := part21 t [] (by simpa using h)
def wtAt (l : Bs) (i : Nat) : Int := match l[i]? with | some c => wt c | none => 0
theorem letters_f : ∀ c : UInt8,(0 ≤ Lib.indexByte ((⟨#[48,49,50,51,52,53,54,55,56,57,97,98,99,100,101,102,103,104,105,106,107,108,109,110,111,112,113,114,115,116,117,118,119,120,121,122,65,66,67,68,69,70,71,72,73,74,75,76,77,78,79,80,81,82,83,84,85,86,87,88,89,90,46,43,126]⟩ : ByteArray).extract 10 62).data.toList c) ↔ lt c = true :=
 byte_all (by decide +kernel)
theorem toByte (c : UInt8) : ((c.toNat : Int)).toNat.toUInt8 = c := by rw [Int.toNat_natCast];exact UInt8.ofNat_toNat
theorem weight_f (l : Bs) (i : Nat) (h : l.length < 4611686018427387904) : version_weight.f (mk l) (i : Int) = some (wtAt l i) := by
 unfold version_weight.f wtAt
 rw [mk_size]
 by_cases hi : i < l.length
 ·have e : bt (mk l) (i : Int) = (l[i].toNat : Int) := by rw [mk_bt];simp [hi]
  rw [if_neg (by omega),if_pos (by omega),if_pos (by omega),e,List.getElem?_eq_getElem hi]
  have hb := l[i].toNat_lt
  simp only []
  generalize l[i] = c at *
  by_cases h1 : c.toNat = 126
  ·rw [if_pos (by omega)]
   unfold wt;rw [if_pos h1]
  ·rw [if_neg (by omega)]
   unfold wt;rw [if_neg h1,if_pos (by decide),if_pos (by decide)]
   unfold strings_IndexByte.f
   rw [toByte]
   simp only [Option.bind_some]
   by_cases h2 : lt c = true
   ·rw [if_pos ((letters_f c).2 h2),if_pos h2]
    rw [wrap_in _ (by omega) (by omega)]
   ·rw [if_neg (fun h => h2 ((letters_f c).1 h)),if_neg h2]
    congr 1
    unfold wrap64
    omega
 ·rw [if_pos (by omega),List.getElem?_eq_none (by omega)]
theorem cmpInt_f (a b : Int) : cmp_Compare_int.f a b = some (cmpI a b) := by
 unfold cmp_Compare_int.f cmp_isNaN_int.f cmpI
 simp only [bne_self_eq_false,Option.bind_some,Bool.false_eq_true,if_false,gt_iff_lt]
 (repeat' split) <;> rfl
def orI : List Int → Int
 | [] => 0
 | a :: l => if a = 0 then orI l else a
theorem or_l0 : ∀ (t p : List Int),p.length + t.length < 4611686018427387904 → Ev (fun k => cmp_Or_int.l0 k 0 (p ++ t) ((p ++ t).length : Int) (p.length : Int)) (orI t) := by
 intro t
 induction t with
 | nil =>
  intro p h
  refine Ev.shift ?_
  simp only [cmp_Or_int.l0,List.append_nil]
  exact Ev.neg (by omega) (Ev.some_ _)
 | cons a t ih =>
  intro p h
  refine Ev.shift ?_
  simp only [List.length_cons] at h
  have e : rd (p ++ a :: t) (p.length : Int) = a := by simp [rd]
  simp only [cmp_Or_int.l0,List.length_append,List.length_cons,e]
  refine Ev.pos (by omega) (Ev.pos (by omega) (Ev.pos (by omega) ?_))
  by_cases ha : a = 0
  ·refine Ev.pos ha ?_
   rw [wrap_succ _ (by omega)]
   have := ih (p ++ [a]) (by simp;omega)
   simpa [orI,ha,Nat.add_assoc,Nat.add_comm 1] using this
  ·refine Ev.neg ha (Ev.eq_ ?_)
   simp [orI,ha]
theorem or_f (l : List Int) (h : l.length < 4611686018427387904) : Ev (fun k => cmp_Or_int.f k l) (orI l) := by
 have := or_l0 l [] (by simpa using h)
 simpa [cmp_Or_int.f] using this
theorem hd_wt (u : Bs) (i : Nat) : hd ((u.drop i).map wt) = wtAt u i := by
 unfold wtAt
 by_cases h : i < u.length
 ·rw [List.drop_eq_getElem_cons h,List.getElem?_eq_getElem h];rfl
 ·rw [List.drop_eq_nil_of_le (by omega),List.getElem?_eq_none (by omega)];rfl
theorem tail_wt (u : Bs) (i : Nat) : ((u.drop i).map wt).tail = (u.drop (i + 1)).map wt := by
 rw [← List.map_tail,List.tail_drop]
theorem words_l0 (u v : Bs) (n : Nat) (hu : u.length ≤ n) (hv : v.length ≤ n) (hn : n < 4611686018427387904) : ∀ (d i : Nat),n - i = d → i ≤ n →
  Ev (fun k => version_words.l0 k (mk u) (mk v) (n : Int) (i : Int)) (lex ((u.drop i).map wt) ((v.drop i).map wt)) := by
 intro d
 induction d with
 | zero =>
  intro i h hi
  refine Ev.shift ?_
  simp only [version_words.l0]
  refine Ev.neg (by omega) (Ev.eq_ ?_)
  rw [List.drop_eq_nil_of_le (by omega),List.drop_eq_nil_of_le (by omega)]
  rfl
 | succ d ih =>
  intro i h hi
  refine Ev.shift ?_
  simp only [version_words.l0]
  refine Ev.pos (by omega) (Ev.bindc (weight_f u i (by omega)) (Ev.bindc (weight_f v i (by omega)) (Ev.bindc (cmpInt_f _ _) ?_)))
  rw [lex_step,hd_wt,hd_wt,tail_wt,tail_wt]
  by_cases hc : cmpI (wtAt u i) (wtAt v i) = 0
  ·refine Ev.pos hc ?_
   rw [wrap_succ _ (by omega),if_pos hc]
   exact ih (i + 1) (by omega) (by omega)
  ·refine Ev.neg hc (Ev.eq_ ?_)
   rw [if_neg hc]
theorem mx_nat (a b : Nat) : mx (a : Int) (b : Int) = ((max a b : Nat) : Int) := by unfold mx;split <;> omega
theorem words_f (u v : Bs) (hu : u.length < 4611686018427387904) (hv : v.length < 4611686018427387904) : Ev (fun k => version_words.f k (mk u) (mk v)) (lex (u.map wt) (v.map wt)) := by
 have := words_l0 u v (max u.length v.length) (by omega) (by omega) (by omega) _ 0 rfl (by omega)
 simp only [version_words.f,mk_size,mx_nat]
 simpa using this
def sgS (a b : Bs) : Int := if Op.bytesLess a b = true then -1 else if Op.bytesLess b a = true then 1 else 0
theorem cmpStr_f (a b : Bs) : cmp_Compare_string.f (mk a) (mk b) = some (sgS a b) := by
 unfold cmp_Compare_string.f cmp_isNaN_string.f sgS
 simp only [bne_self_eq_false,Option.bind_some,Bool.false_eq_true,if_false,mk_toList]
 (repeat' split) <;> rfl
theorem trim0_f (l : Bs) : strings_TrimLeft.f (mk l) (⟨#[48]⟩ : ByteArray) = some (mk (l.dropWhile (· == 48))) := by
 unfold strings_TrimLeft.f Lib.trimLeftB
 simp only [mk_dataList]
 rfl
theorem val_add : ∀ (l : Bs) (n : Nat),val n l = n * 10 ^ l.length + val 0 l
 | [],n => by show n = n * 10 ^ 0 + 0;rw [Nat.pow_zero,Nat.mul_one,Nat.add_zero]
 | c :: l,n => by
  rw [val_c,val_c,List.length_cons,Nat.pow_succ]
  rw [val_add l (10 * n + dv c),val_add l (10 * 0 + dv c)]
  rw [Nat.add_mul,Nat.mul_zero,Nat.zero_add,Nat.mul_comm 10 n,Nat.mul_assoc,Nat.mul_comm 10 (10 ^ l.length)]
  omega
theorem dv_lt {c : UInt8} (h : dg c = true) : dv c ≤ 9 := by unfold dg at h;unfold dv;simp at h;omega
theorem val_lt : ∀ (l : Bs),(∀ c ∈ l,dg c = true) → val 0 l < 10 ^ l.length
 | [],_ => by show 0 < 10 ^ 0;rw [Nat.pow_zero];omega
 | c :: l,h => by
  have h1 := val_lt l (fun d hd => h d (by simp [hd]))
  have h2 := dv_lt (h c (by simp))
  rw [val_c,List.length_cons,Nat.pow_succ]
  rw [val_add,Nat.mul_zero,Nat.zero_add]
  generalize 10 ^ l.length = e at *
  have : dv c * e ≤ 9 * e := Nat.mul_le_mul_right _ h2
  omega
theorem val_ge (c : UInt8) (l : Bs) (h : dg c = true) (h0 : c ≠ 48) : 10 ^ l.length ≤ val 0 (c :: l) := by
 rw [val_c,val_add]
 have : 1 ≤ dv c := by
  unfold dg at h;unfold dv;simp at h
  have : c.toNat ≠ 48 := fun e => h0 (UInt8.toNat_inj.1 e)
  omega
 have := Nat.mul_le_mul_right (10 ^ l.length) this
 simp only [Nat.mul_zero,Nat.zero_add,Nat.one_mul] at *
 omega
theorem val_zeros : ∀ (l : Bs),val 0 (l.dropWhile (· == 48)) = val 0 l
 | [] => rfl
 | c :: l => by
  by_cases h : c = 48
  ·subst h
   rw [List.dropWhile_cons_of_pos (by simp),val_zeros l]
   rfl
  ·rw [List.dropWhile_cons_of_neg (by simpa using h)]
theorem less_val : ∀ (x y : Bs),x.length = y.length → (∀ c ∈ x,dg c = true) → (∀ c ∈ y,dg c = true) → (Op.bytesLess x y = true ↔ val 0 x < val 0 y)
 | [],[],_,_,_ => ⟨fun h => (by cases h),fun h => absurd h (Nat.lt_irrefl _)⟩
 | [],_ :: _,h,_,_ => by simp at h
 | _ :: _,[],h,_,_ => by simp at h
 | a :: x,b :: y,h,hx,hy => by
  have hl : x.length = y.length := by simpa using h
  have ih := less_val x y hl (fun c hc => hx c (by simp [hc])) (fun c hc => hy c (by simp [hc]))
  have h1 := val_lt x (fun c hc => hx c (by simp [hc]))
  have h2 := val_lt y (fun c hc => hy c (by simp [hc]))
  have ha := hx a (by simp);have hb := hy b (by simp)
  rw [val_c,val_c,val_add x,val_add y,← hl]
  simp only [Op.bytesLess,Nat.mul_zero,Nat.zero_add]
  rw [← hl] at h2
  generalize 10 ^ x.length = e at *
  unfold dg at ha hb
  simp at ha hb
  have ea : a.toNat = dv a + 48 := by unfold dv;omega
  have eb : b.toNat = dv b + 48 := by unfold dv;omega
  simp only [Bool.or_eq_true,Bool.and_eq_true,decide_eq_true_eq,beq_iff_eq,UInt8.lt_iff_toNat_lt,← UInt8.toNat_inj,ih,ea,eb]
  generalize dv a = p at *;generalize dv b = q at *
  constructor
  ·rintro (h | ⟨h,k⟩)
   ·have : (p + 1) * e ≤ q * e := Nat.mul_le_mul_right _ (by omega)
    rw [Nat.add_mul] at this;omega
   ·have : p = q := by omega
    subst this;omega
  ·intro k
   by_cases hpq : p < q
   ·exact .inl (by omega)
   ·by_cases hqp : q < p
    ·have : (q + 1) * e ≤ p * e := Nat.mul_le_mul_right _ (by omega)
     rw [Nat.add_mul] at this;omega
    ·have : p = q := by omega
     subst this
     exact .inr ⟨rfl,by omega⟩
theorem nums (x y : Bs) (hx : ∀ c ∈ x,dg c = true) (hy : ∀ c ∈ y,dg c = true) :
  orI [cmpI ((x.dropWhile (· == 48)).length : Int) ((y.dropWhile (· == 48)).length : Int),sgS (x.dropWhile (· == 48)) (y.dropWhile (· == 48))] = cmpI (val 0 x) (val 0 y) := by
 rw [← val_zeros x,← val_zeros y]
 have hx' : ∀ c ∈ x.dropWhile (· == 48),dg c = true := fun c hc => hx c ((List.dropWhile_suffix _).subset hc)
 have hy' : ∀ c ∈ y.dropWhile (· == 48),dg c = true := fun c hc => hy c ((List.dropWhile_suffix _).subset hc)
 have hx0 := List.head?_dropWhile_not (· == (48 : UInt8)) x
 have hy0 := List.head?_dropWhile_not (· == (48 : UInt8)) y
 generalize x.dropWhile (· == 48) = x at *
 generalize y.dropWhile (· == 48) = y at *
 have hx1 : ∀ d r,x = d :: r → d ≠ 48 := by rintro d r rfl;simpa using hx0
 have hy1 : ∀ d r,y = d :: r → d ≠ 48 := by rintro d r rfl;simpa using hy0
 clear hx0 hy0
 have lt : ∀ (x y : Bs),(∀ c ∈ x,dg c = true) → (∀ c ∈ y,dg c = true) → (∀ d r,y = d :: r → d ≠ 48) → x.length < y.length → val 0 x < val 0 y := by
  intro x y hx hy h0 hl
  cases y with
  | nil => simp at hl
  | cons d r =>
   have h1 := val_lt x hx
   have h2 := val_ge d r (hy d (by simp)) (h0 d r rfl)
   have h3 : 10 ^ x.length ≤ 10 ^ r.length := Nat.pow_le_pow_right (by omega) (by simp at hl;omega)
   omega
 simp only [orI]
 rcases Nat.lt_trichotomy x.length y.length with h | h | h
 ·have := lt x y hx' hy' hy1 h
  rw [cmpI_neg.2 (by omega),cmpI_neg.2 (by omega)];rfl
 ·rw [cmpI_zero.2 (by omega),if_pos rfl]
  have a1 := less_val x y h hx' hy'
  have a2 := less_val y x h.symm hy' hx'
  unfold sgS
  by_cases b1 : Op.bytesLess x y = true
  ·rw [if_pos b1,cmpI_neg.2 (by have := a1.1 b1;omega)];rfl
  ·rw [if_neg b1]
   by_cases b2 : Op.bytesLess y x = true
   ·rw [if_pos b2,cmpI_pos.2 (by have := a2.1 b2;omega)];rfl
   ·rw [if_neg b2,if_pos rfl]
    have c1 : ¬ val 0 x < val 0 y := fun h => b1 (a1.2 h)
    have c2 : ¬ val 0 y < val 0 x := fun h => b2 (a2.2 h)
    rw [cmpI_zero.2 (by omega)]
 ·have := lt y x hy' hx' hx1 h
  rw [cmpI_pos.2 (by omega),cmpI_pos.2 (by omega)];rfl
theorem all_dg (t : Bs) : ∀ c ∈ t.takeWhile dg,dg c = true := by
 intro c hc
 have := List.all_takeWhile (p := dg) (l := t)
 rw [List.all_eq_true] at this
 exact this c hc
theorem numbers_f (x y : Bs) (hx : ∀ c ∈ x,dg c = true) (hy : ∀ c ∈ y,dg c = true) : Ev (fun k => version_numbers.f k (mk x) (mk y)) (cmpI (val 0 x) (val 0 y)) := by
 simp only [version_numbers.f]
 refine Ev.bindc (trim0_f x) (Ev.bindc (trim0_f y) (Ev.bindc (cmpInt_f _ _) (Ev.bindc (cmpStr_f _ _) (Ev.bind (or_f _ (by simp)) (Ev.eq_ ?_)))))
 rw [mk_size,mk_size,nums x y hx hy]
end Go.Proofs.YtiidmjmkgjfaeaaGreatDoor.Pure

namespace Go.Proofs.YtiidmjmkgjfaeaaGreatDoor.Pure
open Go.RowKit Go.Proofs.YtiidmjmkgjfaeaaGreatDoor.PA Go.Proofs.YtiidmjmkgjfaeaaGreatDoorW.PrintWords Go.Proofs.YtiidmjmkgjfaeaaGreatDoorW.PrintLast Go.Proofs.YtiidmjmkgjfaeaaGreatDoorW.PrintMore
theorem drop2_le (p q : UInt8 → Bool) (a : Bs) : ((a.dropWhile p).dropWhile q).length ≤ a.length :=
 Nat.le_trans (List.dropWhile_suffix _).length_le (List.dropWhile_suffix _).length_le
theorem drop2_lt (a : Bs) (h : a ≠ []) : ((a.dropWhile nd).dropWhile dg).length < a.length := by
 cases a with
 | nil => exact absurd rfl h
 | cons c t =>
  cases hc : dg c
  ·rw [List.dropWhile_cons_of_pos (nd_of hc)]
   have := drop2_le nd dg t
   simp only [List.length_cons];omega
  ·rw [List.dropWhile_cons_of_neg (nd_not hc),List.dropWhile_cons_of_pos hc]
   have := (List.dropWhile_suffix (l := t) dg).length_le
   simp only [List.length_cons];omega
theorem text_l0 : ∀ (n : Nat) (a b : Bs),a.length + b.length ≤ n → n < 4611686018427387904 → Ev (fun k => version_CompareText.l0 k (mk a) (mk b) 0) (cmpT a b) := by
 intro n
 induction n with
 | zero =>
  intro a b h _
  obtain rfl : a = [] := List.length_eq_zero_iff.1 (by omega)
  obtain rfl : b = [] := List.length_eq_zero_iff.1 (by omega)
  refine Ev.shift ?_
  simp only [version_CompareText.l0,mk_toList]
  refine Ev.pos trivial (Ev.shift ?_)
  simp only [version_CompareText.j1]
  exact Ev.neg (by simp) (Ev.eq_ rfl)
 | succ n ih =>
  intro a b h hn
  by_cases h0 : a = [] ∧ b = []
  ·obtain ⟨rfl,rfl⟩ := h0
   exact ih [] [] (by simp) (by omega)
  ·have main : Ev (fun k => version_CompareText.j1 k (mk a) (mk b) 0 true) (cmpT a b) := by
    refine Ev.shift ?_
    simp only [version_CompareText.j1]
    refine Ev.pos trivial ?_
    have la : (a.dropWhile nd).length ≤ a.length := (List.dropWhile_suffix _).length_le
    have lb : (b.dropWhile nd).length ≤ b.length := (List.dropWhile_suffix _).length_le
    have ta : (a.takeWhile nd).length ≤ a.length := (List.takeWhile_prefix _).length_le
    have tb : (b.takeWhile nd).length ≤ b.length := (List.takeWhile_prefix _).length_le
    refine Ev.bind (part20_f a 0 (by omega)) (Ev.bind (part20_f b 0 (by omega)) (Ev.bind (part21_f _ 0 (by omega)) (Ev.bind (part21_f _ 0 (by omega)) (Ev.bind (words_f _ _ (by omega) (by omega)) (Ev.bind (numbers_f _ _ (all_dg _) (all_dg _)) (Ev.bind (or_f _ (by simp)) ?_))))))
    rw [cmpT_parts a b]
    by_cases h1 : lex ((a.takeWhile nd).map wt) ((b.takeWhile nd).map wt) = 0
    ·rw [if_pos h1]
     by_cases h2 : cmpI (val 0 ((a.dropWhile nd).takeWhile dg)) (val 0 ((b.dropWhile nd).takeWhile dg)) = 0
     ·have ho : orI [lex ((a.takeWhile nd).map wt) ((b.takeWhile nd).map wt),cmpI (val 0 ((a.dropWhile nd).takeWhile dg)) (val 0 ((b.dropWhile nd).takeWhile dg))] = 0 := by
       simp only [orI];rw [if_pos h1,if_pos h2]
      rw [if_pos h2]
      refine Ev.pos ho (ih _ _ ?_ (by omega))
      have d1 := drop2_le nd dg a
      have d2 := drop2_le nd dg b
      by_cases ha : a = []
      ·have := drop2_lt b (fun hb => h0 ⟨ha,hb⟩);omega
      ·have := drop2_lt a ha;omega
     ·have ho : orI [lex ((a.takeWhile nd).map wt) ((b.takeWhile nd).map wt),cmpI (val 0 ((a.dropWhile nd).takeWhile dg)) (val 0 ((b.dropWhile nd).takeWhile dg))] = cmpI (val 0 ((a.dropWhile nd).takeWhile dg)) (val 0 ((b.dropWhile nd).takeWhile dg)) := by
       simp only [orI];rw [if_pos h1,if_neg h2]
      rw [if_neg h2]
      exact Ev.neg (by rw [ho];exact h2) (Ev.eq_ ho)
    ·have ho : orI [lex ((a.takeWhile nd).map wt) ((b.takeWhile nd).map wt),cmpI (val 0 ((a.dropWhile nd).takeWhile dg)) (val 0 ((b.dropWhile nd).takeWhile dg))] = lex ((a.takeWhile nd).map wt) ((b.takeWhile nd).map wt) := by
      simp only [orI];rw [if_neg h1]
     rw [if_neg h1]
     exact Ev.neg (by rw [ho];exact h1) (Ev.eq_ ho)
   refine Ev.shift ?_
   simp only [version_CompareText.l0,mk_toList]
   by_cases ha : a = []
   ·refine Ev.pos ha ?_
    have hb : (b != ([] : Bs)) = true := by rw [bne_iff_ne];exact fun hb => h0 ⟨ha,hb⟩
    rw [hb]
    exact main
   ·exact Ev.neg ha main
theorem CompareText_f (a b : Bs) (ha : a.length < 2000000000000000000) (hb : b.length < 2000000000000000000) : Ev (fun k => version_CompareText.f k (mk a) (mk b)) (cmpT a b) :=
 text_l0 _ a b (Nat.le_refl _) (by omega)
def okR (c : UInt8) : Bool := dg c || lt c || decide (c = 46 ∨ c = 43 ∨ c = 126)
def okU (c : UInt8) : Bool := okR c || decide (c = 45 ∨ c = 58)
def textV (e : Int) (u r : Bs) : Bs := (if e = 0 then [] else Lib.itoa e ++ [58]) ++ (u ++ (if r = [] then [] else 45 :: r))
def fstDg (u : Bs) : Bool := match u with | [] => false | c :: _ => dg c
def rightV (e : Int) (u r : Bs) : Bool :=
 decide (0 ≤ e) && decide (e ≤ 999999999) && fstDg u && !(decide (45 ∈ u) && decide (r = [])) && !(decide (58 ∈ u) && decide (e = 0)) && u.all okU && r.all okR && decide ((textV e u r).length ≤ 60)
theorem idx_mem : ∀ (l : Bs) (c : UInt8),0 ≤ Lib.indexByte l c ↔ c ∈ l
 | [],c => by simp [Lib.indexByte]
 | b :: l,c => by
  have ih := idx_mem l c
  have hg := Lib.indexByte_ge l c
  unfold Lib.indexByte
  by_cases h : b = c
  ·subst h;simp
  ·have h' : (b == c) = false := by simpa using h
   rw [h',if_neg (by simp),List.mem_cons]
   by_cases h2 : Lib.indexByte l c = -1
   ·rw [h2,if_pos (by rfl)]
    rw [h2] at ih
    constructor
    ·intro h;omega
    ·rintro (h3 | h3)
     ·exact absurd h3.symm h
     ·have := ih.2 h3;omega
   ·rw [if_neg (by simpa using h2)]
    constructor
    ·intro _;exact .inr (ih.1 (by omega))
    ·intro _;omega
theorem IndexByte_f (l : Bs) (c : UInt8) : strings_IndexByte.f (mk l) (c.toNat : Int) = some (Lib.indexByte l c) := by
 unfold strings_IndexByte.f
 rw [toByte,mk_dataList]
theorem only_l0 (sg : ByteArray) : ∀ (t p : Bs),p.length + t.length < 4611686018427387904 →
  Ev (fun k => version_only.l0 k (mk (p ++ t)) sg ((p.length + t.length : Nat) : Int) (p.length : Int)) (t.all fun c => decide (c ∈ sg.data.toList)) := by
 intro t
 induction t with
 | nil =>
  intro p h
  refine Ev.shift ?_
  simp only [version_only.l0]
  exact Ev.neg (by simp) (Ev.eq_ rfl)
 | cons c t ih =>
  intro p h
  refine Ev.shift ?_
  simp only [version_only.l0,mk_size,mk_bt_at]
  simp only [List.length_cons,List.length_append] at *
  refine Ev.pos (by omega) (Ev.pos (by omega) (Ev.pos (by omega) (Ev.bindc (a := Lib.indexByte sg.data.toList c) (by unfold strings_IndexByte.f;rw [toByte]) ?_)))
  rw [List.all_cons]
  by_cases hc : c ∈ sg.data.toList
  ·have := (idx_mem _ _).2 hc
   refine Ev.neg (by omega) ?_
   rw [wrap_succ _ (by omega),decide_eq_true hc,Bool.true_and]
   have := ih (p ++ [c]) (by simp;omega)
   simpa [Nat.add_assoc,Nat.add_comm 1] using this
  ·have : ¬ 0 ≤ Lib.indexByte sg.data.toList c := fun h => hc ((idx_mem _ _).1 h)
   refine Ev.pos (by omega) (Ev.eq_ ?_)
   rw [decide_eq_false hc,Bool.false_and]
theorem only_f (u : Bs) (sg : ByteArray) (h : u.length < 4611686018427387904) : Ev (fun k => version_only.f k (mk u) sg) (u.all fun c => decide (c ∈ sg.data.toList)) := by
 have := only_l0 sg u [] (by simpa using h)
 simp only [version_only.f,mk_size]
 simpa using this
theorem okU_lit : ∀ c : UInt8,decide (c ∈ (⟨#[48,49,50,51,52,53,54,55,56,57,97,98,99,100,101,102,103,104,105,106,107,108,109,110,111,112,113,114,115,116,117,118,119,120,121,122,65,66,67,68,69,70,71,72,73,74,75,76,77,78,79,80,81,82,83,84,85,86,87,88,89,90,46,43,126,45,58]⟩ : ByteArray).data.toList) = okU c := byte_all (by decide +kernel)
theorem okR_lit : ∀ c : UInt8,decide (c ∈ (⟨#[48,49,50,51,52,53,54,55,56,57,97,98,99,100,101,102,103,104,105,106,107,108,109,110,111,112,113,114,115,116,117,118,119,120,121,122,65,66,67,68,69,70,71,72,73,74,75,76,77,78,79,80,81,82,83,84,85,86,87,88,89,90,46,43,126]⟩ : ByteArray).data.toList) = okR c := byte_all (by decide +kernel)
theorem onlyU_f (u : Bs) (h : u.length < 4611686018427387904) : Ev (fun k => version_only.f k (mk u) (⟨#[48,49,50,51,52,53,54,55,56,57,97,98,99,100,101,102,103,104,105,106,107,108,109,110,111,112,113,114,115,116,117,118,119,120,121,122,65,66,67,68,69,70,71,72,73,74,75,76,77,78,79,80,81,82,83,84,85,86,87,88,89,90,46,43,126,45,58]⟩ : ByteArray)) (u.all okU) := by
 have := only_f u (⟨#[48,49,50,51,52,53,54,55,56,57,97,98,99,100,101,102,103,104,105,106,107,108,109,110,111,112,113,114,115,116,117,118,119,120,121,122,65,66,67,68,69,70,71,72,73,74,75,76,77,78,79,80,81,82,83,84,85,86,87,88,89,90,46,43,126,45,58]⟩ : ByteArray) h
 rw [show (fun c => decide (c ∈ ((⟨#[48,49,50,51,52,53,54,55,56,57,97,98,99,100,101,102,103,104,105,106,107,108,109,110,111,112,113,114,115,116,117,118,119,120,121,122,65,66,67,68,69,70,71,72,73,74,75,76,77,78,79,80,81,82,83,84,85,86,87,88,89,90,46,43,126,45,58]⟩ : ByteArray)).data.toList)) = okU from funext okU_lit] at this
 exact this
theorem onlyR_f (u : Bs) (h : u.length < 4611686018427387904) : Ev (fun k => version_only.f k (mk u) (⟨#[48,49,50,51,52,53,54,55,56,57,97,98,99,100,101,102,103,104,105,106,107,108,109,110,111,112,113,114,115,116,117,118,119,120,121,122,65,66,67,68,69,70,71,72,73,74,75,76,77,78,79,80,81,82,83,84,85,86,87,88,89,90,46,43,126]⟩ : ByteArray)) (u.all okR) := by
 have := only_f u (⟨#[48,49,50,51,52,53,54,55,56,57,97,98,99,100,101,102,103,104,105,106,107,108,109,110,111,112,113,114,115,116,117,118,119,120,121,122,65,66,67,68,69,70,71,72,73,74,75,76,77,78,79,80,81,82,83,84,85,86,87,88,89,90,46,43,126]⟩ : ByteArray) h
 rw [show (fun c => decide (c ∈ ((⟨#[48,49,50,51,52,53,54,55,56,57,97,98,99,100,101,102,103,104,105,106,107,108,109,110,111,112,113,114,115,116,117,118,119,120,121,122,65,66,67,68,69,70,71,72,73,74,75,76,77,78,79,80,81,82,83,84,85,86,87,88,89,90,46,43,126]⟩ : ByteArray)).data.toList)) = okR from funext okR_lit] at this
 exact this
theorem lit45 : (⟨#[45]⟩ : ByteArray) = mk [45] := rfl
theorem lit58 : (⟨#[58]⟩ : ByteArray) = mk [58] := rfl
theorem lit0 : (⟨#[]⟩ : ByteArray) = mk [] := rfl
theorem Itoa_f (e : Int) (h0 : -9223372036854775808 ≤ e) (h1 : e ≤ 9223372036854775807) : strconv_Itoa.f e = some (mk (Lib.itoa e)) := by
 unfold strconv_Itoa.f
 rw [if_pos ⟨h0,h1⟩]
 rfl
theorem text_f (e : Int) (u r : Bs) (h0 : -9223372036854775808 ≤ e) (h1 : e ≤ 9223372036854775807) (hu : u.length < 2000000000000000000) (hr : r.length < 2000000000000000000) : version_text.f e (mk u) (mk r) = some (mk (textV e u r)) := by
 have hl := Lib.itoa_length_le e h0 h1
 unfold version_text.f textV
 simp only [mk_toList,mk_size,lit45,lit58,mk_app,Itoa_f e h0 h1,Option.bind_some,List.length_append,List.length_cons,List.length_nil]
 by_cases he : e = 0
 ·rw [if_pos he,if_pos he]
  by_cases hr0 : r = []
  ·rw [if_pos hr0,if_pos hr0];simp
  ·rw [if_neg hr0,if_neg hr0,if_pos (by omega),if_pos (by omega)];simp
 ·rw [if_neg he,if_neg he,if_pos (by omega),if_pos (by omega)]
  by_cases hr0 : r = []
  ·rw [if_pos hr0,if_pos hr0];simp
  ·rw [if_neg hr0,if_neg hr0,if_pos (by omega),if_pos (by omega)];simp
theorem Right_f (e : Int) (u r : Bs) (hu : u.length < 2000000000000000000) (hr : r.length < 2000000000000000000) : Ev (fun k => version_Right.f k e (mk u) (mk r)) (rightV e u r) := by
 have bad : ∀ x,Ev (fun k => version_Right.j0 k true x (mk u) (mk r)) false := fun x => by
  refine Ev.shift ?_
  simp only [version_Right.j0]
  exact Ev.pos trivial (Ev.some_ _)
 simp only [version_Right.f,mk_toList,mk_size]
 unfold rightV
 by_cases h0 : e < 0
 ·rw [decide_eq_false (show ¬ 0 ≤ e by omega)]
  exact Ev.pos h0 (bad e)
 ·rw [decide_eq_true (show 0 ≤ e by omega)]
  refine Ev.neg h0 ?_
  by_cases h1 : e > 999999999
  ·rw [decide_eq_false (show ¬ e ≤ 999999999 by omega)]
   exact Ev.pos h1 (bad e)
  ·rw [decide_eq_true (show e ≤ 999999999 by omega)]
   refine Ev.neg h1 ?_
   cases u with
   | nil => exact Ev.pos rfl (bad e)
   | cons c t =>
    refine Ev.neg (by simp) (Ev.pos (by simp) (Ev.bindc (by rw [mk_bt_0];exact digit_f c) ?_))
    simp only [fstDg,Bool.true_and]
    refine Ev.shift ?_
    simp only [version_Right.j0]
    cases hc : dg c
    ·exact Ev.pos rfl (Ev.eq_ (by simp))
    ·refine Ev.neg (by simp) (Ev.bindc (IndexByte_f (c :: t) 45) ?_)
     simp only [Bool.true_and]
     have step2 : ∀ b : Bool,b = (decide (45 ∈ c :: t) && decide (r = [])) → Ev (fun k => version_Right.j1 k b e (mk (c :: t)) (mk r)) (!(decide (45 ∈ c :: t) && decide (r = [])) && !(decide (58 ∈ c :: t) && decide (e = 0)) && (c :: t).all okU && r.all okR && decide ((textV e (c :: t) r).length ≤ 60)) := by
      intro b hb
      rw [← hb]
      refine Ev.shift ?_
      simp only [version_Right.j1]
      cases b
      ·refine Ev.neg (by simp) (Ev.bindc (IndexByte_f (c :: t) 58) ?_)
       simp only [Bool.not_false,Bool.true_and]
       have step3 : ∀ b : Bool,b = (decide (58 ∈ c :: t) && decide (e = 0)) → Ev (fun k => version_Right.j2 k b e (mk (c :: t)) (mk r)) (!(decide (58 ∈ c :: t) && decide (e = 0)) && (c :: t).all okU && r.all okR && decide ((textV e (c :: t) r).length ≤ 60)) := by
        intro b hb
        rw [← hb]
        refine Ev.shift ?_
        simp only [version_Right.j2]
        cases b
        ·refine Ev.neg (by simp) (Ev.bind (onlyU_f (c :: t) (by omega)) ?_)
         simp only [Bool.not_false,Bool.true_and]
         cases h3 : (c :: t).all okU
         ·exact Ev.neg (by simp) (Ev.eq_ (by simp))
         ·refine Ev.pos rfl (Ev.bind (onlyR_f r (by omega)) ?_)
          simp only [Bool.true_and]
          cases h4 : r.all okR
          ·exact Ev.neg (by simp) (Ev.eq_ (by simp))
          ·refine Ev.pos rfl (Ev.bindc (text_f e (c :: t) r (by omega) (by omega) hu hr) (Ev.eq_ ?_))
           rw [mk_size,Bool.true_and,decide_eq_decide];omega
        ·exact Ev.pos rfl (Ev.eq_ (by simp))
       by_cases h58 : (58 : UInt8) ∈ c :: t
       ·refine Ev.pos ((idx_mem _ _).2 h58) (step3 _ ?_)
        rw [decide_eq_true h58,Bool.true_and];rw [Bool.eq_iff_iff];simp
       ·refine Ev.neg (fun h => h58 ((idx_mem _ _).1 h)) (step3 _ ?_)
        rw [decide_eq_false h58,Bool.false_and]
      ·exact Ev.pos rfl (Ev.eq_ (by simp))
     by_cases h45 : (45 : UInt8) ∈ c :: t
     ·refine Ev.pos ((idx_mem _ _).2 h45) (step2 _ ?_)
      rw [decide_eq_true h45,Bool.true_and];rw [mk_toList,Bool.eq_iff_iff];simp
     ·refine Ev.neg (fun h => h45 ((idx_mem _ _).1 h)) (step2 _ ?_)
      rw [decide_eq_false h45,Bool.false_and]
end Go.Proofs.YtiidmjmkgjfaeaaGreatDoor.Pure

namespace Go.Proofs.YtiidmjmkgjfaeaaGreatDoor.Pure
open Go.RowKit Go.Proofs.YtiidmjmkgjfaeaaGreatDoor.PA Go.Proofs.YtiidmjmkgjfaeaaGreatDoorW.PrintWords Go.Proofs.YtiidmjmkgjfaeaaGreatDoorW.PrintLast Go.Proofs.YtiidmjmkgjfaeaaGreatDoorW.PrintMore
def cutAt (c : UInt8) : Bs → Option (Bs × Bs)
 | [] => none
 | d :: t => if d = c then some ([],t) else (cutAt c t).map fun p => (d :: p.1,p.2)
theorem cutAt_none {c : UInt8} : ∀ {l : Bs},cutAt c l = none ↔ c ∉ l
 | [] => by simp [cutAt]
 | d :: t => by
  have ih := cutAt_none (c := c) (l := t)
  unfold cutAt
  by_cases h : d = c
  ·simp [h]
  ·rw [if_neg h,Option.map_eq_none_iff,ih]
   simp [Ne.symm h]
theorem cutAt_some {c : UInt8} : ∀ {l a b : Bs},cutAt c l = some (a,b) ↔ l = a ++ c :: b ∧ c ∉ a
 | [],a,b => by simp [cutAt]
 | d :: t,a,b => by
  unfold cutAt
  by_cases h : d = c
  ·rw [if_pos h]
   subst h
   constructor
   ·intro h;cases h;simp
   ·rintro ⟨h1,h2⟩
    cases a with
    | nil => simp at h1;rw [h1]
    | cons x a => simp at h1;exact absurd (by simp [h1.1]) h2
  ·rw [if_neg h,Option.map_eq_some_iff]
   constructor
   ·rintro ⟨⟨p,q⟩,h1,h2⟩
    have := (cutAt_some (c := c)).1 h1
    cases h2
    exact ⟨by simp [this.1],by simp [this.2,Ne.symm h]⟩
   ·rintro ⟨h1,h2⟩
    cases a with
    | nil => simp at h1;exact absurd h1.1 h
    | cons x a =>
     simp at h1 h2
     exact ⟨(a,b),(cutAt_some (c := c)).2 ⟨h1.2,h2.2⟩,by simp [h1.1]⟩
def lastAt (c : UInt8) (l : Bs) : Option (Bs × Bs) := (cutAt c l.reverse).map fun p => (p.2.reverse,p.1.reverse)
theorem lastAt_none {c : UInt8} {l : Bs} : lastAt c l = none ↔ c ∉ l := by
 unfold lastAt;rw [Option.map_eq_none_iff,cutAt_none];simp
theorem lastAt_some {c : UInt8} {l a b : Bs} : lastAt c l = some (a,b) ↔ l = a ++ c :: b ∧ c ∉ b := by
 unfold lastAt
 rw [Option.map_eq_some_iff]
 constructor
 ·rintro ⟨⟨p,q⟩,h1,h2⟩
  have := cutAt_some.1 h1
  cases h2
  refine ⟨?_,by simpa using this.2⟩
  have h := congrArg List.reverse this.1
  simpa using h
 ·rintro ⟨h1,h2⟩
  exact ⟨(b.reverse,a.reverse),cutAt_some.2 ⟨by rw [h1];simp,by simpa using h2⟩,by simp⟩
theorem LastIndexByte_f (l : Bs) (c : UInt8) (h : l.length < 2000000000000000000) :
  strings_LastIndexByte.f (mk l) (c.toNat : Int) = some (match lastAt c l with | some (a,_) => (a.length : Int) | none => -1) := by
 unfold strings_LastIndexByte.f
 rw [mk_size,if_pos (by omega)]
 congr 1
 have e : ∀ j,j < l.length → (((mk l).data[j]!).toNat : Int) = ((l.getD j 0).toNat : Int) := by
  intro j hj
  have h2 : j < (mk l).data.size := by simpa [mk] using hj
  rw [getElem!_pos (mk l).data j h2,List.getD_eq_getElem?_getD,List.getElem?_eq_getElem hj]
  simp [mk]
 rcases Lib.lastIdx_spec (mk l) c.toNat l.length with ⟨h1,h2⟩ | ⟨i,hi,h1,h2,h3⟩
 ·have hn : c ∉ l := by
   intro hc
   obtain ⟨j,hj,hv⟩ := List.getElem_of_mem hc
   refine h2 j hj ?_
   rw [e j hj,List.getD_eq_getElem?_getD,List.getElem?_eq_getElem hj,Option.getD_some,hv]
  rw [lastAt_none.2 hn]
  unfold Lib.lastIndexByte
  rw [mk_size,h1]
 ·have hs : lastAt c l = some (l.take i,l.drop (i + 1)) := by
   refine lastAt_some.2 ⟨?_,?_⟩
   ·have : l[i] = c := by
     rw [e i hi,List.getD_eq_getElem?_getD,List.getElem?_eq_getElem hi,Option.getD_some] at h2
     exact UInt8.toNat_inj.1 (by omega)
    rw [← this]
    conv => lhs;rw [← List.take_append_drop i l]
    rw [List.drop_eq_getElem_cons hi]
   ·intro hc
    obtain ⟨j,hj,hv⟩ := List.getElem_of_mem hc
    rw [List.length_drop] at hj
    rw [List.getElem_drop] at hv
    refine h3 (i + 1 + j) (by omega) (by omega) ?_
    rw [e _ (by omega),List.getD_eq_getElem?_getD,List.getElem?_eq_getElem (by omega),Option.getD_some,hv]
  rw [hs]
  unfold Lib.lastIndexByte
  rw [mk_size,h1]
  simp only []
  rw [List.length_take];omega
theorem idx_cut : ∀ (l : Bs) (c : UInt8),Lib.indexByte l c = (match cutAt c l with | some (a,_) => (a.length : Int) | none => -1)
 | [],c => rfl
 | d :: t,c => by
  have ih := idx_cut t c
  unfold Lib.indexByte cutAt
  by_cases h : d = c
  ·subst h;simp
  ·have h' : (d == c) = false := by simpa using h
   rw [h',if_neg (by simp),if_neg h,ih]
   cases cutAt c t with
   | none => rfl
   | some p =>
    simp only [Option.map_some,List.length_cons]
    have hx : ((p.1.length : Int) == -1) = false := by rw [beq_eq_false_iff_ne];omega
    rw [hx,if_neg (by simp)]
    exact (Int.natCast_succ _).symm
theorem Cut_f (l : Bs) (c : UInt8) (h : l.length < 4294967281) :
  strings_Cut.f (mk l) (mk [c]) = some (match cutAt c l with | some (a,b) => (mk a,mk b,true) | none => (mk l,mk [],false)) := by
 unfold strings_Cut.f Lib.cut
 rw [mk_size,if_pos h]
 simp only [mk_dataList,Lib.index_one,idx_cut]
 cases hc : cutAt c l with
 | none => rfl
 | some p =>
  obtain ⟨a,b⟩ := p
  have hl := (cutAt_some.1 hc).1
  simp only []
  rw [if_pos (by omega)]
  congr 1
  simp only [Int.toNat_natCast,List.length_cons,List.length_nil]
  have h1 : l.take a.length = a := by rw [hl];simp
  have h2 : l.drop (a.length + (0 + 1)) = b := by
   rw [hl,show a.length + (0 + 1) = (a ++ [c]).length by simp,show a ++ c :: b = (a ++ [c]) ++ b by simp,List.drop_left]
  rw [h1,h2]
  rfl
def badV : Int × Bs × Bs × Int := (0,[],[],4)
def finV (e : Int) (rest : Bs) : Int × Bs × Bs × Int :=
 match lastAt 45 rest with
 | some (u,r) => if r = [] then badV else if rightV e u r = true then (e,u,r,0) else badV
 | none => if rightV e rest [] = true then (e,rest,[],0) else badV
def parseV (s : Bs) : Int × Bs × Bs × Int :=
 if s.length > 60 then (0,[],[],9)
 else match cutAt 58 s with
  | some (ep,behind) =>
   match Lib.atoiAll ep with
   | .ok n => if n < 0 then badV else if Lib.itoa n = ep then finV n behind else badV
   | _ => badV
  | none => finV 0 s
def toB (p : Int × Bs × Bs × Int) : Int × ByteArray × ByteArray × Int := (p.1,mk p.2.1,mk p.2.2.1,p.2.2.2)
theorem fin_j0 (e : Int) (rest : Bs) (h : rest.length < 1000) : Ev (fun k => version_Parse.j0 k (mk rest) e (⟨#[]⟩ : ByteArray) (⟨#[]⟩ : ByteArray)) (toB (finV e rest)) := by
 refine Ev.shift ?_
 simp only [version_Parse.j0,lit0,mk_size,mk_toList]
 refine Ev.bindc (LastIndexByte_f rest 45 (by omega)) ?_
 unfold finV
 cases hl : lastAt 45 rest with
 | none =>
  simp only []
  refine Ev.neg (by omega) (Ev.bind (Right_f e rest [] (by omega) (by simp)) ?_)
  by_cases hr : rightV e rest [] = true
  ·exact Ev.pos hr (Ev.eq_ (by rw [if_pos hr];rfl))
  ·exact Ev.neg hr (Ev.eq_ (by rw [if_neg hr];rfl))
 | some p =>
  obtain ⟨u,r⟩ := p
  obtain ⟨he,hn⟩ := lastAt_some.1 hl
  have hlen : rest.length = u.length + (r.length + 1) := by rw [he];simp
  have h1 : (mk rest).extract ((u.length : Int) + 1).toNat rest.length = mk r := by
   rw [mk_ext_to,he,show ((u.length : Int) + 1).toNat = (u ++ [45]).length by simp,show u ++ 45 :: r = (u ++ [45]) ++ r by simp,List.drop_left]
  have h2 : (mk rest).extract 0 u.length = mk u := by rw [mk_ext_from,he];simp
  simp only []
  rw [wrap_in _ (by omega) (by omega)]
  refine Ev.pos (by omega) (Ev.pos (by omega) (Ev.pos (by omega) (Ev.pos (by omega) (Ev.pos (by omega) ?_))))
  simp only [Int.toNat_natCast,h1,h2,mk_toList]
  by_cases hr : r = []
  ·exact Ev.pos hr (Ev.eq_ (by rw [if_pos hr];rfl))
  ·rw [if_neg hr]
   refine Ev.neg hr (Ev.bind (Right_f e u r (by omega) (by omega)) ?_)
   by_cases hr : rightV e u r = true
   ·exact Ev.pos hr (Ev.eq_ (by rw [if_pos hr];rfl))
   ·exact Ev.neg hr (Ev.eq_ (by rw [if_neg hr];rfl))
theorem Parse_f (s : Bs) : Ev (fun k => version_Parse.f k (mk s)) (toB (parseV s)) := by
 simp only [version_Parse.f,mk_size]
 unfold parseV
 by_cases h : s.length > 60
 ·rw [if_pos h]
  exact Ev.pos (by omega) (Ev.eq_ rfl)
 ·rw [if_neg h]
  refine Ev.neg (by omega) (Ev.bindc (by rw [lit58];exact Cut_f s 58 (by omega)) ?_)
  cases hc : cutAt 58 s with
  | none =>
   simp only []
   exact Ev.neg (by simp) (fin_j0 0 s (by omega))
  | some p =>
   obtain ⟨ep,b⟩ := p
   have hlen : s.length = ep.length + (b.length + 1) := by rw [(cutAt_some.1 hc).1];simp
   simp only []
   refine Ev.pos (by simp) ?_
   have hA : strconv_Atoi.f (mk ep) = some (match Lib.atoiAll ep with | .ok v => (v,none) | .range => (Lib.atoiSat ep,some 0) | _ => (0,some 0)) := by
    unfold strconv_Atoi.f
    rw [mk_size,if_pos (by omega),mk_dataList]
    rcases Lib.atoiAll ep with v | _ | _ <;> rfl
   refine Ev.bindc hA ?_
   rcases hv : Lib.atoiAll ep with v | _ | _
   ·simp only []
    have hb := Lib.atoiAll_bounds hv
    refine Ev.pos rfl ?_
    by_cases hn : v < 0
    ·rw [if_pos hn];exact Ev.pos hn (Ev.eq_ rfl)
    ·rw [if_neg hn]
     refine Ev.neg hn (Ev.bindc (Itoa_f v (by omega) (by omega)) ?_)
     by_cases hi : Lib.itoa v = ep
     ·rw [if_pos hi]
      exact Ev.pos (by rw [mk_toList,mk_toList];exact hi) (fin_j0 v b (by omega))
     ·rw [if_neg hi]
      exact Ev.neg (by rw [mk_toList,mk_toList];exact hi) (Ev.eq_ rfl)
   ·simp only []
    exact Ev.neg (by simp) (Ev.eq_ rfl)
   ·simp only []
    exact Ev.neg (by simp) (Ev.eq_ rfl)
theorem parseV_len (s : Bs) : (parseV s).2.1.length ≤ 60 ∧ (parseV s).2.2.1.length ≤ 60 := by
 have fin : ∀ (e : Int) (r : Bs),r.length ≤ 60 → (finV e r).2.1.length ≤ 60 ∧ (finV e r).2.2.1.length ≤ 60 := by
  intro e r h
  unfold finV
  cases hl : lastAt 45 r with
  | none => simp only [];split <;> simp [badV];exact h
  | some p =>
   obtain ⟨u,q⟩ := p
   have : r.length = u.length + (q.length + 1) := by rw [(lastAt_some.1 hl).1];simp
   simp only []
   split
   ·simp [badV]
   ·split
    ·exact ⟨by simp;omega,by simp;omega⟩
    ·simp [badV]
 unfold parseV
 split
 ·simp
 ·rename_i h
  cases hc : cutAt 58 s with
  | none => exact fin 0 s (by omega)
  | some p =>
   obtain ⟨ep,b⟩ := p
   have hlen : s.length = ep.length + (b.length + 1) := by rw [(cutAt_some.1 hc).1];simp
   simp only []
   split
   ·split
    ·simp [badV]
    ·split
     ·exact fin _ b (by omega)
     ·simp [badV]
   ·simp [badV]
def compareV (e : Int) (u r : Bs) (e' : Int) (u' r' : Bs) : Int := orI [cmpI e e',cmpT u u',cmpT r r']
theorem Compare_f (e : Int) (u r : Bs) (e' : Int) (u' r' : Bs) (hu : u.length < 1000000) (hr : r.length < 1000000) (hu' : u'.length < 1000000) (hr' : r'.length < 1000000) :
  Ev (fun k => version_Compare.f k e (mk u) (mk r) e' (mk u') (mk r')) (compareV e u r e' u' r') := by
 simp only [version_Compare.f]
 exact Ev.bindc (cmpInt_f _ _) (Ev.bind (CompareText_f u u' (by omega) (by omega)) (Ev.bind (CompareText_f r r' (by omega) (by omega)) (Ev.bind (or_f _ (by simp)) (Ev.eq_ rfl))))
def orderV (a b : Bs) : Int :=
 if (parseV a).2.2.2 = 0 then
  if (parseV b).2.2.2 = 0 then compareV (parseV a).1 (parseV a).2.1 (parseV a).2.2.1 (parseV b).1 (parseV b).2.1 (parseV b).2.2.1 else 1
 else if (parseV b).2.2.2 = 0 then -1 else 0
end Go.Proofs.YtiidmjmkgjfaeaaGreatDoor.Pure

namespace Go.Proofs.YtiidmjmkgjfaeaaGreatDoor.Pure
open Go.RowKit Go.Proofs.YtiidmjmkgjfaeaaGreatDoor.PA Go.Proofs.YtiidmjmkgjfaeaaGreatDoorW.PrintWords Go.Proofs.YtiidmjmkgjfaeaaGreatDoorW.PrintLast Go.Proofs.YtiidmjmkgjfaeaaGreatDoorW.PrintMore
def printV (e : Int) (u r : Bs) : Bs := if rightV e u r = true then textV e u r else []
theorem rightV_rng {e : Int} {u r : Bs} (h : rightV e u r = true) : 0 ≤ e ∧ e ≤ 999999999 := by
 unfold rightV at h
 simp only [Bool.and_eq_true,decide_eq_true_eq] at h
 exact ⟨h.1.1.1.1.1.1.1,h.1.1.1.1.1.1.2⟩
theorem Print_f (e : Int) (u r : Bs) (hu : u.length < 2000000000000000000) (hr : r.length < 2000000000000000000) : Ev (fun k => version_Print.f k e (mk u) (mk r)) (mk (printV e u r)) := by
 simp only [version_Print.f]
 unfold printV
 refine Ev.bind (Right_f e u r hu hr) ?_
 cases h : rightV e u r
 ·exact Ev.neg (by simp) (Ev.eq_ rfl)
 ·have := rightV_rng h
  exact Ev.pos rfl (Ev.bindc (text_f e u r (by omega) (by omega) hu hr) (Ev.eq_ rfl))
end Go.Proofs.YtiidmjmkgjfaeaaGreatDoor.Pure

namespace Go.Proofs.YtiidmjmkgjfaeaaGreatDoor.Pure
open Go.RowKit Go.Proofs.YtiidmjmkgjfaeaaGreatDoor.PA Go.Proofs.YtiidmjmkgjfaeaaGreatDoorW.PrintWords Go.Proofs.YtiidmjmkgjfaeaaGreatDoorW.PrintLast Go.Proofs.YtiidmjmkgjfaeaaGreatDoorW.PrintMore
def selV (op c : Int) : Bool := if op = 1 then decide (c < 0) else if op = 2 then decide (c ≤ 0) else if op = 3 then c == 0 else if op = 4 then decide (c ≥ 0) else if op = 5 then decide (c > 0) else false
def cV (s t : Bs) : Int := compareV (parseV s).1 (parseV s).2.1 (parseV s).2.2.1 (parseV t).1 (parseV t).2.1 (parseV t).2.2.1
def okV (s : Bs) : Bool := decide ((parseV s).2.2.2 = 0)
def holdsV (op : Int) (s t : Bs) : Bool := if op = 0 then true else okV s && okV t && selV op (cV s t)
theorem sel_some (op c : Int) : (if op = 1 then (some (decide (c < 0))) else (if op = 2 then (some (decide (c ≤ 0))) else (if op = 3 then (some (c == 0)) else (if op = 4 then (some (decide (c ≥ 0))) else (if op = 5 then (some (decide (c > 0))) else (some false)))))) = some (selV op c) := by
 unfold selV
 (repeat' split) <;> rfl
theorem Holds_f (op : Int) (s t : Bs) : Ev (fun k => relation_Holds.f k op (mk s) (mk t)) (holdsV op s t) := by
 simp only [relation_Holds.f]
 unfold holdsV
 by_cases h0 : op = 0
 ·rw [if_pos h0];exact Ev.pos h0 (Ev.some_ _)
 ·rw [if_neg h0]
  refine Ev.neg h0 (Ev.bind (Parse_f s) (Ev.bind (Parse_f t) ?_))
  have la := parseV_len s
  have lb := parseV_len t
  unfold okV cV toB
  generalize parseV s = p at *
  generalize parseV t = q at *
  obtain ⟨e,u,r,x⟩ := p
  obtain ⟨e',u',r',y⟩ := q
  simp only [] at *
  by_cases hx : x = 0
  ·rw [decide_eq_true hx,Bool.true_and]
   refine Ev.pos hx (Ev.shift ?_)
   simp only [relation_Holds.j0]
   by_cases hy : y = 0
   ·rw [decide_eq_true hy,Bool.true_and]
    subst hy
    refine Ev.neg (by simp) (Ev.bind (Compare_f _ _ _ _ _ _ (by omega) (by omega) (by omega) (by omega)) ?_)
    exact Ev.const_ (sel_some op _)
   ·rw [decide_eq_false hy,Bool.false_and]
    exact Ev.pos (by rw [bne_iff_ne];exact hy) (Ev.some_ _)
  ·rw [decide_eq_false hx]
   refine Ev.neg hx (Ev.shift ?_)
   simp only [relation_Holds.j0]
   exact Ev.pos trivial (Ev.eq_ rfl)
def givesV (n : Bs) (op : Int) (v m : Bs) (gop : Int) (w : Bs) : Bool := decide (n = m) && (decide (op = 0) || (decide (gop = 3) && holdsV op w v))
theorem Provides_f (n : Bs) (op : Int) (v m : Bs) (gop : Int) (w : Bs) : Ev (fun k => relation_Provides.f k (mk n) op (mk v) (mk m) gop (mk w)) (givesV n op v m gop w) := by
 simp only [relation_Provides.f,mk_toList]
 unfold givesV
 by_cases h : n = m
 ·rw [decide_eq_true h,Bool.true_and]
  refine Ev.pos h ?_
  by_cases h0 : op = 0
  ·rw [decide_eq_true h0,Bool.true_or];exact Ev.pos h0 (Ev.some_ _)
  ·rw [decide_eq_false h0,Bool.false_or]
   refine Ev.neg h0 ?_
   by_cases h3 : gop = 3
   ·rw [decide_eq_true h3,Bool.true_and];exact Ev.pos h3 (Ev.bind (Holds_f _ _ _) (Ev.some_ _))
   ·rw [decide_eq_false h3,Bool.false_and];exact Ev.neg h3 (Ev.some_ _)
 ·rw [decide_eq_false h,Bool.false_and]
  exact Ev.neg h (Ev.some_ _)
end Go.Proofs.YtiidmjmkgjfaeaaGreatDoor.Pure

namespace Go.Proofs.YtiidmjmkgjfaeaaGreatDoor.Pure
open Go.RowKit Go.Proofs.YtiidmjmkgjfaeaaGreatDoor.PA Go.Proofs.YtiidmjmkgjfaeaaGreatDoorW.PrintWords Go.Proofs.YtiidmjmkgjfaeaaGreatDoorW.PrintLast Go.Proofs.YtiidmjmkgjfaeaaGreatDoorW.PrintMore
def fst3 (c : UInt8) : Bool := decide (97 ≤ c.toNat ∧ c.toNat ≤ 122) || dg c
def oth3 (c : UInt8) : Bool := fst3 c || decide (c.toNat = 43 ∨ c.toNat = 45 ∨ c.toNat = 46)
def fstOk : Bs → Bool
 | [] => true
 | c :: t => fst3 c && t.all oth3
def nameV (l : Bs) : Bool := fstOk l && decide (2 ≤ l.length) && decide (l.length ≤ 40)
theorem firsts_f : ∀ c : UInt8,decide (0 ≤ Lib.indexByte ((⟨#[97,98,99,100,101,102,103,104,105,106,107,108,109,110,111,112,113,114,115,116,117,118,119,120,121,122,48,49,50,51,52,53,54,55,56,57]⟩ : ByteArray)).data.toList c) = fst3 c := byte_all (by decide +kernel)
theorem others_f : ∀ c : UInt8,decide (Lib.indexByte ((⟨#[97,98,99,100,101,102,103,104,105,106,107,108,109,110,111,112,113,114,115,116,117,118,119,120,121,122,48,49,50,51,52,53,54,55,56,57,43,45,46]⟩ : ByteArray)).data.toList c < 0) = !oth3 c := byte_all (by decide +kernel)
theorem Name1_f (c : UInt8) : relation_Name_1.f (c.toNat : Int) = some (!oth3 c) := by
 unfold relation_Name_1.f strings_IndexByte.f
 rw [toByte]
 simp only [Option.bind_some]
 rw [others_f]
theorem index_l0 (l : Bs) (hl : l.length < 4611686018427387904) : ∀ (t p : Bs),l = p ++ t →
  ∃ r : Int,(r ≥ 0 ↔ t.all oth3 = false) ∧ Ev (fun k => slices_IndexFunc_byte_byte_107.l0 k (bytesOf (mk l)) (l.length : Int) (p.length : Int)) r := by
 intro t
 induction t with
 | nil =>
  intro p h
  refine ⟨-1,by simp,?_⟩
  refine Ev.shift ?_
  simp only [slices_IndexFunc_byte_byte_107.l0]
  exact Ev.neg (by rw [h];simp) (Ev.some_ _)
 | cons c t ih =>
  intro p h
  have hlen : l.length = p.length + (t.length + 1) := by rw [h];simp
  have hb : (bytesOf (mk l)).length = l.length := by rw [bytesOf_length,mk_size]
  have e : rd (bytesOf (mk l)) (p.length : Int) = (c.toNat : Int) := by rw [rd_bytesOf,h,mk_bt_at]
  cases hc : oth3 c
  ·refine ⟨(p.length : Int),by simp [hc],?_⟩
   refine Ev.shift ?_
   simp only [slices_IndexFunc_byte_byte_107.l0,e]
   refine Ev.pos (by omega) (Ev.pos (by omega) (Ev.pos (by rw [hb];omega) (Ev.bindc (Name1_f c) ?_)))
   rw [hc]
   exact Ev.pos rfl (Ev.some_ _)
  ·obtain ⟨r,hr,hE⟩ := ih (p ++ [c]) (by rw [h];simp)
   refine ⟨r,by rw [hr];simp [hc],?_⟩
   refine Ev.shift ?_
   simp only [slices_IndexFunc_byte_byte_107.l0,e]
   refine Ev.pos (by omega) (Ev.pos (by omega) (Ev.pos (by rw [hb];omega) (Ev.bindc (Name1_f c) ?_)))
   rw [hc]
   refine Ev.neg (by simp) ?_
   rw [wrap_succ _ (by omega)]
   simpa using hE
theorem Contains_f (l : Bs) (hl : l.length < 4611686018427387904) (n : Nat) : Ev (fun k => slices_ContainsFunc_byte_byte_107.f k (bytesOf (mk l)) n) (!l.all oth3) := by
 obtain ⟨r,hr,hE⟩ := index_l0 l hl l [] rfl
 simp only [slices_ContainsFunc_byte_byte_107.f,slices_IndexFunc_byte_byte_107.f]
 rw [bytesOf_length,mk_size]
 refine Ev.bind hE (Ev.eq_ ?_)
 cases h : l.all oth3
 ·exact decide_eq_true (hr.2 h)
 ·exact decide_eq_false (fun h2 => by rw [hr.1 h2] at h;cases h)
theorem fst_oth {c : UInt8} (h : fst3 c = true) : oth3 c = true := by unfold oth3;rw [h];rfl
theorem fstOk_all : ∀ l : Bs,l ≠ [] → fstOk l = ((match l with | [] => false | c :: _ => fst3 c) && l.all oth3)
 | [],h => absurd rfl h
 | c :: t,_ => by
  cases hc : fst3 c
  ·simp [fstOk,hc]
  ·simp [fstOk,hc,fst_oth hc]
theorem Name_f (l : Bs) (hl : l.length < 4611686018427387904) : Ev (fun k => relation_Name.f k (mk l)) (nameV l) := by
 simp only [relation_Name.f,mk_size]
 unfold nameV
 by_cases h2 : 2 ≤ l.length
 ·rw [decide_eq_true h2,Bool.and_true]
  refine Ev.pos (by omega) ?_
  by_cases h40 : l.length ≤ 40
  ·rw [decide_eq_true h40,Bool.and_true]
   refine Ev.pos (by omega) ?_
   cases l with
   | nil => simp at h2
   | cons c t =>
    rw [fstOk_all _ (by simp),mk_bt_0]
    refine Ev.bindc (a := Lib.indexByte ((⟨#[97,98,99,100,101,102,103,104,105,106,107,108,109,110,111,112,113,114,115,116,117,118,119,120,121,122,48,49,50,51,52,53,54,55,56,57]⟩ : ByteArray)).data.toList c) (by unfold strings_IndexByte.f;rw [toByte]) ?_
    have hf := firsts_f c
    cases hc : fst3 c
    ·rw [hc] at hf
     exact Ev.neg (of_decide_eq_false hf) (Ev.eq_ (by simp [hc]))
    ·rw [hc] at hf
     exact Ev.pos (of_decide_eq_true hf) (Ev.bind (Contains_f _ hl 0) (Ev.eq_ (by simp only [Bool.not_not,hc,Bool.true_and])))
  ·rw [decide_eq_false h40,Bool.and_false]
   exact Ev.neg (by omega) (Ev.some_ _)
 ·rw [decide_eq_false h2,Bool.and_false,Bool.false_and]
  exact Ev.neg (by omega) (Ev.some_ _)
end Go.Proofs.YtiidmjmkgjfaeaaGreatDoor.Pure

namespace Go.Proofs.YtiidmjmkgjfaeaaGreatDoor.Pure
open Go.RowKit Go.Proofs.YtiidmjmkgjfaeaaGreatDoor.PA Go.Proofs.YtiidmjmkgjfaeaaGreatDoorW.PrintWords Go.Proofs.YtiidmjmkgjfaeaaGreatDoorW.PrintLast Go.Proofs.YtiidmjmkgjfaeaaGreatDoorW.PrintMore
def plainV (s : Bs) : Bool := okV s && decide (printV (parseV s).1 (parseV s).2.1 (parseV s).2.2.1 = s)
theorem plain_f (s : Bs) : Ev (fun k => relation_plain.f k (mk s)) (plainV s) := by
 simp only [relation_plain.f]
 have hl := parseV_len s
 refine Ev.bind (Parse_f s) ?_
 unfold plainV okV toB
 by_cases h : (parseV s).2.2.2 = 0
 ·rw [decide_eq_true h,Bool.true_and]
  refine Ev.pos h (Ev.bind (Print_f _ _ _ (by omega) (by omega)) (Ev.eq_ ?_))
  rw [mk_toList,mk_toList,Bool.eq_iff_iff];simp
 ·rw [decide_eq_false h,Bool.false_and]
  exact Ev.neg h (Ev.some_ _)
def rightA (n : Bs) (op : Int) (v : Bs) : Bool := nameV n && decide (0 ≤ op) && decide (op ≤ 5) && (if op = 0 then decide (v = []) else plainV v)
theorem Right_A (n : Bs) (op : Int) (v : Bs) (hn : n.length < 4611686018427387904) : Ev (fun k => relation_Right.f k (mk n) op (mk v)) (rightA n op v) := by
 have bad : ∀ a b c,Ev (fun k => relation_Right.j0 k true a b c) false := fun a b c => by
  refine Ev.shift ?_
  simp only [relation_Right.j0]
  exact Ev.pos trivial (Ev.some_ _)
 simp only [relation_Right.f]
 unfold rightA
 refine Ev.bind (Name_f n hn) ?_
 cases h : nameV n
 ·exact Ev.neg (by simp) (by simpa using bad _ _ _)
 ·refine Ev.pos rfl ?_
  rw [Bool.true_and]
  by_cases h0 : op < 0
  ·rw [decide_eq_false (show ¬ 0 ≤ op by omega),Bool.false_and,Bool.false_and]
   exact Ev.pos h0 (bad _ _ _)
  ·rw [decide_eq_true (show 0 ≤ op by omega),Bool.true_and]
   refine Ev.neg h0 ?_
   by_cases h5 : op > 5
   ·rw [decide_eq_true h5,decide_eq_false (show ¬ op ≤ 5 by omega),Bool.false_and]
    exact bad _ _ _
   ·rw [decide_eq_false h5,decide_eq_true (show op ≤ 5 by omega),Bool.true_and]
    refine Ev.shift ?_
    simp only [relation_Right.j0]
    refine Ev.neg (by simp) ?_
    by_cases hz : op = 0
    ·rw [if_pos hz]
     exact Ev.pos hz (Ev.eq_ (by rw [mk_toList,Bool.eq_iff_iff];simp))
    ·rw [if_neg hz]
     exact Ev.neg hz (Ev.bind (plain_f v) (Ev.some_ _))
def sgn (op : Int) : Bs := (signAt op).toList
theorem sgn_mk (op : Int) : signAt op = mk (sgn op) := by unfold sgn;rw [toList_data,mk_data]
theorem sgn_len (op : Int) : (sgn op).length ≤ 2 := by
 unfold sgn signAt
 rw [toList_data]
 (repeat' split) <;> decide
def textA (n : Bs) (op : Int) (v : Bs) : Bs := if op = 0 then n else n ++ [32,40] ++ sgn op ++ [32] ++ v ++ [41]
def printA (n : Bs) (op : Int) (v : Bs) : Bs := if rightA n op v = true then textA n op v else []
theorem Print_A (n : Bs) (op : Int) (v : Bs) (hn : n.length < 2000000000000000000) (hv : v.length < 2000000000000000000) : Ev (fun k => relation_Print.f k (mk n) op (mk v)) (mk (printA n op v)) := by
 simp only [relation_Print.f]
 unfold printA
 refine Ev.bind (Right_A n op v (by omega)) ?_
 cases h : rightA n op v
 ·exact Ev.neg (by simp) (Ev.eq_ rfl)
 ·refine Ev.pos rfl ?_
  rw [if_pos rfl]
  have hs := sgn_len op
  by_cases h0 : op = 0
  ·have e : textA n op v = n := by unfold textA;rw [if_pos h0]
   rw [e];exact Ev.pos h0 (Ev.some_ _)
  ·have e : textA n op v = n ++ [32,40] ++ sgn op ++ [32] ++ v ++ [41] := by unfold textA;rw [if_neg h0]
   rw [e]
   have l1 : (⟨#[32,40]⟩ : ByteArray) = mk [32,40] := rfl
   have l2 : (⟨#[32]⟩ : ByteArray) = mk [32] := rfl
   have l3 : (⟨#[41]⟩ : ByteArray) = mk [41] := rfl
   refine Ev.neg h0 (Ev.pos (by rw [mk_size];omega) (Ev.bindc (show relation_Sign.f op = some (mk (sgn op)) by unfold relation_Sign.f;rw [sgn_mk]) ?_))
   simp only [l1,l2,l3,mk_app,mk_size,List.length_append,List.length_cons,List.length_nil]
   exact Ev.pos (by omega) (Ev.pos (by omega) (Ev.pos (by omega) (Ev.pos (by omega) (Ev.eq_ rfl))))
end Go.Proofs.YtiidmjmkgjfaeaaGreatDoor.Pure

