import Derived.Test.YtiidmjmkgjfaeaaGreatDoorHeIdx
import Derived.Test.YtiidmjmkgjfaeaaGreatDoorWZeros
import Derived.Test.YtiidmjmkgjfaeaaGreatDoorPureDepJoin
import Derived.Test.YtiidmjmkgjfaeaaGreatDoorPureRelParse
import Derived.Test.YtiidmjmkgjfaeaaGreatDoorShelf2
import Derived.Test.YtiidmjmkgjfaeaaGreatDoorPAx4
import Derived.Test.YtiidmjmkgjfaeaaGreatDoorPAx5
import Derived.RangeFuncRecord
namespace Go.Proofs.YtiidmjmkgjfaeaaGreatDoor.PA
open Go Go.RowKit Go.Shelf Go.Proofs.YtiidmjmkgjfaeaaGreatDoorW.PrintWords
set_option linter.unusedVariables false
set_option linter.unusedSimpArgs false
def isF (n : ByteArray) (x : S92) : Bool := x.f0.toList == n.toList
def getV (n : ByteArray) (l : List S92) : ByteArray × Bool := if idxP (isF n) l 0 < 0 then (⟨#[]⟩,false) else ((rd_T92 l (idxP (isF n) l 0)).f1,true)
theorem idxP_rng {α : Type} (p : α → Bool) : ∀ (l : List α) (i : Nat),idxP p l i < 0 ∨ ((i : Int) ≤ idxP p l i ∧ idxP p l i < i + l.length)
 | [],i => .inl (by rw [idxP];omega)
 | x :: r,i => by
  rw [idxP]
  split
  ·exact .inr ⟨by omega,by simp;omega⟩
  ·rcases idxP_rng p r (i + 1) with h | h
   ·exact .inl h
   ·refine .inr ⟨by omega,?_⟩
    rw [List.length_cons]
    omega
set_option maxRecDepth 100000 in
theorem place1_pred (n : ByteArray) (D : Nat) (w : World) (hD : w.cell? ⟨D,0,none⟩ = some (.string n)) (l : List S92) : PredP k92 (isF n) 115 #[.pointer (some ⟨D,0,none⟩)] w l := by
 intro W x cs hb _ hK
 obtain rfl := k92_open hK
 have gD := (hb.cell (World.block_lt_of_cell? _ _ hD)).trans hD
 have hDW : D < W.heap.size := World.block_lt_of_cell? _ _ gD
 have hne : D ≠ W.heap.size := by omega
 have HB := Aside0.mk hb
 clear hb hD hK
 show Calls Tryz.prog 115 #[.agg #[.string x.f0,.string x.f1],.pointer (some ⟨D,0,none⟩)] W _
 unfold isF
 go_enter Tryz.func115,Tryz.ntmps115
 go_wp2
 go_ret
 exact ⟨rfl,HB.out.alloc HB.out.size _⟩
set_option maxRecDepth 100000 in
theorem stanza_place_calls (A0 : Option Addr) (c0 : Nat) (l : List S92) (n : ByteArray) (w : World) (hr : Kd.C k92 w A0 l.length l) (hl : l.length < 1000000000000) :
  Calls Tryz.prog 85 #[.slice A0 l.length c0,.string n] w fun e w' => e = .returned (.int .i64 (idxP (isF n) l 0)) ∧ Below w.heap.size w w' := by
 obtain ⟨W,hW⟩ : ∃ W,w.alloc (.cells #[.string n] 9) = W := ⟨_,rfl⟩
 have hb : Below w.heap.size w W := by rw [← hW];exact (Below.refl _ w).alloc (Nat.le_refl _) _
 have hD : W.cell? ⟨w.heap.size,0,none⟩ = some (.string n) := by rw [← hW,World.cell?_alloc_new];rfl
 have HI := Aside0.mk (indexField (isF n) 115 #[.pointer (some ⟨w.heap.size,0,none⟩)] (enters_of Tryz.func115 (by kernel_rfl) rfl) W A0 c0 l (place1_pred n w.heap.size W hD l) (Kd.C_below hr hb) hl)
 have HB := Aside0.mk hb
 clear hr hl hD hb
 go_enter Tryz.func85,Tryz.ntmps85
 go_wp2_with (go_at_call 114;(refine HI.out.mono ?_;rintro e w' ⟨rfl,hb'⟩))
 go_ret
 exact ⟨rfl,HB.out.trans (hb'.mono HB.out.size)⟩
set_option maxRecDepth 100000 in
theorem stanza_Get_calls (A0 : Option Addr) (c0 : Nat) (l : List S92) (n : ByteArray) (w : World) (hr : Kd.C k92 w A0 l.length l) (hl : l.length < 1000000000000) :
  Calls Tryz.prog 146 #[.slice A0 l.length c0,.string n] w fun e w' => e = .returned (.tuple #[.string (getV n l).1,.bool (getV n l).2]) ∧ Below w.heap.size w w' := by
 have HP := Aside0.mk (stanza_place_calls A0 c0 l n w hr hl)
 have HR := Aside0.mk hr
 have hrng := idxP_rng (isF n) l 0
 unfold getV
 obtain ⟨j,hj⟩ : ∃ j,idxP (isF n) l 0 = j := ⟨_,rfl⟩
 rw [hj] at HP hrng ⊢
 clear hr hl hj
 by_cases h0 : j < 0
 ·rw [if_pos h0]
  have b1 : decide (j < 0) = true := decide_eq_true h0
  clear hrng h0
  go_enter Tryz.func146,Tryz.ntmps146
  go_wp2_with (go_at_call 85;refine HP.out.mono ?_;rintro e w' ⟨rfl,hb'⟩)
  go_ret2
  exact ⟨rfl,hb'⟩
 ·rw [if_neg h0]
  have b1 : decide (j < 0) = false := decide_eq_false h0
  obtain ⟨j,rfl⟩ : ∃ m : Nat,j = (m : Int) := ⟨j.toNat,by omega⟩
  have p0 : (0 : Int) ≤ (j : Int) := by omega
  have p1 : (j : Int) < (l.length : Int) := by omega
  obtain ⟨ad,rfl,_,_⟩ := at_T92 HR.out (j : Int) p0 p1
  clear hrng h0
  go_enter Tryz.func146,Tryz.ntmps146
  go_wp2_with (go_at_call 85;refine HP.out.mono ?_;rintro e w' ⟨rfl,hb'⟩;obtain ⟨ad2,had,hx0,hx1⟩ := at_T92 (Kd.C_below HR.out hb') (j : Int) p0 p1;obtain rfl := Option.some.inj had;simp only [Int.toNat_natCast] at hx0 hx1;have HBB := Aside0.mk hb';clear hb' had)
  go_ret2
  exact ⟨rfl,HBB.out⟩
end Go.Proofs.YtiidmjmkgjfaeaaGreatDoor.PA

namespace Go.Proofs.YtiidmjmkgjfaeaaGreatDoor.PA
open Go Go.RowKit Go.Shelf Go.Proofs.YtiidmjmkgjfaeaaGreatDoorW.PrintWords
set_option linter.unusedVariables false
set_option linter.unusedSimpArgs false
set_option maxRecDepth 100000 in
theorem growAtom (n : Int) (h0 : 0 ≤ n) (hn : n ≤ 1000000000) (w : World) :
  Calls Tryz.prog 88 #[.slice none 0 0,.int .i64 n] w fun e w' => ∃ v,e = .returned v ∧ Kd.R k46 46 w' w.heap.size (fun _ => True) v [] ∧ Below w.heap.size w w' := by
 have b1 : decide (n < 0) = false := decide_eq_false (by omega)
 by_cases hz : n = 0
 ·subst hz
  go_enter Tryz.func88,Tryz.ntmps88
  go_wp2
  go_ret
  exact ⟨_,rfl,Kd.R_nil _ _ _ _ _,Below.refl _ _⟩
 ·have b2 : decide (0 < n) = true := decide_eq_true (by omega)
  go_enter Tryz.func88,Tryz.ntmps88
  go_wp2_with (at_builtin;refine Kd.R_append_zeros k46 (w0 := w) w.heap.size rfl _ _ 35 3 46 _ 40 rfl Tryz.underlying35 Tryz.underlying3 info46 rfl (by decide) (by omega) _ [] z46 n (fun _ => True) rfl rfl (k46_mkM _ _ _ z46) (fun _ _ => trivial) (Kd.R_nil _ _ _ _ _) h0 (Below.refl _ _) (Nat.le_refl _) (by simp;omega) ?_;intro v1 w1 hR hB _ _;obtain ⟨A1,c1,rfl,hc1,_⟩ := Kd.R_reads hR;have HR := Aside0.mk hR;have HB := Aside0.mk hB;clear hR hB)
  go_ret
  exact ⟨_,rfl,Kd.R_take HR.out (m := 0) (Nat.zero_le _),HB.out⟩
set_option maxRecDepth 100000 in
set_option maxHeartbeats 4000000 in
theorem concatAtom (A0 : Option Addr) (c0 : Nat) (l0 : List S46) (A1 : Option Addr) (c1 : Nat) (l1 : List S46) (B : Nat) (w : World)
  (hB0 : w.cell? ⟨B,0,none⟩ = some (.slice A0 l0.length c0)) (hB1 : w.cell? ⟨B,1,none⟩ = some (.slice A1 l1.length c1)) (h0 : Kd.C k46 w A0 l0.length l0) (h1 : Kd.C k46 w A1 l1.length l1) (hl0 : l0.length ≤ 100000000) (hl1 : l1.length ≤ 100000000) :
  Calls Tryz.prog 65 #[.slice (some ⟨B,0,none⟩) 2 2] w fun e w' => ∃ v,e = .returned v ∧ Kd.R k46 46 w' w.heap.size (fun _ => True) v (l0 ++ l1) ∧ Below w.heap.size w w' := by
 have n1 : decide (((l0.length : Nat) : Int) < 0) = false := decide_eq_false (by omega)
 have n2 : decide (((l0.length : Nat) : Int) + ((l1.length : Nat) : Int) < 0) = false := decide_eq_false (by omega)
 have q0 : (0 : Int) ≤ (l0.length : Int) := by omega
 have q1 : (l0.length : Int) ≤ 100000000 := by omega
 have q2 : (0 : Int) ≤ (l1.length : Int) := by omega
 have q3 : (l1.length : Int) ≤ 100000000 := by omega
 have H0 := Aside0.mk h0
 have H1 := Aside0.mk h1
 have L0 := Aside0.mk hl0
 have L1 := Aside0.mk hl1
 have C0 := Aside0.mk hB0
 have C1 := Aside0.mk hB1
 clear h0 h1 hl0 hl1
 go_enter Tryz.func65,Tryz.ntmps65
 go_wp2
 (refine wp_loop_rounds 3 ?_;repeat any_goals (rw [rounds_succ];go_wp2_with (go_at_call 88;refine (growAtom _ (by omega) (by omega) _).mono ?_;rintro e w1 ⟨v1,rfl,hR,hb⟩;have HR1 := Aside0.mk hR;have HB1 := Aside0.mk hb;have g0 := (hb.cell (World.block_lt_of_cell? _ _ hB0)).trans hB0;have g1 := (hb.cell (World.block_lt_of_cell? _ _ hB1)).trans hB1;clear hR hb)))
 (refine wp_loop_rounds 3 ?_;repeat any_goals (rw [rounds_succ];go_wp2_with (first
  | (at_builtin;refine Kd.R_append_rows k46 (w0 := w) w.heap.size rfl _ _ 35 46 _ 40 rfl Tryz.underlying35 info46 rfl (by decide) (by omega) v2 l0 l1 A1 l1.length c1 (fun _ => True) (fun _ => False) rfl rfl HR2.out (Kd.C_below H1.out HB2.out) (fun _ _ h => h) (fun _ h => h.elim) (fun _ _ => trivial) HB2.out HB2.out.size (by have := L0.out;have := L1.out;omega) ?_;intro v3 w3 hR hB _ _;have HR3 := Aside0.mk hR;have HB3 := Aside0.mk hB;clear hR hB)
  | (at_builtin;refine Kd.R_append_rows k46 (w0 := w) w.heap.size rfl _ _ 35 46 _ 40 rfl Tryz.underlying35 info46 rfl (by decide) (by omega) v1 [] l0 A0 l0.length c0 (fun _ => True) (fun _ => False) rfl rfl HR1.out (Kd.C_below H0.out HB1.out) (fun _ _ h => h) (fun _ h => h.elim) (fun _ _ => trivial) HB1.out HB1.out.size (by have := L0.out;simp;omega) ?_;intro v2 w2 hR hB _ _;rw [List.nil_append] at hR;have HR2 := Aside0.mk hR;have HB2 := Aside0.mk hB;have k0 := (hB.cell (World.block_lt_of_cell? _ _ hB0)).trans hB0;have k1 := (hB.cell (World.block_lt_of_cell? _ _ hB1)).trans hB1;clear hR hB))))
 go_ret
 exact ⟨_,rfl,HR3.out,HB3.out⟩
end Go.Proofs.YtiidmjmkgjfaeaaGreatDoor.PA

namespace Go.Proofs.YtiidmjmkgjfaeaaGreatDoor.Ent
open Go Go.RowKit Go.Shelf Go.Proofs.YtiidmjmkgjfaeaaGreatDoorW.PrintWords Go.Proofs.YtiidmjmkgjfaeaaGreatDoor.PA Go.Proofs.YtiidmjmkgjfaeaaGreatDoor.Pure
set_option linter.unusedVariables false
set_option linter.unusedSimpArgs false
def QB (w : World) (f : Nat) (args : Array Value) (r : Value) : Prop := ∀ W,Below w.heap.size w W → Calls Tryz.prog f args W fun e w' => e = .returned r ∧ Below W.heap.size W w'
theorem QB.at_ {w W : World} {f : Nat} {args : Array Value} {r : Value} (h : QB w f args r) (hb : Below w.heap.size w W) : Calls Tryz.prog f args W fun e w' => e = .returned r ∧ Below w.heap.size w w' :=
 (h W hb).mono (fun e w' ⟨h1,h2⟩ => ⟨h1,hb.trans (h2.mono hb.size)⟩)
theorem QB.later {w W : World} {f : Nat} {args : Array Value} {r : Value} (h : QB w f args r) (hb : Below w.heap.size w W) : QB W f args r := fun W2 hb2 => h W2 (hb.trans (hb2.mono hb.size))
abbrev KA : Kd S46 := k46
abbrev KG : Kd (List S46) := Kd.slice 46 k46
variable {w : World} (hG : GL w)
include hG
theorem qb_name (s : ByteArray) (hs : s.size ≤ 1000000) : QB w 76 #[.string s] (.bool (nameV (bs s))) := fun W hb => by
 obtain ⟨k,hk⟩ := Name_f (bs s) (by rw [bs_len];omega)
 have := hk k (Nat.le_refl _)
 rw [mk_bs] at this
 exact relation_Name.calls k s _ W (hG.below hb) this
omit hG in
theorem eplain_f (s : Bs) : Ev (fun k => entry_plain.f k (mk s)) (plainV s) := by
 have h := plain_f s
 simp only [relation_plain.f] at h
 simp only [entry_plain.f]
 exact h
theorem qb_plain (s : ByteArray) : QB w 77 #[.string s] (.bool (plainV (bs s))) := fun W hb => by
 obtain ⟨k,hk⟩ := eplain_f (bs s)
 have := hk k (Nat.le_refl _)
 rw [mk_bs] at this
 exact entry_plain.calls k s _ W (hG.below hb) this
theorem qb_dright (A : Option Addr) (c : Nat) (l : List (List S46)) (h : SmL l) (hr : Kd.C KG w A l.length l) (hc : l.length ≤ c) : QB w 78 #[.slice A l.length c] (.bool (rightL l)) := fun W hb => by
 obtain ⟨k,hk⟩ := h.right
 exact depends_Right.calls k A c l _ W (hG.below hb) (Kd.C_below hr hb) hc (hk k (Nat.le_refl _))
theorem qb_dprint (A : Option Addr) (c : Nat) (l : List (List S46)) (h : SmL l) (hr : Kd.C KG w A l.length l) (hc : l.length ≤ c) : QB w 82 #[.slice A l.length c] (.string (mk (printL l))) := fun W hb => by
 obtain ⟨k,hk⟩ := h.print
 exact depends_Print.calls k A c l _ W (hG.below hb) (Kd.C_below hr hb) hc (hk k (Nat.le_refl _))
theorem qb_djoin (A : Option Addr) (c : Nat) (l : List S46) (hl : l.length ≤ 40) (hs : ∀ x ∈ l,smS x) (hr : Kd.C KA w A l.length l) (hc : l.length ≤ c) : QB w 83 #[.slice A l.length c] (.string (mk (printL (ones l)))) := fun W hb => by
 obtain ⟨k,hk⟩ := DJoin_f l hl hs
 exact depends_Join.calls k A c l _ W (hG.below hb) (Kd.C_below hr hb) hc (hk k (Nat.le_refl _))
omit hG in
def givesS (x y : S46) : Bool := givesV (bs x.f0) x.f1 (bs x.f2) (bs y.f0) y.f1 (bs y.f2)
theorem qb_prov (x y : S46) : QB w 51 #[.agg #[.string x.f0,.int .i64 x.f1,.string x.f2],.agg #[.string y.f0,.int .i64 y.f1,.string y.f2]] (.bool (givesS x y)) := fun W hb => by
 obtain ⟨k,hk⟩ := Provides_f (bs x.f0) x.f1 (bs x.f2) (bs y.f0) y.f1 (bs y.f2)
 have := hk k (Nat.le_refl _)
 simp only [mk_bs] at this
 exact relation_Provides.calls k x.f0 x.f1 x.f2 y.f0 y.f1 y.f2 _ W (hG.below hb) this
theorem qb_rright (x : S46) (h : smS x) : QB w 80 #[.agg #[.string x.f0,.int .i64 x.f1,.string x.f2]] (.bool (rightS x)) := fun W hb => by
 obtain ⟨k,hk⟩ := RightS_f x h
 exact relation_Right.calls k x.f0 x.f1 x.f2 _ W (hG.below hb) (hk k (Nat.le_refl _))
omit hG in
def givenB (x : S46) : Bool := decide (x.f1 = 0) || decide (x.f1 = 3)
theorem qb_given (x : S46) : QB w 81 #[.agg #[.string x.f0,.int .i64 x.f1,.string x.f2]] (.bool (givenB x)) := fun W hb => by
 refine entry_given.calls x.f0 x.f1 x.f2 _ W (hG.below hb) ?_
 unfold entry_given.f givenB
 by_cases h : x.f1 = 0
 ·rw [if_pos h,decide_eq_true h,Bool.true_or]
 ·rw [if_neg h,decide_eq_false h,Bool.false_or]
  rfl
omit hG in
theorem qb_get (A : Option Addr) (c : Nat) (l : List S92) (n : ByteArray) (hr : Kd.C k92 w A l.length l) (hl : l.length < 1000000000000) : QB w 146 #[.slice A l.length c,.string n] (.tuple #[.string (getV n l).1,.bool (getV n l).2]) := fun W hb =>
 stanza_Get_calls A c l n W (Kd.C_below hr hb) hl
end Go.Proofs.YtiidmjmkgjfaeaaGreatDoor.Ent

namespace Go.Proofs.YtiidmjmkgjfaeaaGreatDoor.Ent
open Go Go.RowKit Go.Shelf Go.Proofs.YtiidmjmkgjfaeaaGreatDoorW.PrintWords Go.Proofs.YtiidmjmkgjfaeaaGreatDoor.PA Go.Proofs.YtiidmjmkgjfaeaaGreatDoor.Pure
set_option linter.unusedVariables false
set_option linter.unusedSimpArgs false
abbrev E6 := S37
structure EA where
 A2 : Option Addr
 c2 : Nat
 A3 : Option Addr
 c3 : Nat
 A4 : Option Addr
 c4 : Nat
 A5 : Option Addr
 c5 : Nat
abbrev ecs (e : E6) (a : EA) : Array Value := #[.string e.f0,.string e.f1,.slice a.A2 e.f2.length a.c2,.slice a.A3 e.f3.length a.c3,.slice a.A4 e.f4.length a.c4,.slice a.A5 e.f5.length a.c5]
structure EC (w : World) (e : E6) (a : EA) : Prop where
 r2 : Kd.C KG w a.A2 e.f2.length e.f2
 k2 : e.f2.length ≤ a.c2
 r3 : Kd.C KG w a.A3 e.f3.length e.f3
 k3 : e.f3.length ≤ a.c3
 r4 : Kd.C KA w a.A4 e.f4.length e.f4
 k4 : e.f4.length ≤ a.c4
 r5 : Kd.C KA w a.A5 e.f5.length e.f5
 k5 : e.f5.length ≤ a.c5
theorem EC.below {w W : World} {e : E6} {a : EA} (h : EC w e a) (hb : Below w.heap.size w W) : EC W e a :=
 ⟨Kd.C_below h.r2 hb,h.k2,Kd.C_below h.r3 hb,h.k3,Kd.C_below h.r4 hb,h.k4,Kd.C_below h.r5 hb,h.k5⟩
structure SmE (e : E6) : Prop where
 s0 : e.f0.size ≤ 2000
 s1 : e.f1.size ≤ 2000
 s2 : SmL e.f2
 s3 : SmL e.f3
 l4 : e.f4.length ≤ 40
 s4 : ∀ x ∈ e.f4,smS x
 l5 : e.f5.length ≤ 40
 s5 : ∀ x ∈ e.f5,smS x
theorem ecs_cells {W : World} {D : Nat} {T : TypeId} {e : E6} {a : EA} (h : W.heap[D]? = some (.cells (ecs e a) T (0,0))) :
  W.cell? ⟨D,0,none⟩ = some (.string e.f0) ∧ W.cell? ⟨D,1,none⟩ = some (.string e.f1) ∧ W.cell? ⟨D,2,none⟩ = some (.slice a.A2 e.f2.length a.c2) ∧ W.cell? ⟨D,3,none⟩ = some (.slice a.A3 e.f3.length a.c3) ∧ W.cell? ⟨D,4,none⟩ = some (.slice a.A4 e.f4.length a.c4) ∧ W.cell? ⟨D,5,none⟩ = some (.slice a.A5 e.f5.length a.c5) := by
 refine ⟨?_,?_,?_,?_,?_,?_⟩ <;> simp [World.cell?,h]
def givesE (e : E6) : List S46 := ⟨e.f0,3,e.f1⟩ :: e.f5
theorem C_single {W : World} {b : Nat} {ty : TypeId} {x : S46} (hb : W.heap[b]? = some (.cells #[.string x.f0,.int .i64 x.f1,.string x.f2] ty (0,0))) : KA.C W (some ⟨b,0,none⟩) 1 [x] := by
 refine ⟨rfl,by omega,fun _ => ⟨⟨b,0,none⟩,rfl,fun j p hj => ?_⟩⟩
 match j,hj with
 | 0,hj =>
  obtain rfl : x = p := by simpa using hj
  refine ⟨_,rfl,k46_mk W x,fun i u hi => ?_⟩
  rw [Addr.add_lit,Nat.zero_mul,Nat.zero_add,Nat.zero_add]
  have hi : #[Value.string x.f0,.int .i64 x.f1,.string x.f2][i]? = some u := by simpa using hi
  simp only [World.cell?,hb]
  exact hi
set_option maxRecDepth 100000 in
theorem gives_calls {w : World} {e : E6} {a : EA} (h : EC w e a) (hl : e.f5.length ≤ 100000000) :
  Calls Tryz.prog 44 #[.agg (ecs e a)] w fun en w' => ∃ v,en = .returned v ∧ Kd.R KA 46 w' w.heap.size (fun _ => True) v (givesE e) ∧ Below w.heap.size w w' := by
 obtain ⟨W,hW⟩ : ∃ W,((w.alloc (.cells (ecs e a) 37)).alloc (.cells #[.string e.f0,.int .i64 3,.string e.f1] 46)).alloc (.cells #[.slice (some ⟨w.heap.size + 1,0,none⟩) 1 1,.slice a.A5 e.f5.length a.c5] 35) = W := ⟨_,rfl⟩
 have hb : Below w.heap.size w W := by rw [← hW];exact qab (qab (qab (Below.refl _ _) _) _) _
 have e1 : (w.alloc (.cells (ecs e a) 37)).heap.size = w.heap.size + 1 := by simp
 have e2 : ((w.alloc (.cells (ecs e a) 37)).alloc (.cells #[.string e.f0,.int .i64 3,.string e.f1] 46)).heap.size = w.heap.size + 2 := by simp
 have g1 : W.heap[w.heap.size + 1]? = some (.cells #[.string e.f0,.int .i64 3,.string e.f1] 46 (0,0)) := by
  rw [← hW]
  refine (Below.heap_alloc _ _ _ (by rw [e2];omega)).trans ?_
  have := World.alloc_heap_new (w.alloc (.cells (ecs e a) 37)) (.cells #[.string e.f0,.int .i64 3,.string e.f1] 46)
  rwa [e1] at this
 have g2 : W.heap[w.heap.size + 2]? = some (.cells #[.slice (some ⟨w.heap.size + 1,0,none⟩) 1 1,.slice a.A5 e.f5.length a.c5] 35 (0,0)) := by
  rw [← hW]
  have := World.alloc_heap_new ((w.alloc (.cells (ecs e a) 37)).alloc (.cells #[.string e.f0,.int .i64 3,.string e.f1] 46)) (.cells #[.slice (some ⟨w.heap.size + 1,0,none⟩) 1 1,.slice a.A5 e.f5.length a.c5] 35)
  rwa [e2] at this
 have hc := concatAtom (some ⟨w.heap.size + 1,0,none⟩) 1 [⟨e.f0,3,e.f1⟩] a.A5 a.c5 e.f5 (w.heap.size + 2) W (by simp [World.cell?,g2]) (by simp [World.cell?,g2]) (C_single (x := ⟨e.f0,3,e.f1⟩) g1) (Kd.C_below h.r5 hb) (by simp) hl
 have HC := Aside0.mk hc
 have HB := Aside0.mk hb
 clear h hl hb e1 e2 g1 g2 hc
 go_enter Tryz.func44,Tryz.ntmps44
 go_wp2_with (go_at_call 65;refine HC.out.mono ?_;rintro en w' ⟨v,rfl,hR,hb'⟩)
 go_ret
 exact ⟨_,rfl,Kd.R_lower hR HB.out.size,HB.out.trans (hb'.mono HB.out.size)⟩
end Go.Proofs.YtiidmjmkgjfaeaaGreatDoor.Ent

namespace Go.Proofs.YtiidmjmkgjfaeaaGreatDoor.Ent
open Go Go.RowKit Go.Shelf Go.Proofs.YtiidmjmkgjfaeaaGreatDoorW.PrintWords Go.Proofs.YtiidmjmkgjfaeaaGreatDoor.PA Go.Proofs.YtiidmjmkgjfaeaaGreatDoor.Pure
set_option linter.unusedVariables false
set_option linter.unusedSimpArgs false
theorem ecs_keep {W W' : World} {D : Nat} {T : TypeId} {e : E6} {a : EA} (h : W.heap[D]? = some (.cells (ecs e a) T (0,0))) (hb : Below W.heap.size W W') : W'.heap[D]? = some (.cells (ecs e a) T (0,0)) :=
 (hb.block _ (Array.getElem?_eq_some_iff.1 h).1).trans h
theorem two_boxes (w : World) (a b : E6) (p q : EA) (T : TypeId) : ((w.alloc (.cells (ecs a p) T)).alloc (.cells (ecs b q) T)).heap[w.heap.size]? = some (.cells (ecs a p) T (0,0)) ∧ ((w.alloc (.cells (ecs a p) T)).alloc (.cells (ecs b q) T)).heap[w.heap.size + 1]? = some (.cells (ecs b q) T (0,0)) := by
 have e1 : (w.alloc (.cells (ecs a p) T)).heap.size = w.heap.size + 1 := by simp
 refine ⟨(Below.heap_alloc _ _ _ (by rw [e1];omega)).trans (World.alloc_heap_new w _),?_⟩
 have := World.alloc_heap_new (w.alloc (.cells (ecs a p) T)) (.cells (ecs b q) T)
 rwa [e1] at this
theorem every1_pred {w : World} (q : S46 → Bool) (g : Nat) (eg : ∀ args w,(callFunc g args).run Tryz.prog w = .ok (.enter g args) w) (l : List S46) (hso : ∀ x ∈ l,QB w g #[.agg #[.string x.f0,.int .i64 x.f1,.string x.f2]] (.bool (q x))) (D : Nat) (hD : w.cell? ⟨D,0,none⟩ = some (.func (.func g) #[] #[])) :
  PredP KA (fun x => !q x) 110 #[.pointer (some ⟨D,0,none⟩)] w l := by
 intro W x cs hb hm hK
 obtain rfl := k46_open hK
 have gD := (hb.cell (World.block_lt_of_cell? _ _ hD)).trans hD
 have hDW : D < W.heap.size := World.block_lt_of_cell? _ _ gD
 have hne : D ≠ W.heap.size := by omega
 have HS := Aside0.mk (hso x hm)
 clear hK hD hso hm
 show Calls Tryz.prog 110 #[.agg #[.string x.f0,.int .i64 x.f1,.string x.f2],.pointer (some ⟨D,0,none⟩)] W _
 go_enter Tryz.func110,Tryz.ntmps110
 go_wp2_with (go_at_fn g;refine (HS.out.at_ (qab hb _)).mono ?_;rintro e w' ⟨rfl,hb'⟩)
 go_ret
 exact ⟨rfl,hb'⟩
theorem every_calls {w : World} (q : S46 → Bool) (g : Nat) (eg : ∀ args w,(callFunc g args).run Tryz.prog w = .ok (.enter g args) w) (A : Option Addr) (c : Nat) (l : List S46) (hso : ∀ x ∈ l,QB w g #[.agg #[.string x.f0,.int .i64 x.f1,.string x.f2]] (.bool (q x))) (hr : Kd.C KA w A l.length l) (hl : l.length < 1000000000000) :
  Calls Tryz.prog 79 #[.slice A l.length c,.func (.func g) #[] #[]] w fun e w' => e = .returned (.bool (l.all q)) ∧ Below w.heap.size w w' := by
 obtain ⟨W,hW⟩ : ∃ W,w.alloc (.cells #[.func (.func g) #[] #[]] 73) = W := ⟨_,rfl⟩
 have hb : Below w.heap.size w W := by rw [← hW];exact qab (Below.refl _ _) _
 have hD : W.cell? ⟨w.heap.size,0,none⟩ = some (.func (.func g) #[] #[]) := by rw [← hW,World.cell?_alloc_new];rfl
 have hI := containsAtom (fun x => !q x) 110 #[.pointer (some ⟨w.heap.size,0,none⟩)] (enters_of Tryz.func110 (by kernel_rfl) rfl) W A c l (every1_pred q g eg l (fun x hx => (hso x hx).later hb) w.heap.size hD) (Kd.C_below hr hb) hl
 have ea : l.all q = !(l.any fun x => !q x) := by rw [List.not_any_eq_all_not];congr 1;funext x;simp
 rw [ea]
 have HI := Aside0.mk hI
 have HB := Aside0.mk hb
 clear hI hr hl hD hb hso ea
 go_enter Tryz.func79,Tryz.ntmps79
 go_wp2_with (go_at_call 49;refine HI.out.mono ?_;rintro e w' ⟨rfl,hb'⟩)
 go_ret
 exact ⟨rfl,HB.out.trans (hb'.mono HB.out.size)⟩
end Go.Proofs.YtiidmjmkgjfaeaaGreatDoor.Ent

namespace Go.Proofs.YtiidmjmkgjfaeaaGreatDoor.Ent
open Go Go.RowKit Go.Shelf Go.Proofs.YtiidmjmkgjfaeaaGreatDoorW.PrintWords Go.Proofs.YtiidmjmkgjfaeaaGreatDoor.PA Go.Proofs.YtiidmjmkgjfaeaaGreatDoor.Pure
set_option linter.unusedVariables false
set_option linter.unusedSimpArgs false
def rightE (e : E6) : Bool := nameV (bs e.f0) && (plainV (bs e.f1) && (rightL e.f2 && (rightL e.f3 && (decide ((e.f4.length : Int) ≤ 12) && (e.f4.all rightS && (decide ((e.f5.length : Int) ≤ 8) && (e.f5.all rightS && e.f5.all givenB)))))))
theorem one_box (w : World) (a : E6) (p : EA) (T : TypeId) : (w.alloc (.cells (ecs a p) T)).heap[w.heap.size]? = some (.cells (ecs a p) T (0,0)) := World.alloc_heap_new w _
theorem qb_every {w : World} (q : S46 → Bool) (g : Nat) (eg : ∀ args w,(callFunc g args).run Tryz.prog w = .ok (.enter g args) w) (A : Option Addr) (c : Nat) (l : List S46) (hso : ∀ x ∈ l,QB w g #[.agg #[.string x.f0,.int .i64 x.f1,.string x.f2]] (.bool (q x))) (hr : Kd.C KA w A l.length l) (hl : l.length < 1000000000000) :
  QB w 79 #[.slice A l.length c,.func (.func g) #[] #[]] (.bool (l.all q)) := fun W hb => every_calls q g eg A c l (fun x hx => (hso x hx).later hb) (Kd.C_below hr hb) hl
set_option maxRecDepth 100000 in
set_option maxHeartbeats 4000000 in
theorem right_calls {w : World} (hG : GL w) {e : E6} {a : EA} (h : EC w e a) (s : SmE e) :
  Calls Tryz.prog 61 #[.agg (ecs e a)] w fun en w' => en = .returned (.bool (rightE e)) ∧ Below w.heap.size w w' := by
 have z0 := one_box w e a 37
 obtain ⟨W,hW⟩ : ∃ W,w.alloc (.cells (ecs e a) 37) = W := ⟨_,rfl⟩
 have hbW : Below w.heap.size w W := by rw [← hW];exact qab (Below.refl _ _) _
 rw [hW] at z0
 have hGW := hG.below hbW
 have hW' := h.below hbW
 have H1 := Aside0.mk (qb_name hGW e.f0 (by have := s.s0;omega))
 have H2 := Aside0.mk (qb_plain hGW e.f1)
 have H3 := Aside0.mk (qb_dright hGW a.A2 a.c2 e.f2 s.s2 hW'.r2 hW'.k2)
 have H4 := Aside0.mk (qb_dright hGW a.A3 a.c3 e.f3 s.s3 hW'.r3 hW'.k3)
 have H5 := Aside0.mk (qb_every rightS 80 (enters_of Tryz.func80 (by kernel_rfl) rfl) a.A4 a.c4 e.f4 (fun x hx => qb_rright hGW x (s.s4 x hx)) hW'.r4 (by have := s.l4;omega))
 have H6 := Aside0.mk (qb_every rightS 80 (enters_of Tryz.func80 (by kernel_rfl) rfl) a.A5 a.c5 e.f5 (fun x hx => qb_rright hGW x (s.s5 x hx)) hW'.r5 (by have := s.l5;omega))
 have H7 := Aside0.mk (qb_every givenB 81 (enters_of Tryz.func81 (by kernel_rfl) rfl) a.A5 a.c5 e.f5 (fun x hx => qb_given hGW x) hW'.r5 (by have := s.l5;omega))
 obtain ⟨x0,x1,x2,x3,x4,x5⟩ := ecs_cells z0
 have Z0 := Aside0.mk z0
 have HB := Aside0.mk hbW
 unfold rightE
 obtain ⟨b1,h1⟩ : ∃ b,nameV (bs e.f0) = b := ⟨_,rfl⟩
 obtain ⟨b2,h2⟩ : ∃ b,plainV (bs e.f1) = b := ⟨_,rfl⟩
 obtain ⟨b3,h3⟩ : ∃ b,rightL e.f2 = b := ⟨_,rfl⟩
 obtain ⟨b4,h4⟩ : ∃ b,rightL e.f3 = b := ⟨_,rfl⟩
 obtain ⟨b5,h5⟩ : ∃ b,e.f4.all rightS = b := ⟨_,rfl⟩
 obtain ⟨b6,h6⟩ : ∃ b,e.f5.all rightS = b := ⟨_,rfl⟩
 obtain ⟨b7,h7⟩ : ∃ b,e.f5.all givenB = b := ⟨_,rfl⟩
 obtain ⟨c5,q12⟩ : ∃ b,decide ((e.f4.length : Int) ≤ 12) = b := ⟨_,rfl⟩
 obtain ⟨c6,q8⟩ : ∃ b,decide ((e.f5.length : Int) ≤ 8) = b := ⟨_,rfl⟩
 rw [q12,q8]
 rw [h1] at H1 ⊢
 rw [h2] at H2 ⊢
 rw [h3] at H3 ⊢
 rw [h4] at H4 ⊢
 rw [h5] at H5 ⊢
 rw [h6] at H6 ⊢
 rw [h7] at H7 ⊢
 clear h1 h2 h3 h4 h5 h6 h7 z0 hbW hW' hGW h s hG
 cases b1
 case' true => cases b2
 case' true.true => cases b3
 case' true.true.true => cases b4
 case' true.true.true.true => cases c5
 case' true.true.true.true.true => cases b5
 case' true.true.true.true.true.true => cases c6
 case' true.true.true.true.true.true.true => cases b6
 all_goals
  go_enter Tryz.func61,Tryz.ntmps61
  go_wp2_with (first
   | (go_at_call 79;refine (H7.out.at_ h6).mono ?_;rintro en w7 ⟨rfl,h7⟩)
   | (go_at_call 79;refine (H6.out.at_ h5).mono ?_;rintro en w6 ⟨rfl,h6⟩;clear x0 x1 x2 x3 x4 x5;obtain ⟨x0,x1,x2,x3,x4,x5⟩ := ecs_cells (ecs_keep Z0.out h6))
   | (go_at_call 79;refine (H5.out.at_ h4).mono ?_;rintro en w5 ⟨rfl,h5⟩;clear x0 x1 x2 x3 x4 x5;obtain ⟨x0,x1,x2,x3,x4,x5⟩ := ecs_cells (ecs_keep Z0.out h5))
   | (go_at_call 78;refine (H4.out.at_ h3).mono ?_;rintro en w4 ⟨rfl,h4⟩;clear x0 x1 x2 x3 x4 x5;obtain ⟨x0,x1,x2,x3,x4,x5⟩ := ecs_cells (ecs_keep Z0.out h4))
   | (go_at_call 78;refine (H3.out.at_ h2).mono ?_;rintro en w3 ⟨rfl,h3⟩;clear x0 x1 x2 x3 x4 x5;obtain ⟨x0,x1,x2,x3,x4,x5⟩ := ecs_cells (ecs_keep Z0.out h3))
   | (go_at_call 77;refine (H2.out.at_ h1).mono ?_;rintro en w2 ⟨rfl,h2⟩;clear x0 x1 x2 x3 x4 x5;obtain ⟨x0,x1,x2,x3,x4,x5⟩ := ecs_cells (ecs_keep Z0.out h2))
   | (go_at_call 76;refine (H1.out.at_ (Below.refl _ _)).mono ?_;rintro en w1 ⟨rfl,h1⟩;clear x0 x1 x2 x3 x4 x5;obtain ⟨x0,x1,x2,x3,x4,x5⟩ := ecs_cells (ecs_keep Z0.out h1)))
  go_ret
  refine ⟨rfl,HB.out.trans (Below.mono ?_ HB.out.size)⟩
  assumption
end Go.Proofs.YtiidmjmkgjfaeaaGreatDoor.Ent

