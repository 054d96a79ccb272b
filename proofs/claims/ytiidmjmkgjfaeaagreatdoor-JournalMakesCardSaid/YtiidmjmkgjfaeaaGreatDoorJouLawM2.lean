import Derived.Test.YtiidmjmkgjfaeaaGreatDoorHeRight
import Derived.Test.YtiidmjmkgjfaeaaGreatDoorPAx10
import Derived.Test.YtiidmjmkgjfaeaaGreatDoorPAx9
import Derived.Test.YtiidmjmkgjfaeaaGreatDoorPAx11
import Derived.Test.YtiidmjmkgjfaeaaGreatDoorJouPlan
import GoSem.Op.String
import Derived.Test.YtiidmjmkgjfaeaaGreatDoorPAx12
import Derived.Test.YtiidmjmkgjfaeaaGreatDoorHeOps3
namespace Go.Proofs.YtiidmjmkgjfaeaaGreatDoor.Ent
open Go Go.RowKit Go.Shelf Go.Proofs.YtiidmjmkgjfaeaaGreatDoorW.PrintWords Go.Proofs.YtiidmjmkgjfaeaaGreatDoor.PA Go.Proofs.YtiidmjmkgjfaeaaGreatDoor.Pure
set_option linter.unusedVariables false
set_option linter.unusedSimpArgs false
def lightV6 (a : List S46) : Bool := decide (a.length ≤ 20) && a.all (fun x => decide (x.f0.size ≤ 100) && decide (x.f2.size ≤ 100))
theorem light6_l0 (a : List S46) (hl : a.length ≤ 20) : ∀ (n i : Nat),n + i = a.length → Ev (fun k => keelsonlaw22_light.l0 k a (i : Int)) ((a.drop i).all (fun x => decide (x.f0.size ≤ 100) && decide (x.f2.size ≤ 100)))
 | 0,i,h => by
  rw [List.drop_of_length_le (by omega)]
  refine Ev.shift ?_
  simp only [keelsonlaw22_light.l0]
  exact Ev.neg (by omega) (Ev.some_ _)
 | n + 1,i,h => by
  have hi : i < a.length := by omega
  rw [List.drop_eq_getElem_cons hi,List.all_cons]
  refine Ev.shift ?_
  simp only [keelsonlaw22_light.l0,rdT a i hi]
  refine Ev.pos (by omega) (Ev.pos (by omega) ?_)
  by_cases h1 : (a[i].f0.size : Int) > 100
  ·rw [decide_eq_false (show ¬ a[i].f0.size ≤ 100 by omega)]
   exact Ev.pos h1 (Ev.eq_ (by simp))
  ·refine Ev.neg h1 ?_
   rw [decide_eq_true (show a[i].f0.size ≤ 100 by omega)]
   by_cases h2 : (a[i].f2.size : Int) > 100
   ·rw [decide_eq_false (show ¬ a[i].f2.size ≤ 100 by omega)]
    exact Ev.pos h2 (Ev.eq_ (by simp))
   ·rw [decide_eq_true (show a[i].f2.size ≤ 100 by omega),Bool.true_and,Bool.true_and,wrap_succ i (by omega)]
    exact Ev.neg h2 (light6_l0 a hl n (i + 1) (by omega))
theorem light6_f (a : List S46) : Ev (fun k => keelsonlaw22_light.f k a) (lightV6 a) := by
 simp only [keelsonlaw22_light.f]
 unfold lightV6
 by_cases h : (a.length : Int) > 20
 ·rw [decide_eq_false (show ¬ a.length ≤ 20 by omega)]
  exact Ev.pos h (Ev.eq_ (by simp))
 ·rw [decide_eq_true (show a.length ≤ 20 by omega),Bool.true_and]
  refine Ev.neg h ?_
  have := light6_l0 a (by omega) a.length 0 (by omega)
  simpa using this
theorem lightV6_true {a : List S46} (h : lightV6 a = true) : a.length ≤ 20 ∧ ∀ x ∈ a,smS x := by
 unfold lightV6 at h
 rw [Bool.and_eq_true] at h
 refine ⟨of_decide_eq_true h.1,fun x hx => ?_⟩
 have := List.all_eq_true.1 h.2 x hx
 rw [Bool.and_eq_true] at this
 have h1 := of_decide_eq_true this.1
 have h2 := of_decide_eq_true this.2
 exact ⟨by omega,by omega⟩
def smallV6 (e : E6) : Bool := lightV6 e.f4 && (lightV6 e.f5 && (decide (e.f0.size ≤ 100) && (decide (e.f1.size ≤ 100) && (decide (e.f2.length ≤ 15) && (decide (e.f3.length ≤ 15) && (e.f2.all lightV6 && e.f3.all lightV6))))))
theorem small6_l1 (e : E6) (hl : e.f3.length ≤ 15) : ∀ (n i : Nat),n + i = e.f3.length → Ev (fun k => keelsonlaw22_fine.l1 k (i : Int) e.f0 e.f1 e.f2 e.f3 e.f4 e.f5) ((e.f3.drop i).all lightV6)
 | 0,i,h => by
  rw [List.drop_of_length_le (by omega)]
  refine Ev.shift ?_
  simp only [keelsonlaw22_fine.l1]
  exact Ev.neg (by omega) (Ev.some_ _)
 | n + 1,i,h => by
  have hi : i < e.f3.length := by omega
  rw [List.drop_eq_getElem_cons hi,List.all_cons]
  refine Ev.shift ?_
  simp only [keelsonlaw22_fine.l1,rdL e.f3 i hi]
  refine Ev.pos (by omega) (Ev.pos (by omega) (Ev.bind (light6_f _) ?_))
  cases lightV6 e.f3[i] with
  | false => exact Ev.neg (by simp) (Ev.eq_ (by simp))
  | true =>
   rw [Bool.true_and,wrap_succ i (by omega)]
   exact Ev.pos rfl (small6_l1 e hl n (i + 1) (by omega))
theorem small6_l0 (e : E6) (hl : e.f2.length ≤ 15) (hl3 : e.f3.length ≤ 15) : ∀ (n i : Nat),n + i = e.f2.length → Ev (fun k => keelsonlaw22_fine.l0 k (i : Int) e.f0 e.f1 e.f2 e.f3 e.f4 e.f5) ((e.f2.drop i).all lightV6 && e.f3.all lightV6)
 | 0,i,h => by
  rw [List.drop_of_length_le (by omega)]
  refine Ev.shift ?_
  simp only [keelsonlaw22_fine.l0]
  have := small6_l1 e hl3 e.f3.length 0 (by omega)
  rw [List.drop_zero] at this
  exact Ev.neg (by omega) (by simpa using this)
 | n + 1,i,h => by
  have hi : i < e.f2.length := by omega
  rw [List.drop_eq_getElem_cons hi,List.all_cons]
  refine Ev.shift ?_
  simp only [keelsonlaw22_fine.l0,rdL e.f2 i hi]
  refine Ev.pos (by omega) (Ev.pos (by omega) (Ev.bind (light6_f _) ?_))
  cases lightV6 e.f2[i] with
  | false => exact Ev.neg (by simp) (Ev.eq_ (by simp))
  | true =>
   rw [Bool.true_and,wrap_succ i (by omega)]
   exact Ev.pos rfl (small6_l0 e hl hl3 n (i + 1) (by omega))
theorem small6_f (e : E6) : Ev (fun k => keelsonlaw22_fine.f k e.f0 e.f1 e.f2 e.f3 e.f4 e.f5) (smallV6 e) := by
 have bad : Ev (fun k => keelsonlaw22_fine.j0 k true e.f0 e.f1 e.f2 e.f3 e.f4 e.f5) false := by
  refine Ev.shift ?_
  simp only [keelsonlaw22_fine.j0]
  exact Ev.pos trivial (Ev.some_ _)
 simp only [keelsonlaw22_fine.f]
 unfold smallV6
 refine Ev.bind (light6_f e.f4) (Ev.bind (light6_f e.f5) ?_)
 cases lightV6 e.f4 with
 | false => exact Ev.neg (by simp) bad
 | true =>
  refine Ev.pos rfl ?_
  cases lightV6 e.f5 with
  | false => exact Ev.neg (by simp) bad
  | true =>
   refine Ev.pos rfl ?_
   simp only [Bool.true_and]
   by_cases h0 : (e.f0.size : Int) > 100
   ·rw [decide_eq_false (show ¬ e.f0.size ≤ 100 by omega),Bool.false_and];exact Ev.pos h0 bad
   refine Ev.neg h0 ?_
   rw [decide_eq_true (show e.f0.size ≤ 100 by omega),Bool.true_and]
   by_cases h1 : (e.f1.size : Int) > 100
   ·rw [decide_eq_false (show ¬ e.f1.size ≤ 100 by omega),Bool.false_and];exact Ev.pos h1 bad
   refine Ev.neg h1 ?_
   rw [decide_eq_true (show e.f1.size ≤ 100 by omega),Bool.true_and]
   by_cases h2 : (e.f2.length : Int) > 15
   ·rw [decide_eq_false (show ¬ e.f2.length ≤ 15 by omega),Bool.false_and];exact Ev.pos h2 bad
   refine Ev.neg h2 ?_
   rw [decide_eq_true (show e.f2.length ≤ 15 by omega),Bool.true_and]
   by_cases h3 : (e.f3.length : Int) > 15
   ·rw [decide_eq_false (show ¬ e.f3.length ≤ 15 by omega),Bool.false_and,decide_eq_true h3];exact bad
   rw [decide_eq_true (show e.f3.length ≤ 15 by omega),Bool.true_and,decide_eq_false h3]
   refine Ev.shift ?_
   simp only [keelsonlaw22_fine.j0]
   have := small6_l0 e (by omega) (by omega) e.f2.length 0 (by omega)
   rw [List.drop_zero] at this
   exact Ev.neg (by simp) this
theorem smallV6_true {e : E6} (h : smallV6 e = true) : SmE e ∧ e.f5.length ≤ 20 := by
 unfold smallV6 at h
 simp only [Bool.and_eq_true,decide_eq_true_eq] at h
 obtain ⟨h4,h5,h0,h1,h2,h3,g2,g3⟩ := h
 have l4 := lightV6_true h4
 have l5 := lightV6_true h5
 have k2 := fun g hg => lightV6_true (List.all_eq_true.1 g2 g hg)
 have k3 := fun g hg => lightV6_true (List.all_eq_true.1 g3 g hg)
 exact ⟨⟨by omega,by omega,⟨by omega,fun g hg => by have := (k2 g hg).1;omega,fun g hg => (k2 g hg).2⟩,⟨by omega,fun g hg => by have := (k3 g hg).1;omega,fun g hg => (k3 g hg).2⟩,by omega,l4.2,by omega,l5.2⟩,l5.1⟩
def fineH (h : H8) : Bool := smallV6 h.f0
def smallH (l : List H8) : Bool := decide (l.length ≤ 20) && l.all fineH
theorem rdH (l : List H8) (i : Nat) (h : i < l.length) : rd_T39 l (i : Int) = l[i] := by
 unfold rd_T39
 rw [Int.toNat_natCast,List.getD_eq_getElem?_getD,List.getElem?_eq_getElem h]
 rfl
theorem smallH_l1 (l : List H8) (hl : l.length ≤ 20) : ∀ (n i : Nat),n + i = l.length → Ev (fun k => keelsonlaw22_small.l1 k l (i : Int)) ((l.drop i).all fineH)
 | 0,i,h => by
  rw [List.drop_of_length_le (by omega)]
  refine Ev.shift ?_
  simp only [keelsonlaw22_small.l1]
  exact Ev.neg (by omega) (Ev.some_ _)
 | n + 1,i,h => by
  have hi : i < l.length := by omega
  rw [List.drop_eq_getElem_cons hi,List.all_cons]
  refine Ev.shift ?_
  simp only [keelsonlaw22_small.l1,rdH l i hi]
  refine Ev.pos (by omega) (Ev.pos (by omega) (Ev.bind (small6_f _) ?_))
  unfold fineH
  cases smallV6 l[i].f0 with
  | false => exact Ev.neg (by simp) (Ev.eq_ (by simp))
  | true =>
   rw [Bool.true_and,wrap_succ i (by omega)]
   exact Ev.pos rfl (smallH_l1 l hl n (i + 1) (by omega))
theorem smallH_f (l : List H8) : Ev (fun k => keelsonlaw22_small.f k ([] : List S37) l) (smallH l) := by
 simp only [keelsonlaw22_small.f]
 unfold smallH
 refine Ev.neg (by simp) ?_
 refine Ev.shift ?_
 simp only [keelsonlaw22_small.j0]
 by_cases h : (l.length : Int) > 20
 ·rw [decide_eq_false (show ¬ l.length ≤ 20 by omega),Bool.false_and,decide_eq_true h]
  exact Ev.pos rfl (Ev.some_ _)
 ·rw [decide_eq_true (show l.length ≤ 20 by omega),Bool.true_and,decide_eq_false h]
  refine Ev.neg (by simp) ?_
  refine Ev.shift ?_
  simp only [keelsonlaw22_small.l0]
  refine Ev.neg (by simp) ?_
  have := smallH_l1 l (by omega) l.length 0 (by omega)
  simpa using this
def fewH (l m : List H8) : Bool := smallH l && smallH m
theorem fewH_f (l m : List H8) : Ev (fun k => keelsonlaw22_few.f k l m) (fewH l m) := by
 simp only [keelsonlaw22_few.f]
 unfold fewH
 refine Ev.bind (smallH_f l) (Ev.bind (smallH_f m) ?_)
 cases smallH l with
 | false => exact Ev.neg (by simp) (Ev.some_ _)
 | true => exact Ev.pos rfl (Ev.eq_ (by simp))
theorem smallH_true {l : List H8} (h : smallH l = true) : l.length ≤ 20 ∧ ∀ x ∈ l,SmE x.f0 := by
 unfold smallH at h
 rw [Bool.and_eq_true] at h
 exact ⟨of_decide_eq_true h.1,fun x hx => (smallV6_true (List.all_eq_true.1 h.2 x hx)).1⟩
theorem qb_few {w : World} (hG : GL w) (A : Option Addr) (c : Nat) (l : List H8) (B : Option Addr) (d : Nat) (m : List H8) (hr : KH.C w A l.length l) (hc : l.length ≤ c) (hm : KH.C w B m.length m) (hd : m.length ≤ d) : QB w 7 #[.slice A l.length c,.slice B m.length d] (.bool (fewH l m)) := fun W hb => by
 obtain ⟨k,hk⟩ := fewH_f l m
 exact keelsonlaw22_few.calls k A c l B d m _ W (hG.below hb) (Kd.C_below hr hb) hc (Kd.C_below hm hb) hd (hk k (Nat.le_refl _))
end Go.Proofs.YtiidmjmkgjfaeaaGreatDoor.Ent

namespace Go.Proofs.YtiidmjmkgjfaeaaGreatDoor.Ent
open Go Go.RowKit Go.Shelf Go.Proofs.YtiidmjmkgjfaeaaGreatDoorW.PrintWords Go.Proofs.YtiidmjmkgjfaeaaGreatDoorW.PrintLast Go.Proofs.YtiidmjmkgjfaeaaGreatDoor.PA Go.Proofs.YtiidmjmkgjfaeaaGreatDoor.Pure
set_option linter.unusedVariables false
set_option linter.unusedSimpArgs false
theorem C_one {α : Type} (d : Kd α) {W : World} {b : Nat} {cs : List Value} {ty : TypeId} {x : α} (hb : W.heap[b]? = some (.cells cs.toArray ty (0,0))) (hx : d.K W x cs) : d.C W (some ⟨b,0,none⟩) 1 [x] := by
 refine ⟨rfl,by omega,fun _ => ⟨⟨b,0,none⟩,rfl,fun j p hj => ?_⟩⟩
 match j,hj with
 | 0,hj =>
  obtain rfl : x = p := by simpa using hj
  refine ⟨cs,d.K_len hx,hx,fun i u hi => ?_⟩
  rw [Addr.add_lit,Nat.zero_mul,Nat.zero_add,Nat.zero_add]
  simp [World.cell?,hb,hi]
end Go.Proofs.YtiidmjmkgjfaeaaGreatDoor.Ent


namespace Go.Proofs.YtiidmjmkgjfaeaaGreatDoor.Ent
open Go Go.RowKit Go.Shelf Go.Proofs.YtiidmjmkgjfaeaaGreatDoorW.PrintWords Go.Proofs.YtiidmjmkgjfaeaaGreatDoorW.PrintLast Go.Proofs.YtiidmjmkgjfaeaaGreatDoor.PA Go.Proofs.YtiidmjmkgjfaeaaGreatDoor.Pure
set_option linter.unusedVariables false
set_option linter.unusedSimpArgs false
abbrev St3 := S31
def zP : St3 := z31
theorem sm_zE : SmE zH.f0 := ⟨Nat.zero_le _,Nat.zero_le _,⟨Nat.zero_le _,fun g hg => (nomatch hg),fun g hg => (nomatch hg)⟩,⟨Nat.zero_le _,fun g hg => (nomatch hg),fun g hg => (nomatch hg)⟩,Nat.zero_le _,fun x hx => (nomatch hx),Nat.zero_le _,fun x hx => (nomatch hx)⟩
theorem step_at {w W : World} {A : Option Addr} {P : List St3} (h : KP.C w A P.length P) (hb : Below w.heap.size w W) (k : Nat) (hk : k < P.length) : ∃ ad,A = some ad ∧ W.cell? (ad.add (k * 3)) = some (.int .i64 (P.getD k zP).f0) ∧ W.cell? ⟨(ad.add (k * 3)).block,(ad.add (k * 3)).off + 1,none⟩ = some (.string (P.getD k zP).f1) ∧ W.cell? ⟨(ad.add (k * 3)).block,(ad.add (k * 3)).off + 2,none⟩ = some (.string (P.getD k zP).f2) := by
 obtain ⟨ad,cs,rfl,hcl,hK,hcc⟩ := Kd.C_get h zP (k : Int) (by omega) (by omega)
 rw [Int.toNat_natCast] at hK hcc
 obtain rfl := k31_open hK
 have g : ∀ i u,[Value.int .i64 (P.getD k zP).f0,.string (P.getD k zP).f1,.string (P.getD k zP).f2][i]? = some u → W.cell? (ad.add (k * 3 + i)) = some u := fun i u hu => (hb.cell (World.block_lt_of_cell? _ _ (hcc i u hu))).trans (hcc i u hu)
 refine ⟨ad,rfl,g 0 _ rfl,?_,?_⟩
 ·rw [← add_field _ _ 1 (by omega)];exact g 1 _ rfl
 ·rw [← add_field _ _ 2 (by omega)];exact g 2 _ rfl
def binds3.T : Bool × List (List Nat × List Nat) := (true,[([],[]),([],[]),([1],[1]),([0,2],[0,2]),([3],[3]),([4],[4]),([4],[4]),([5,6,4],[4,5,6]),([7,4],[4,7]),([8,4],[4,8]),([4],[4]),([4],[4]),([10,11,4],[4,10,11]),([12,4],[4,12]),([13,4],[4,13]),([9,14,4],[4,9,14]),([4,15],[4,15])])
def binds3.B : List Nat := [0,0,2,7,15,31,31,127,255,511,31,31,3103,7199,15391,32767,65535]
theorem binds3.tab : rtab .any (opsOf Tryz.f27 3) = binds3.T := by kernel_rfl
theorem binds3.bits : waitsOk binds3.T.2 binds3.B = true := by kernel_rfl
end Go.Proofs.YtiidmjmkgjfaeaaGreatDoor.Ent

namespace Go.Proofs.YtiidmjmkgjfaeaaGreatDoor.Ent
open Go Go.RowKit Go.Shelf Go.Proofs.YtiidmjmkgjfaeaaGreatDoorW.PrintWords Go.Proofs.YtiidmjmkgjfaeaaGreatDoorW.PrintLast Go.Proofs.YtiidmjmkgjfaeaaGreatDoor.PA Go.Proofs.YtiidmjmkgjfaeaaGreatDoor.Pure
set_option linter.unusedVariables false
set_option linter.unusedSimpArgs false
structure PArgs (w : World) (Ap : Option Addr) (cp : Nat) (P : List St3) (A : Option Addr) (c : Nat) (l : List H8) : Prop where
 hG : GL w
 hP : KP.C w Ap P.length P
 hPl : P.length ≤ 1000000
 hr : KH.C w A l.length l
 hl : l.length ≤ 1000000
 hs : ∀ h ∈ l,SmE h.f0
theorem PArgs.below {w W : World} {Ap A : Option Addr} {cp c : Nat} {P : List St3} {l : List H8} (h : PArgs w Ap cp P A c l) (hb : Below w.heap.size w W) : PArgs W Ap cp P A c l := ⟨h.hG.below hb,Kd.C_below h.hP hb,h.hPl,Kd.C_below h.hr hb,h.hl,h.hs⟩
def stuck2.T : Bool × List (List Nat × List Nat) := (true,[([],[]),([],[]),([1],[1]),([0,2],[0,2]),([3],[3]),([4],[4]),([4],[4]),([5,6,4],[4,5,6]),([7,4],[4,7]),([8,4],[4,8]),([4],[4]),([4],[4]),([10,11,4],[4,10,11]),([12,4],[4,12]),([13,4],[4,13]),([9,14,4],[4,9,14]),([4,15],[4,15])])
def stuck2.B : List Nat := [0,0,2,7,15,31,31,127,255,511,31,31,3103,7199,15391,32767,65535]
theorem stuck2.tab : rtab .any (opsOf Tryz.f12 2) = stuck2.T := by kernel_rfl
theorem stuck2.bits : waitsOk stuck2.T.2 stuck2.B = true := by kernel_rfl
end Go.Proofs.YtiidmjmkgjfaeaaGreatDoor.Ent


namespace Jou
set_option linter.unusedSectionVars false
structure Sig (α β κ ν : Type) where
 nm : α → κ
 vs : α → ν
 ent : β → α
 lt : κ → κ → Prop
 irr : ∀ a,¬ lt a a
 tr : ∀ a b c,lt a b → lt b c → lt a c
 tri : ∀ a b,a = b ∨ lt a b ∨ lt b a
variable {α β κ ν : Type} [DecidableEq κ] [DecidableEq ν] (S : Sig α β κ ν) [DecidableRel S.lt]
def Sig.key (h : β) : κ := S.nm (S.ent h)
def Sig.ver (h : β) : ν := S.vs (S.ent h)
def findV (l : List β) (n : κ) : Option β := l.find? fun h => decide (S.key h = n)
def withoutV (l : List β) (n : κ) : List β := l.filter fun h => !decide (S.key h = n)
def insV (h : β) : List β → List β
 | [] => [h]
 | x :: l => if S.lt (S.key h) (S.key x) then h :: x :: l else x :: insV h l
def withV (l : List β) (h : β) : List β := insV S h (withoutV S l (S.key h))
def differs (m : List β) (h : β) : Bool := match findV S m (S.key h) with
 | none => true
 | some x => !decide (S.ver x = S.ver h)
def Rising (l : List β) : Prop := l.Pairwise fun a b => S.lt (S.key a) (S.key b)
def makes (tgt : List β) : List (Nat × α) → List β → List κ → Bool
 | [],now,op => op.isEmpty && decide (now.map (fun h => (S.key h,S.ver h)) = tgt.map (fun h => (S.key h,S.ver h)))
 | (d,e) :: p,now,op =>
  if d = 1 then
   match findV S now (S.nm e) with
   | some h => decide (S.ver h = S.vs e) && makes tgt p (withoutV S now (S.nm e)) op
   | none => false
  else if d = 2 then
   match findV S tgt (S.nm e) with
   | some x => (findV S now (S.nm e)).isNone && decide (S.ver x = S.vs e) && makes tgt p (withV S now x) (op ++ [S.nm e])
   | none => false
  else if d = 3 then
   match findV S tgt (S.nm e) with
   | some x =>
    let left := op.filter fun k => !decide (k = S.nm e)
    decide (left.length + 1 = op.length) && decide (S.ver x = S.vs e) && makes tgt p now left
   | none => false
  else false
variable {S}
theorem Rising.nodup {l : List β} (h : Rising S l) : (l.map S.key).Nodup := by
 rw [List.Nodup,List.pairwise_map]
 exact List.Pairwise.imp (fun {a b} (hab : S.lt (S.key a) (S.key b)) (e : S.key a = S.key b) => by rw [e] at hab;exact S.irr _ hab) h
theorem find_mem {l : List β} {n : κ} {h : β} (hf : findV S l n = some h) : h ∈ l ∧ S.key h = n :=
 ⟨List.mem_of_find?_eq_some hf,by simpa using List.find?_some hf⟩
theorem find_of_mem : ∀ {l : List β} (_ : (l.map S.key).Nodup) {h : β} (_ : h ∈ l),findV S l (S.key h) = some h
 | x :: l,hn,h,hm => by
  rw [List.map_cons,List.nodup_cons] at hn
  unfold findV
  rw [List.find?_cons]
  rcases List.mem_cons.1 hm with rfl | hm
  ·simp
  ·have hne : S.key x ≠ S.key h := fun e => hn.1 (e ▸ List.mem_map_of_mem hm)
   simp only [hne,decide_false]
   exact find_of_mem hn.2 hm
theorem find_none {l : List β} {n : κ} : findV S l n = none ↔ ∀ h ∈ l,S.key h ≠ n := by
 unfold findV
 rw [List.find?_eq_none]
 simp
theorem key_inj {l : List β} (hn : (l.map S.key).Nodup) {a b : β} (ha : a ∈ l) (hb : b ∈ l) (e : S.key a = S.key b) : a = b := by
 have h1 := find_of_mem hn ha
 rw [e,find_of_mem hn hb] at h1
 exact (Option.some.inj h1).symm
theorem makes_rem (tgt : List β) (p : List (Nat × α)) (op : List κ) : ∀ (R : List β) (now : List β),(now.map S.key).Nodup → (R.map S.key).Nodup → (∀ h ∈ R,h ∈ now) →
  makes S tgt (R.map (fun h => (1,S.ent h)) ++ p) now op = makes S tgt p (now.filter fun x => !decide (S.key x ∈ R.map S.key)) op
 | [],now,_,_,_ => by
  rw [List.filter_eq_self.2 (by simp)]
  rfl
 | h :: R,now,hn,hr,hm => by
  rw [List.map_cons,List.nodup_cons] at hr
  have hf : findV S now (S.nm (S.ent h)) = some h := find_of_mem hn (hm h List.mem_cons_self)
  rw [List.map_cons,List.cons_append,makes]
  simp only [if_true,hf]
  rw [show decide (S.ver h = S.vs (S.ent h)) = true from decide_eq_true rfl,Bool.true_and]
  have hsub : (withoutV S now (S.nm (S.ent h))).Sublist now := List.filter_sublist
  rw [makes_rem tgt p op R _ ((hsub.map _).nodup hn) hr.2 (fun x hx => ?_)]
  ·congr 1
   unfold withoutV
   rw [List.filter_filter]
   apply List.filter_congr
   intro x _
   rw [List.map_cons]
   simp only [List.mem_cons,not_or,Bool.decide_or,Bool.not_or]
   rw [Bool.and_comm]
   rfl
  ·unfold withoutV
   rw [List.mem_filter]
   refine ⟨hm x (List.mem_cons_of_mem _ hx),?_⟩
   have : S.key x ≠ S.nm (S.ent h) := fun e => hr.1 (by have := List.mem_map_of_mem (f := S.key) hx;rw [e] at this;exact this)
   simp [this]
theorem ins_mem {h x : β} : ∀ {l : List β},x ∈ insV S h l ↔ x = h ∨ x ∈ l
 | [] => by simp [insV]
 | y :: l => by
  unfold insV
  split
  ·simp
  ·rw [List.mem_cons,ins_mem,List.mem_cons]
   constructor
   ·rintro (h | h | h) <;> simp [h]
   ·rintro (h | h | h) <;> simp [h]
theorem ins_rising {h : β} : ∀ {l : List β},Rising S l → (∀ x ∈ l,S.key x ≠ S.key h) → Rising S (insV S h l)
 | [],_,_ => by simp [insV,Rising]
 | y :: l,hl,hn => by
  unfold Rising at hl
  rw [List.pairwise_cons] at hl
  unfold insV
  split
  case isTrue hlt =>
   unfold Rising
   rw [List.pairwise_cons,List.pairwise_cons]
   refine ⟨fun x hx => ?_,hl⟩
   rcases List.mem_cons.1 hx with rfl | hx
   ·exact hlt
   ·exact S.tr _ _ _ hlt (hl.1 x hx)
  case isFalse hlt =>
   unfold Rising
   rw [List.pairwise_cons]
   refine ⟨fun x hx => ?_,ins_rising hl.2 fun x hx => hn x (List.mem_cons_of_mem _ hx)⟩
   rcases ins_mem.1 hx with rfl | hx
   ·rcases S.tri (S.key y) (S.key x) with e | e | e
    ·exact absurd e (hn y List.mem_cons_self)
    ·exact e
    ·exact absurd e hlt
   ·exact hl.1 x hx
theorem with_mem {h x : β} {l : List β} : x ∈ withV S l h ↔ x = h ∨ (x ∈ l ∧ S.key x ≠ S.key h) := by
 unfold withV withoutV
 rw [ins_mem,List.mem_filter]
 simp
theorem with_rising {h : β} {l : List β} (hl : Rising S l) : Rising S (withV S l h) := by
 unfold withV
 refine ins_rising (List.Pairwise.sublist List.filter_sublist hl) fun x hx => ?_
 unfold withoutV at hx
 rw [List.mem_filter] at hx
 simpa using hx.2
theorem makes_put (tgt : List β) (hto : (tgt.map S.key).Nodup) (p : List (Nat × α)) : ∀ (F : List β) (now : List β) (op : List κ),Rising S now → (F.map S.key).Nodup → (∀ h ∈ F,h ∈ tgt) → (∀ h ∈ F,∀ x ∈ now,S.key x ≠ S.key h) →
  ∃ now',makes S tgt (F.map (fun h => (2,S.ent h)) ++ p) now op = makes S tgt p now' (op ++ F.map S.key) ∧ Rising S now' ∧ ∀ x,x ∈ now' ↔ x ∈ now ∨ x ∈ F
 | [],now,op,hn,_,_,_ => ⟨now,by simp,hn,by simp⟩
 | h :: F,now,op,hn,hf,hm,hd => by
  rw [List.map_cons,List.nodup_cons] at hf
  have h1 : findV S tgt (S.nm (S.ent h)) = some h := find_of_mem hto (hm h List.mem_cons_self)
  have h2 : findV S now (S.nm (S.ent h)) = none := find_none.2 fun x hx => hd h List.mem_cons_self x hx
  obtain ⟨now',e,hr,hx⟩ := makes_put tgt hto p F (withV S now h) (op ++ [S.nm (S.ent h)]) (with_rising hn) hf.2 (fun x hx => hm x (List.mem_cons_of_mem _ hx)) (fun x hx y hy => by
   rcases with_mem.1 hy with rfl | ⟨hy,_⟩
   ·exact fun e => hf.1 (e ▸ List.mem_map_of_mem hx)
   ·exact hd x (List.mem_cons_of_mem _ hx) y hy)
  refine ⟨now',?_,hr,fun x => ?_⟩
  ·rw [List.map_cons,List.cons_append,makes]
   simp only [h1,h2,if_true,Option.isNone_none,Bool.true_and]
   rw [if_neg (by decide),show decide (S.ver h = S.vs (S.ent h)) = true from decide_eq_true rfl,Bool.true_and,e,List.map_cons,List.append_assoc]
   rfl
  ·rw [hx,with_mem,List.mem_cons]
   constructor
   ·rintro ((h | ⟨h,_⟩) | h) <;> simp [h]
   ·rintro (h' | h' | h')
    ·exact .inl (.inr ⟨h',hd h List.mem_cons_self x h'⟩)
    ·exact .inl (.inl h')
    ·exact .inr h'
theorem makes_set (tgt : List β) (hto : (tgt.map S.key).Nodup) (now : List β) : ∀ (C : List β) (op : List κ),op.Nodup → (C.map S.key).Nodup → (∀ h ∈ C,h ∈ tgt) → (∀ k,k ∈ op ↔ k ∈ C.map S.key) →
  makes S tgt (C.map (fun h => (3,S.ent h))) now op = decide (now.map (fun h => (S.key h,S.ver h)) = tgt.map (fun h => (S.key h,S.ver h)))
 | [],op,_,_,_,he => by
  have : op = [] := List.eq_nil_iff_forall_not_mem.2 fun k hk => by simpa using (he k).1 hk
  subst this
  simp [makes]
 | h :: C,op,ho,hc,hm,he => by
  rw [List.map_cons,List.nodup_cons] at hc
  have h1 : findV S tgt (S.nm (S.ent h)) = some h := find_of_mem hto (hm h List.mem_cons_self)
  have hin : S.key h ∈ op := (he _).2 (by simp)
  rw [List.map_cons,makes]
  simp only [h1]
  rw [if_neg (by decide),if_neg (by decide),if_pos trivial,show decide (S.ver h = S.vs (S.ent h)) = true from decide_eq_true rfl,Bool.and_true]
  have hl : ∀ {op : List κ},op.Nodup → S.key h ∈ op → (op.filter fun k => !decide (k = S.key h)).length + 1 = op.length := by
   intro op
   induction op with
   | nil => intro _ h;cases h
   | cons k op ih =>
    intro hn hk
    rw [List.nodup_cons] at hn
    by_cases e : k = S.key h
    ·subst e
     have : (op.filter fun k => !decide (k = S.key h)) = op := List.filter_eq_self.2 fun k hk => by
      have : k ≠ S.key h := fun e => hn.1 (e ▸ hk)
      simp [this]
     simp [this]
    ·rcases List.mem_cons.1 hk with hk | hk
     ·exact absurd hk.symm e
     ·have := ih hn.2 hk
      simp [e]
      simpa using this
  have := hl ho hin
  rw [show decide ((op.filter fun k => !decide (k = S.nm (S.ent h))).length + 1 = op.length) = true from decide_eq_true this,Bool.true_and]
  refine makes_set tgt hto now C _ (ho.sublist List.filter_sublist) hc.2 (fun x hx => hm x (List.mem_cons_of_mem _ hx)) fun k => ?_
  rw [List.mem_filter,he k,List.map_cons,List.mem_cons]
  constructor
  ·rintro ⟨h | h,hk⟩
   ·subst h
    have : ¬ S.key h = S.nm (S.ent h) := by simpa using hk
    exact absurd rfl this
   ·exact h
  ·intro hk
   refine ⟨.inr hk,?_⟩
   have : k ≠ S.nm (S.ent h) := fun e => hc.1 (by rw [e] at hk;exact hk)
   simp [this]
theorem rising_eq : ∀ {a b : List β},Rising S a → Rising S b → (∀ x ∈ a,∃ y ∈ b,S.key y = S.key x ∧ S.ver y = S.ver x) → (∀ y ∈ b,∃ x ∈ a,S.key x = S.key y ∧ S.ver x = S.ver y) →
  a.map (fun h => (S.key h,S.ver h)) = b.map (fun h => (S.key h,S.ver h))
 | [],[],_,_,_,_ => rfl
 | [],y :: b,_,_,_,h => by obtain ⟨x,hx,_⟩ := h y List.mem_cons_self;cases hx
 | x :: a,[],_,_,h,_ => by obtain ⟨y,hy,_⟩ := h x List.mem_cons_self;cases hy
 | x :: a,y :: b,ha,hb,h1,h2 => by
  unfold Rising at ha hb
  have ha' := List.pairwise_cons.1 ha
  have hb' := List.pairwise_cons.1 hb
  have hk : S.key x = S.key y := by
   obtain ⟨y',hy',e1,_⟩ := h1 x List.mem_cons_self
   obtain ⟨x',hx',e2,_⟩ := h2 y List.mem_cons_self
   rcases List.mem_cons.1 hy' with rfl | hy'
   ·exact e1.symm
   ·rcases List.mem_cons.1 hx' with rfl | hx'
    ·exact e2
    ·have l1 := hb'.1 y' hy'
     have l2 := ha'.1 x' hx'
     rw [e1] at l1
     rw [e2] at l2
     exact absurd (S.tr _ _ _ l1 l2) (S.irr _)
  have hv : S.ver x = S.ver y := by
   obtain ⟨y',hy',e1,e2⟩ := h1 x List.mem_cons_self
   rcases List.mem_cons.1 hy' with rfl | hy'
   ·exact e2.symm
   ·have l1 := hb'.1 y' hy'
    rw [e1,hk] at l1
    exact absurd l1 (S.irr _)
  rw [List.map_cons,List.map_cons,hk,hv]
  congr 1
  refine rising_eq ha'.2 hb'.2 (fun z hz => ?_) fun z hz => ?_
  ·obtain ⟨y',hy',e1,e2⟩ := h1 z (List.mem_cons_of_mem _ hz)
   rcases List.mem_cons.1 hy' with rfl | hy'
   ·have l1 := ha'.1 z hz
    rw [← e1,hk] at l1
    exact absurd l1 (S.irr _)
   ·exact ⟨y',hy',e1,e2⟩
  ·obtain ⟨x',hx',e1,e2⟩ := h2 z (List.mem_cons_of_mem _ hz)
   rcases List.mem_cons.1 hx' with rfl | hx'
   ·have l1 := hb'.1 z hz
    rw [← e1,hk] at l1
    exact absurd l1 (S.irr _)
   ·exact ⟨x',hx',e1,e2⟩
theorem makes_all {frm tgt : List β} (hf : Rising S frm) (ht : Rising S tgt) (R C : List β) (hR : R.Perm (frm.filter (differs S tgt))) (hC : C.Perm (tgt.filter (differs S frm))) :
  makes S tgt (R.map (fun h => (1,S.ent h)) ++ ((tgt.filter (differs S frm)).map (fun h => (2,S.ent h)) ++ C.map (fun h => (3,S.ent h)))) frm [] = true := by
 have nf := hf.nodup
 have nt := ht.nodup
 have nR : (R.map S.key).Nodup := (hR.map S.key).nodup_iff.2 ((List.filter_sublist.map _).nodup nf)
 have nF : ((tgt.filter (differs S frm)).map S.key).Nodup := (List.filter_sublist.map _).nodup nt
 have nC : (C.map S.key).Nodup := (hC.map S.key).nodup_iff.2 nF
 have mR : ∀ h,h ∈ R ↔ h ∈ frm ∧ differs S tgt h = true := fun h => by rw [hR.mem_iff,List.mem_filter]
 have mC : ∀ h,h ∈ C ↔ h ∈ tgt ∧ differs S frm h = true := fun h => by rw [hC.mem_iff,List.mem_filter]
 rw [makes_rem tgt _ [] R frm nf nR fun h hh => ((mR h).1 hh).1]
 have left : ∀ x,x ∈ frm.filter (fun x => !decide (S.key x ∈ R.map S.key)) ↔ x ∈ frm ∧ differs S tgt x = false := fun x => by
  rw [List.mem_filter]
  constructor
  ·rintro ⟨h1,h2⟩
   refine ⟨h1,?_⟩
   cases hd : differs S tgt x with
   | false => rfl
   | true =>
    have : S.key x ∈ R.map S.key := List.mem_map_of_mem ((mR x).2 ⟨h1,hd⟩)
    simp [this] at h2
  ·rintro ⟨h1,h2⟩
   refine ⟨h1,?_⟩
   have : S.key x ∉ R.map S.key := fun hk => by
    obtain ⟨y,hy,e⟩ := List.mem_map.1 hk
    obtain ⟨hy1,hy2⟩ := (mR y).1 hy
    rw [key_inj nf hy1 h1 e,h2] at hy2
    cases hy2
   simp [this]
 have same : ∀ {l m : List β} (_ : (m.map S.key).Nodup) {x : β},differs S m x = false ↔ ∃ y ∈ m,S.key y = S.key x ∧ S.ver y = S.ver x := fun {l m} nm {x} => by
  unfold differs
  cases hx : findV S m (S.key x) with
  | none =>
   simp only [Bool.true_eq_false,false_iff]
   rintro ⟨y,hy,e,_⟩
   exact find_none.1 hx y hy e
  | some y =>
   obtain ⟨hy,e⟩ := find_mem hx
   simp only [Bool.not_eq_false',decide_eq_true_eq]
   constructor
   ·exact fun h => ⟨y,hy,e,h⟩
   ·rintro ⟨z,hz,e1,e2⟩
    rw [key_inj nm hy hz (e.trans e1.symm)]
    exact e2
 obtain ⟨now',e,hr,hx⟩ := makes_put tgt nt (C.map (fun h => (3,S.ent h))) (tgt.filter (differs S frm)) (frm.filter fun x => !decide (S.key x ∈ R.map S.key)) [] (List.Pairwise.sublist List.filter_sublist hf) nF (fun h hh => (List.mem_filter.1 hh).1) (fun h hh x hx e => by
  obtain ⟨h1,h2⟩ := (left x).1 hx
  obtain ⟨g1,g2⟩ := List.mem_filter.1 hh
  obtain ⟨y,hy,e1,e2⟩ := (same (l := frm) nt).1 h2
  have : y = h := key_inj nt hy g1 (e1.trans e)
  subst this
  have : differs S frm y = false := (same (l := tgt) nf).2 ⟨x,h1,e,e2.symm⟩
  rw [this] at g2
  cases g2)
 rw [e,List.nil_append,makes_set tgt nt now' C _ nF nC (fun h hh => ((mC h).1 hh).1) fun k => ((hC.map S.key).mem_iff).symm]
 apply decide_eq_true
 refine rising_eq hr ht (fun x h => ?_) fun y h => ?_
 ·rcases (hx x).1 h with h | h
  ·obtain ⟨h1,h2⟩ := (left x).1 h
   exact (same (l := frm) nt).1 h2
  ·exact ⟨x,(List.mem_filter.1 h).1,rfl,rfl⟩
 ·cases hd : differs S frm y with
  | true => exact ⟨y,(hx y).2 (.inr (List.mem_filter.2 ⟨h,hd⟩)),rfl,rfl⟩
  | false =>
   obtain ⟨x,hx1,e1,e2⟩ := (same (l := tgt) nf).1 hd
   refine ⟨x,(hx x).2 (.inl ((left x).2 ⟨hx1,(same (l := frm) nt).2 ⟨y,h,e1.symm,e2.symm⟩⟩)),e1,e2⟩
end Jou

namespace JouT
open Go
theorem less_irr : ∀ a : List UInt8,Op.bytesLess a a = false
 | [] => rfl
 | x :: a => by simp [Op.bytesLess,less_irr a]
theorem less_tri : ∀ a b : List UInt8,a = b ∨ Op.bytesLess a b = true ∨ Op.bytesLess b a = true
 | [],[] => .inl rfl
 | [],_ :: _ => .inr (.inl (by simp [Op.bytesLess]))
 | _ :: _,[] => .inr (.inr (by simp [Op.bytesLess]))
 | x :: a,y :: b => by
  simp only [Op.bytesLess]
  rcases less_tri a b with h | h | h
  ·subst h
   by_cases h1 : x < y
   ·exact .inr (.inl (by simp [h1]))
   ·by_cases h2 : y < x
    ·exact .inr (.inr (by simp [h2]))
    ·have : x = y := UInt8.toNat_inj.mp (by simp [UInt8.lt_iff_toNat_lt] at *;omega)
     exact .inl (by rw [this])
  ·by_cases h1 : x < y
   ·exact .inr (.inl (by simp [h1]))
   ·by_cases h2 : y < x
    ·exact .inr (.inr (by simp [h2]))
    ·have : x = y := UInt8.toNat_inj.mp (by simp [UInt8.lt_iff_toNat_lt] at *;omega)
     exact .inr (.inl (by simp [this,h]))
  ·by_cases h1 : x < y
   ·exact .inr (.inl (by simp [h1]))
   ·by_cases h2 : y < x
    ·exact .inr (.inr (by simp [h2]))
    ·have : x = y := UInt8.toNat_inj.mp (by simp [UInt8.lt_iff_toNat_lt] at *;omega)
     exact .inr (.inr (by simp [this,h]))
theorem less_tr : ∀ a b c : List UInt8,Op.bytesLess a b = true → Op.bytesLess b c = true → Op.bytesLess a c = true
 | [],_,[],_,h => by cases ‹List UInt8› <;> simp [Op.bytesLess] at h
 | [],_,_ :: _,_,_ => by simp [Op.bytesLess]
 | _ :: _,[],_,h,_ => by simp [Op.bytesLess] at h
 | _ :: _,_ :: _,[],_,h => by simp [Op.bytesLess] at h
 | x :: a,y :: b,z :: c,h1,h2 => by
  simp only [Op.bytesLess] at *
  by_cases xy : x < y
  ·by_cases yz : y < z
   ·have : x < z := by simp [UInt8.lt_iff_toNat_lt] at *;omega
    simp [this]
   ·by_cases zy : z < y
    ·have : ¬ y = z := by rintro rfl;exact yz zy
     simp [yz,this] at h2
    ·have : y = z := UInt8.toNat_inj.mp (by simp [UInt8.lt_iff_toNat_lt] at *;omega)
     subst this
     simp [xy]
  ·by_cases yx : y < x
   ·have : ¬ x = y := by rintro rfl;exact xy yx
    simp [xy,this] at h1
   ·have : x = y := UInt8.toNat_inj.mp (by simp [UInt8.lt_iff_toNat_lt] at *;omega)
    subst this
    by_cases xz : x < z
    ·simp [xz]
    ·simp [xy] at h1
     simp [xz] at h2
     obtain ⟨rfl,h2⟩ := h2
     simp [less_tr a b c h1 h2]
end JouT

namespace Go.Proofs.YtiidmjmkgjfaeaaGreatDoor.Ent
open Go Go.RowKit Go.Shelf Go.Proofs.YtiidmjmkgjfaeaaGreatDoorW.PrintWords Go.Proofs.YtiidmjmkgjfaeaaGreatDoor.PA Go.Proofs.YtiidmjmkgjfaeaaGreatDoor.Pure
set_option linter.unusedVariables false
set_option linter.unusedSimpArgs false
def sigE : Jou.Sig E6 H8 (List UInt8) (List UInt8) := ⟨nmE,fun e => e.f1.toList,fun h => h.f0,fun a b => Op.bytesLess a b = true,fun a h => (by rw [JouT.less_irr] at h;cases h),JouT.less_tr,JouT.less_tri⟩
instance : DecidableRel sigE.lt := fun a b => inferInstanceAs (Decidable (Op.bytesLess a b = true))
theorem find_sig (l : List H8) (n : ByteArray) : findH l n = Jou.findV sigE l n.toList := by
 unfold findH Jou.findV
 congr 1
 funext h
 show (h.f0.f0.toList == n.toList) = decide (h.f0.f0.toList = n.toList)
 by_cases e : h.f0.f0.toList = n.toList <;> simp [e]
theorem rises_rising : ∀ (l : List H8) (p : Option H8),risesFrom p l = true → (∀ q,p = some q → ∀ h ∈ l,sigE.lt (sigE.key q) (sigE.key h)) ∧ Jou.Rising sigE l
 | [],_,_ => ⟨fun _ _ h hh => (nomatch hh),List.Pairwise.nil⟩
 | x :: r,p,h => by
  have hx : risesFrom (some x) r = true := by
   cases p <;> simp only [risesFrom,Bool.and_eq_true] at h
   ·exact h.2
   ·exact h.2
  obtain ⟨h1,h2⟩ := rises_rising r (some x) hx
  refine ⟨fun q hq y hy => ?_,List.pairwise_cons.2 ⟨h1 x rfl,h2⟩⟩
  subst hq
  simp only [risesFrom,Bool.and_eq_true] at h
  have hqx : sigE.lt (sigE.key q) (sigE.key x) := h.1.2
  rcases List.mem_cons.1 hy with rfl | hy
  ·exact hqx
  ·exact sigE.tr _ _ _ hqx (h1 x rfl y hy)
theorem right_rising {l : List H8} (h : rightH l = true) : Jou.Rising sigE l := by
 unfold rightH at h
 rw [Bool.and_eq_true] at h
 exact (rises_rising l none h.1).2
theorem fits_right {l : List H8} (h : fitsH l = true) : rightH l = true := by
 unfold fitsH at h
 rw [Bool.and_eq_true] at h
 exact h.1
section
variable {l : List H8} {back : Bool} {d : Int} {k : Nat} {a : E6}
end
theorem order_perm' (binds : E6 → E6 → Bool) (l : List E6) : (orderE binds l).Perm l := Jou.order_perm l.length l rfl
end Go.Proofs.YtiidmjmkgjfaeaaGreatDoor.Ent

namespace Go.Proofs.YtiidmjmkgjfaeaaGreatDoor.Ent
open Go Go.RowKit Go.Shelf Go.Proofs.YtiidmjmkgjfaeaaGreatDoorW.PrintWords Go.Proofs.YtiidmjmkgjfaeaaGreatDoor.PA Go.Proofs.YtiidmjmkgjfaeaaGreatDoor.Pure
abbrev nAb : ByteArray := ⟨#[97,98]⟩
abbrev nCd : ByteArray := ⟨#[99,100]⟩
abbrev nEf : ByteArray := ⟨#[101,102]⟩
abbrev n1 : ByteArray := ⟨#[49]⟩
abbrev n2 : ByteArray := ⟨#[50]⟩
def hAb : H8 := ⟨⟨nAb,n1,[[⟨nCd,0,⟨#[]⟩⟩]],[],[],[]⟩,false,false⟩
def hTwo : H8 := ⟨⟨nAb,n2,[[⟨nEf,0,⟨#[]⟩⟩]],[],[],[]⟩,false,false⟩
def hCd : H8 := ⟨⟨nCd,n1,[],[],[],[]⟩,false,false⟩
def hEf : H8 := ⟨⟨nEf,n1,[],[],[],[]⟩,false,false⟩
def wantL : List St3 := [⟨1,nAb,n1⟩,⟨1,nCd,n1⟩,⟨2,nAb,n2⟩,⟨2,nEf,n1⟩,⟨3,nEf,n1⟩,⟨3,nAb,n2⟩]
theorem fits_from : fitsH [hAb,hCd] = true := by kernel_rfl
theorem fits_to : fitsH [hTwo,hEf] = true := by kernel_rfl
theorem steps_want : stepsH [hAb,hCd] [hTwo,hEf] = wantL := by kernel_rfl
theorem same_want : keelsonlaw22_sameSteps.f 20 wantL wantL = some true := by kernel_rfl
end Go.Proofs.YtiidmjmkgjfaeaaGreatDoor.Ent

namespace Go.Proofs.YtiidmjmkgjfaeaaGreatDoor.Ent
open Go Go.RowKit Go.Shelf Go.Proofs.YtiidmjmkgjfaeaaGreatDoorW.PrintWords Go.Proofs.YtiidmjmkgjfaeaaGreatDoorW.PrintLast Go.Proofs.YtiidmjmkgjfaeaaGreatDoor.PA Go.Proofs.YtiidmjmkgjfaeaaGreatDoor.Pure
set_option linter.unusedVariables false
set_option linter.unusedSimpArgs false
theorem C_two {α : Type} (d : Kd α) {W : World} {b : Nat} {ty : TypeId} {x y : α} {cx cy : List Value} (hb : W.heap[b]? = some (.cells (cx ++ cy).toArray ty (0,0))) (hx : d.K W x cx) (hy : d.K W y cy) : d.C W (some ⟨b,0,none⟩) 2 [x,y] := by
 have lx := d.K_len hx
 refine ⟨rfl,by omega,fun _ => ⟨⟨b,0,none⟩,rfl,fun j p hj => ?_⟩⟩
 match j,hj with
 | 0,hj =>
  obtain rfl : x = p := by simpa using hj
  refine ⟨cx,lx,hx,fun i u hi => ?_⟩
  rw [Addr.add_lit,Nat.zero_mul,Nat.zero_add,Nat.zero_add]
  have hlt := (List.getElem?_eq_some_iff.1 hi).1
  simp only [World.cell?,hb,List.getElem?_toArray]
  rw [List.getElem?_append_left hlt]
  exact hi
 | 1,hj =>
  obtain rfl : y = p := by simpa using hj
  refine ⟨cy,d.K_len hy,hy,fun i u hi => ?_⟩
  rw [Addr.add_lit,Nat.one_mul,Nat.zero_add]
  simp only [World.cell?,hb,List.getElem?_toArray]
  rw [List.getElem?_append_right (by omega),lx,Nat.add_sub_cancel_left]
  exact hi
theorem flat_get {α : Type} (f : α → List Value) (sz : Nat) : ∀ (xs : List α) (j i : Nat) (p : α),(∀ x ∈ xs,(f x).length = sz) → xs[j]? = some p → i < sz → ((xs.map f).flatten)[j * sz + i]? = (f p)[i]?
 | [],j,i,p,_,h,_ => by simp at h
 | x :: r,0,i,p,hl,h,hi => by
  obtain rfl : x = p := by simpa using h
  rw [List.map_cons,List.flatten_cons,Nat.zero_mul,Nat.zero_add,List.getElem?_append_left (by rw [hl x List.mem_cons_self];exact hi)]
 | x :: r,j + 1,i,p,hl,h,hi => by
  have hx := hl x List.mem_cons_self
  rw [List.map_cons,List.flatten_cons,Nat.succ_mul,List.getElem?_append_right (by rw [hx];omega),hx,show j * sz + sz + i - sz = j * sz + i by omega]
  exact flat_get f sz r j i p (fun y hy => hl y (List.mem_cons_of_mem _ hy)) (by simpa using h) hi
theorem C_row {α : Type} (d : Kd α) (f : α → List Value) {W : World} {b : Nat} {ty : TypeId} {xs : List α} {n : Nat} (hn : xs.length = n) (hm : n ≤ maxLen) (hb : W.heap[b]? = some (.cells ((xs.map f).flatten).toArray ty (0,0))) (hf : ∀ x ∈ xs,d.K W x (f x)) : d.C W (some ⟨b,0,none⟩) n xs := by
 refine ⟨hn,by first | exact hm | omega,fun _ => ⟨⟨b,0,none⟩,rfl,fun j p hj => ?_⟩⟩
 have hp := hf p (List.mem_of_getElem? hj)
 refine ⟨f p,d.K_len hp,hp,fun i u hi => ?_⟩
 rw [Addr.add_lit,Nat.zero_add]
 have hlt := (List.getElem?_eq_some_iff.1 hi).1
 rw [d.K_len hp] at hlt
 simp only [World.cell?,hb,List.getElem?_toArray]
 rw [flat_get f d.sz xs j i p (fun x hx => d.K_len (hf x hx)) hj hlt]
 exact hi
abbrev gA (n : Nat) : EA := ⟨some ⟨n,0,none⟩,1,none,0,none,0,none,0⟩
abbrev oAt (s : ByteArray) : Obj := .cells #[.string s,.int .i64 0,.string ⟨#[]⟩] 46 (0,0)
abbrev oGr (n : Nat) : Obj := .cells #[.slice (some ⟨n,0,none⟩) 1 1] 47 (0,0)
abbrev oHe (h : H8) (a : EA) : Obj := .cells (hcs h a) 39 (0,0)
abbrev oRow (h g : H8) (a b : EA) : Obj := .cells ((hcs h a).toList ++ (hcs g b).toList).toArray 39 (0,0)
abbrev objs (n : Nat) : List Obj := [oAt nCd,oGr n,oHe hAb (gA (n + 1)),oAt nEf,oGr (n + 3),oHe hTwo (gA (n + 4)),oHe hCd aZ,oHe hEf aZ,oRow hAb hCd (gA (n + 1)) aZ,oRow hTwo hEf (gA (n + 4)) aZ]
def shW (w : World) : World := (objs w.heap.size).foldl (fun W o => W.alloc o) w
theorem fold_heap : ∀ (l : List Obj) (w : World),(l.foldl (fun W o => W.alloc o) w).heap.toList = w.heap.toList ++ l
 | [],w => by simp
 | o :: r,w => by
  rw [List.foldl_cons,fold_heap r (w.alloc o)]
  show (w.heap.push o).toList ++ r = _
  rw [Array.toList_push,List.append_assoc]
  rfl
theorem fold_below : ∀ (l : List Obj) (w W : World),Below w.heap.size w W → Below w.heap.size w (l.foldl (fun W o => W.alloc o) W)
 | [],_,_,h => h
 | o :: r,w,W,h => fold_below r w (W.alloc o) (qab h o)
theorem sh_block (w : World) (k : Nat) (o : Obj) (h : (objs w.heap.size)[k]? = some o) : (shW w).heap[w.heap.size + k]? = some o := by
 rw [← Array.getElem?_toList]
 unfold shW
 rw [fold_heap,List.getElem?_append_right (by rw [Array.length_toList];omega),Array.length_toList,Nat.add_sub_cancel_left]
 exact h
theorem sm_val (s v x : ByteArray) (hs : s.size ≤ 2000) (hv : v.size ≤ 2000) (hx : x.size ≤ 2000) : SmE ⟨s,v,[[⟨x,0,⟨#[]⟩⟩]],[],[],[]⟩ := by
 refine ⟨hs,hv,⟨by simp,fun g hg => ?_,fun g hg y hy => ?_⟩,sm_zE.s3,sm_zE.l4,sm_zE.s4,sm_zE.l5,sm_zE.s5⟩
 ·obtain rfl := List.mem_singleton.1 hg;simp
 ·obtain rfl := List.mem_singleton.1 hg
  obtain rfl := List.mem_singleton.1 hy
  exact ⟨hx,by show (0 : Nat) ≤ 2000;omega⟩
theorem sm_val0 (s v : ByteArray) (hs : s.size ≤ 2000) (hv : v.size ≤ 2000) : SmE ⟨s,v,[],[],[],[]⟩ := ⟨hs,hv,sm_zE.s2,sm_zE.s3,sm_zE.l4,sm_zE.s4,sm_zE.l5,sm_zE.s5⟩
theorem EC_dep (w : World) (n : Nat) (s v x : ByteArray) (h0 : (shW w).heap[n]? = some (oAt x)) (h1 : (shW w).heap[n + 1]? = some (oGr n)) : EC (shW w) ⟨s,v,[[⟨x,0,⟨#[]⟩⟩]],[],[],[]⟩ (gA (n + 1)) :=
 ⟨C_one KG (cs := [.slice (some ⟨n,0,none⟩) 1 1]) h1 ⟨_,1,rfl,Nat.le_refl _,C_one KA (cs := [.string x,.int .i64 0,.string ⟨#[]⟩]) h0 (k46_mk _ ⟨x,0,⟨#[]⟩⟩)⟩,Nat.le_refl _,Kd.C_nil _ _,Nat.le_refl _,Kd.C_nil _ _,Nat.le_refl _,Kd.C_nil _ _,Nat.le_refl _⟩
theorem EC_no (w : World) (s v : ByteArray) : EC w ⟨s,v,[],[],[],[]⟩ aZ := ⟨Kd.C_nil _ _,Nat.le_refl _,Kd.C_nil _ _,Nat.le_refl _,Kd.C_nil _ _,Nat.le_refl _,Kd.C_nil _ _,Nat.le_refl _⟩
theorem sh_from (w : World) : KH.C (shW w) (some ⟨w.heap.size + 8,0,none⟩) [hAb,hCd].length [hAb,hCd] :=
 C_two KH (sh_block w 8 _ rfl) (here_mk (h := hAb) (EC_dep w w.heap.size nAb n1 nCd (sh_block w 0 _ rfl) (sh_block w 1 _ rfl))) (here_mk (h := hCd) (EC_no _ _ _))
theorem sh_to (w : World) : KH.C (shW w) (some ⟨w.heap.size + 9,0,none⟩) [hTwo,hEf].length [hTwo,hEf] :=
 C_two KH (sh_block w 9 _ rfl) (here_mk (h := hTwo) (EC_dep w (w.heap.size + 3) nAb n2 nEf (sh_block w 3 _ rfl) (sh_block w 4 _ rfl))) (here_mk (h := hEf) (EC_no _ _ _))
theorem sh_plan {w : World} (hG : GL w) : Calls Tryz.prog 8 #[.slice (some ⟨w.heap.size + 8,0,none⟩) 2 2,.slice (some ⟨w.heap.size + 9,0,none⟩) 2 2] (shW w) fun e w' => ∃ v,e = .returned (.tuple #[v,.int .i64 0]) ∧ KP.R 31 w' w.heap.size (fun _ => True) v wantL ∧ Below w.heap.size w w' := by
 have hb : Below w.heap.size w (shW w) := fold_below _ w w (Below.refl _ _)
 have s1 : ∀ h ∈ [hAb,hCd],SmE h.f0 := fun h hh => by
  simp only [List.mem_cons,List.not_mem_nil,or_false] at hh
  rcases hh with rfl | rfl
  ·exact sm_val _ _ _ (by decide) (by decide) (by decide)
  ·exact sm_val0 _ _ (by decide) (by decide)
 have s2 : ∀ h ∈ [hTwo,hEf],SmE h.f0 := fun h hh => by
  simp only [List.mem_cons,List.not_mem_nil,or_false] at hh
  rcases hh with rfl | rfl
  ·exact sm_val _ _ _ (by decide) (by decide) (by decide)
  ·exact sm_val0 _ _ (by decide) (by decide)
 have h := plan_yes (hG.below hb) (some ⟨w.heap.size + 8,0,none⟩) 2 [hAb,hCd] (some ⟨w.heap.size + 9,0,none⟩) 2 [hTwo,hEf] (sh_from w) (sh_to w) (by simp) (by simp) s1 s2 (by rw [fits_from,fits_to];rfl)
 rw [steps_want] at h
 refine h.mono ?_
 rintro e w' ⟨v,rfl,hR,hb'⟩
 exact ⟨v,rfl,Kd.R_lower hR hb.size,hb.trans (hb'.mono hb.size)⟩
abbrev wantC : Array Value := #[.int .i64 1,.string nAb,.string n1,.int .i64 1,.string nCd,.string n1,.int .i64 2,.string nAb,.string n2,.int .i64 2,.string nEf,.string n1,.int .i64 3,.string nEf,.string n1,.int .i64 3,.string nAb,.string n2]
theorem sh_same {w W : World} (hG : GL w) (hb : Below w.heap.size w W) {v : Value} (hR : KP.R 31 W w.heap.size (fun _ => True) v wantL) : ∃ A c,v = .slice A wantL.length c ∧ Calls Tryz.prog 10 #[.slice A 6 c,.slice (some ⟨W.heap.size,0,none⟩) 6 6] (W.alloc (.cells wantC 31 (0,0))) fun e w' => e = .returned (.bool true) ∧ Below w.heap.size w w' := by
 obtain ⟨A,c,rfl,hc,hC⟩ := Kd.R_reads hR
 have hb1 := qab (Below.refl W.heap.size W) (.cells wantC 31 (0,0))
 have hw : KP.C (W.alloc (.cells wantC 31 (0,0))) (some ⟨W.heap.size,0,none⟩) wantL.length wantL := C_row KP (fun x => [.int .i64 x.f0,.string x.f1,.string x.f2]) rfl (by decide) (World.alloc_heap_new W (.cells wantC 31 (0,0))) (fun x _ => k31_mk _ x)
 refine ⟨A,c,rfl,?_⟩
 have hbw := hb.trans (hb1.mono hb.size)
 exact (keelsonlaw22_sameSteps.calls 20 A c wantL (some ⟨W.heap.size,0,none⟩) 6 wantL true _ (hG.below hbw) (Kd.C_below hC hb1) hc hw (Nat.le_refl 6) same_want).mono fun e w' ⟨h1,h2⟩ => ⟨h1,hbw.trans (h2.below.mono hbw.size)⟩
set_option maxRecDepth 100000 in
set_option maxHeartbeats 8000000 in
theorem shown_calls {w : World} (hG : GL w) : Calls Tryz.prog 6 #[] w fun en w' => en = .returned (.bool true) ∧ Below w.heap.size w w' := by
 have HP := Aside0.mk (sh_plan hG)
 have HG0 := Aside0.mk hG
 clear hG
 go_enter Tryz.func6,Tryz.ntmps6
 go_wp2_with (first
  | (go_at_call 10;refine HSM.out.mono ?_;rintro en w4 ⟨rfl,hb4⟩)
  | (go_at_call 8;go_loud (refine HP.out.mono ?_);rintro en w3 ⟨v,rfl,hR,hb3⟩;obtain ⟨A3,c3,rfl,hS⟩ := sh_same HG0.out hb3 hR;have HSM := Aside0.mk hS;clear hR hb3 hS))
 go_ret
 exact ⟨rfl,hb4⟩
end Go.Proofs.YtiidmjmkgjfaeaaGreatDoor.Ent

namespace Go.Proofs.YtiidmjmkgjfaeaaGreatDoor.Ent
open Go Go.RowKit Go.Shelf Go.Proofs.YtiidmjmkgjfaeaaGreatDoorW.PrintWords Go.Proofs.YtiidmjmkgjfaeaaGreatDoor.PA Go.Proofs.YtiidmjmkgjfaeaaGreatDoor.Pure
set_option linter.unusedVariables false
set_option linter.unusedSimpArgs false
theorem rdB (l : List ByteArray) (i : Nat) (h : i < l.length) : rdOf ByteArray.empty l (i : Int) = l[i] := by
 unfold rdOf
 rw [Int.toNat_natCast,List.getD_eq_getElem?_getD,List.getElem?_eq_getElem h]
 rfl
def withoutB (l : List ByteArray) (s : ByteArray) : List ByteArray := l.filter fun x => !decide (x.toList = s.toList)
theorem withoutB_l0 (l : List ByteArray) (s : ByteArray) (hl : l.length ≤ 1000000) : ∀ (n i : Nat) (acc : List ByteArray),n + i = l.length → acc.length ≤ i → Ev (fun k => keelsonlaw22_without.l0 k l s acc (i : Int)) (acc ++ withoutB (l.drop i) s)
 | 0,i,acc,h,ha => by
  rw [List.drop_of_length_le (by omega)]
  refine Ev.shift ?_
  simp only [keelsonlaw22_without.l0]
  exact Ev.neg (by omega) (Ev.eq_ (by simp [withoutB]))
 | n + 1,i,acc,h,ha => by
  have hi : i < l.length := by omega
  rw [List.drop_eq_getElem_cons hi]
  refine Ev.shift ?_
  simp only [keelsonlaw22_without.l0,rdB l i hi]
  refine Ev.pos (by omega) (Ev.pos (by omega) ?_)
  rw [wrap_succ i (by omega)]
  unfold withoutB
  by_cases hs : l[i].toList = s.toList
  ·rw [List.filter_cons_of_neg (by simp [hs])]
   exact Ev.pos hs (withoutB_l0 l s hl n (i + 1) acc (by omega) (by omega))
  ·rw [List.filter_cons_of_pos (by simp [hs])]
   have := withoutB_l0 l s hl n (i + 1) (acc ++ [l[i]]) (by omega) (by simp;omega)
   rw [List.append_assoc] at this
   exact Ev.neg hs (Ev.pos (by omega) this)
theorem withoutB_f (l : List ByteArray) (s : ByteArray) (hl : l.length ≤ 1000000) : Ev (fun k => keelsonlaw22_without.f k l s) (withoutB l s) := by
 simp only [keelsonlaw22_without.f]
 have := withoutB_l0 l s hl l.length 0 [] (by omega) (by simp)
 simpa using this
theorem withoutB_calls {w : World} (hG : GL w) (A : Option Addr) (c : Nat) (l : List ByteArray) (s : ByteArray) (hr : Kd.C Kd.string w A l.length l) (hc : l.length ≤ c) (hl : l.length ≤ 1000000) :
  Calls Tryz.prog 16 #[.slice A l.length c,.string s] w fun e w' => ∃ v : Value,e = .returned v ∧ Kd.R Kd.string 9 w' w.heap.size (fun _ => True) v (withoutB l s) ∧ Below w.heap.size w w' := by
 obtain ⟨k,hk⟩ := withoutB_f l s hl
 exact keelsonlaw22_without.calls k A c l s _ w hG hr hc (hk k (Nat.le_refl _))
def versionsH (l m : List H8) : Bool := decide (l.map (fun h => (h.f0.f0.toList,h.f0.f1.toList)) = m.map (fun h => (h.f0.f0.toList,h.f0.f1.toList)))
theorem versionsH_l0 (l m : List H8) (hlm : l.length = m.length) (hl : l.length ≤ 1000000) : ∀ (n i : Nat),n + i = l.length → Ev (fun k => keelsonlaw22_versions.l0 k l m (i : Int)) (versionsH (l.drop i) (m.drop i))
 | 0,i,h => by
  rw [List.drop_of_length_le (by omega),List.drop_of_length_le (by omega)]
  refine Ev.shift ?_
  simp only [keelsonlaw22_versions.l0]
  exact Ev.neg (by omega) (Ev.some_ _)
 | n + 1,i,h => by
  have hi : i < l.length := by omega
  have hm : i < m.length := by omega
  rw [List.drop_eq_getElem_cons hi,List.drop_eq_getElem_cons hm]
  refine Ev.shift ?_
  simp only [keelsonlaw22_versions.l0,rdH l i hi,rdH m i hm]
  refine Ev.pos (by omega) (Ev.pos (by omega) (Ev.pos (by omega) ?_))
  rw [wrap_succ i (by omega)]
  have ih := versionsH_l0 l m hlm hl n (i + 1) (by omega)
  unfold versionsH at ih ⊢
  rw [List.map_cons,List.map_cons]
  by_cases h1 : l[i].f0.f0.toList = m[i].f0.f0.toList
  ·refine Ev.pos h1 ?_
   by_cases h2 : l[i].f0.f1.toList = m[i].f0.f1.toList
   ·refine Ev.pos h2 ?_
    rw [h1,h2]
    simpa using ih
   ·exact Ev.neg h2 (Ev.eq_ (by simp [h2]))
  ·exact Ev.neg h1 (Ev.eq_ (by simp [h1]))
theorem versionsH_f (l m : List H8) (hl : l.length ≤ 1000000) : Ev (fun k => keelsonlaw22_versions.f k l m) (versionsH l m) := by
 simp only [keelsonlaw22_versions.f]
 by_cases h : l.length = m.length
 ·have := versionsH_l0 l m h hl l.length 0 (by omega)
  exact Ev.pos (by omega) (by simpa using this)
 ·refine Ev.neg (by omega) (Ev.eq_ ?_)
  have hv : versionsH l m = false := by
   unfold versionsH
   refine decide_eq_false fun e => h ?_
   have := congrArg List.length e
   simpa using this
  rw [hv]
theorem versionsH_calls {w : World} (hG : GL w) (A : Option Addr) (c : Nat) (l : List H8) (B : Option Addr) (d : Nat) (m : List H8) (hr : KH.C w A l.length l) (hc : l.length ≤ c) (hm : KH.C w B m.length m) (hd : m.length ≤ d) (hl : l.length ≤ 1000000) :
  Calls Tryz.prog 17 #[.slice A l.length c,.slice B m.length d] w fun e w' => e = .returned (.bool (versionsH l m)) ∧ Below w.heap.size w w' := by
 obtain ⟨k,hk⟩ := versionsH_f l m hl
 refine (keelsonlaw22_versions.calls k A c l B d m _ w hG hr hc hm hd (hk k (Nat.le_refl _))).mono ?_
 rintro en w' ⟨h1,h2⟩
 exact ⟨h1,h2.below⟩
end Go.Proofs.YtiidmjmkgjfaeaaGreatDoor.Ent

namespace Go.Proofs.YtiidmjmkgjfaeaaGreatDoor.Ent
open Go Go.RowKit Go.Shelf Go.Proofs.YtiidmjmkgjfaeaaGreatDoorW.PrintWords Go.Proofs.YtiidmjmkgjfaeaaGreatDoor.PA Go.Proofs.YtiidmjmkgjfaeaaGreatDoor.Pure
set_option linter.unusedVariables false
set_option linter.unusedSimpArgs false
theorem without_sig (l : List H8) (n : ByteArray) : withoutH l n = Jou.withoutV sigE l n.toList := by
 unfold withoutH Jou.withoutV
 refine List.filter_congr fun x _ => ?_
 show (!(x.f0.f0.toList == n.toList)) = !decide (x.f0.f0.toList = n.toList)
 rw [Bool.beq_eq_decide_eq]
theorem put_cons (h x : H8) (m : List H8) : putAt h (x :: m) = if lessN h x = true then 0 else putAt h m + 1 := by
 unfold putAt
 rw [List.findIdx?_cons]
 by_cases hx : lessN h x = true
 ·rw [if_pos hx,if_pos hx];rfl
 ·rw [if_neg hx,if_neg hx]
  cases m.findIdx? (lessN h) with
  | none => simp
  | some i => simp
theorem ins_sig (h : H8) : ∀ m : List H8,Jou.insV sigE h m = m.take (putAt h m) ++ h :: m.drop (putAt h m)
 | [] => rfl
 | x :: m => by
  rw [put_cons]
  unfold Jou.insV
  by_cases hx : lessN h x = true
  ·rw [if_pos hx,if_pos (show sigE.lt (sigE.key h) (sigE.key x) from hx)]
   rfl
  ·rw [if_neg hx,if_neg (show ¬ sigE.lt (sigE.key h) (sigE.key x) from hx),ins_sig h m]
   rfl
theorem with_sig (l : List H8) (h : H8) : withH l h = Jou.withV sigE l h := by
 unfold withH Jou.withV
 rw [ins_sig,without_sig]
 rfl
theorem left_sig (l : List ByteArray) (s : ByteArray) : (withoutB l s).map ByteArray.toList = (l.map ByteArray.toList).filter fun k => !decide (k = s.toList) := by
 unfold withoutB
 rw [List.filter_map]
 rfl
end Go.Proofs.YtiidmjmkgjfaeaaGreatDoor.Ent

namespace Go.Proofs.YtiidmjmkgjfaeaaGreatDoor.Ent
open Go Go.RowKit Go.Shelf Go.Proofs.YtiidmjmkgjfaeaaGreatDoorW.PrintWords Go.Proofs.YtiidmjmkgjfaeaaGreatDoorW.PrintLast Go.Proofs.YtiidmjmkgjfaeaaGreatDoor.PA Go.Proofs.YtiidmjmkgjfaeaaGreatDoor.Pure
set_option linter.unusedVariables false
set_option linter.unusedSimpArgs false
abbrev LawM (w : World) (A : Option Addr) (c : Nat) (l : List H8) (B : Option Addr) (d : Nat) (m : List H8) : Prop := Calls Tryz.prog 5 #[.slice A l.length c,.slice B m.length d] w fun en w' => en = .returned (.bool true) ∧ Below w.heap.size w w'
set_option maxRecDepth 100000 in
theorem makes_big {w : World} (hG : GL w) (A : Option Addr) (c : Nat) (l : List H8) (B : Option Addr) (d : Nat) (m : List H8) (hr : KH.C w A l.length l) (hc : l.length ≤ c) (hm : KH.C w B m.length m) (hd : m.length ≤ d) (hf : fewH l m = false) : LawM w A c l B d m := by
 have H1 := Aside0.mk (show QB w 6 #[] (.bool true) from fun W hb => shown_calls (hG.below hb))
 have h2 := qb_few hG A c l B d m hr hc hm hd
 rw [hf] at h2
 have H2 := Aside0.mk h2
 clear hG hr hc hm hd hf h2
 go_enter Tryz.func5,Tryz.ntmps5
 go_wp2_with (first
  | (go_at_call 7;refine (H2.out.at_ HB1.out).mono ?_;rintro en w2 ⟨rfl,hb2⟩)
  | (go_at_call 6;refine (H1.out _ (Below.refl _ _)).mono ?_;rintro en w1 ⟨rfl,hb1⟩;have HB1 := Aside0.mk hb1;clear hb1))
 go_ret
 exact ⟨rfl,hb2⟩
set_option maxRecDepth 100000 in
theorem makes_no {w : World} (hG : GL w) (A : Option Addr) (c : Nat) (l : List H8) (B : Option Addr) (d : Nat) (m : List H8) (hr : KH.C w A l.length l) (hc : l.length ≤ c) (hm : KH.C w B m.length m) (hd : m.length ≤ d) (hf : fewH l m = true) (hp : (fitsH l && fitsH m) = false) : LawM w A c l B d m := by
 have hf' := hf
 unfold fewH at hf'
 rw [Bool.and_eq_true] at hf'
 obtain ⟨ll,sl⟩ := smallH_true hf'.1
 obtain ⟨lm,sm⟩ := smallH_true hf'.2
 have H1 := Aside0.mk (show QB w 6 #[] (.bool true) from fun W hb => shown_calls (hG.below hb))
 have h2 := qb_few hG A c l B d m hr hc hm hd
 rw [hf] at h2
 have H2 := Aside0.mk h2
 have H3 := Aside0.mk (show ∀ W,Below w.heap.size w W → _ from fun W hb => plan_no (hG.below hb) A c l B d m (Kd.C_below hr hb) (Kd.C_below hm hb) (by omega) (by omega) sl sm hp)
 clear hG hr hc hm hd hf h2 hf' ll sl lm sm hp
 go_enter Tryz.func5,Tryz.ntmps5
 go_wp2_with (first
  | (go_at_call 8;refine (H3.out _ HB2.out).mono ?_;rintro en w3 ⟨rfl,hb3⟩;have HB3 := Aside0.mk (HB2.out.trans (hb3.mono HB2.out.size));clear hb3)
  | (go_at_call 7;refine (H2.out.at_ HB1.out).mono ?_;rintro en w2 ⟨rfl,hb2⟩;have HB2 := Aside0.mk hb2;clear hb2)
  | (go_at_call 6;refine (H1.out _ (Below.refl _ _)).mono ?_;rintro en w1 ⟨rfl,hb1⟩;have HB1 := Aside0.mk hb1;clear hb1))
 go_ret
 exact ⟨rfl,HB3.out⟩
end Go.Proofs.YtiidmjmkgjfaeaaGreatDoor.Ent

namespace Go.Proofs.YtiidmjmkgjfaeaaGreatDoor.Ent
open Go Go.RowKit Go.Shelf Go.Proofs.YtiidmjmkgjfaeaaGreatDoorW.PrintWords Go.Proofs.YtiidmjmkgjfaeaaGreatDoor.PA Go.Proofs.YtiidmjmkgjfaeaaGreatDoor.Pure
set_option linter.unusedVariables false
set_option linter.unusedSimpArgs false
theorem perm_lift {α β : Type} (f : β → α) : ∀ (a : List α) (b : List β),a.Perm (b.map f) → ∃ R : List β,R.Perm b ∧ R.map f = a
 | [],b,h => by
  have := h.length_eq
  rw [List.length_map] at this
  obtain rfl : b = [] := List.eq_nil_of_length_eq_zero (by simpa using this.symm)
  exact ⟨[],List.Perm.refl _,rfl⟩
 | x :: a,b,h => by
  have hx : x ∈ b.map f := h.mem_iff.1 List.mem_cons_self
  obtain ⟨y,hy,rfl⟩ := List.mem_map.1 hx
  obtain ⟨s,t,rfl⟩ := List.append_of_mem hy
  have h1 : (f y :: a).Perm (f y :: (s ++ t).map f) := h.trans (by
   rw [List.map_append,List.map_cons,List.map_append]
   exact List.perm_middle)
  obtain ⟨R,hR,e⟩ := perm_lift f a (s ++ t) (List.Perm.cons_inv h1)
  exact ⟨y :: R,(hR.cons y).trans List.perm_middle.symm,by rw [List.map_cons,e]⟩
def planQ (l m : List H8) : List (Nat × E6) := (orderE needsE (changedE l m)).map (fun e => (1,e)) ++ ((changedE m l).map (fun e => (2,e)) ++ (orderE (fun a b => needsE b a) (changedE m l)).map (fun e => (3,e)))
theorem planQ_steps (l m : List H8) : stepsH l m = (planQ l m).map fun q => stepE (q.1 : Int) q.2 := by
 unfold stepsH planQ
 rw [List.map_append,List.map_append,List.map_map,List.map_map,List.map_map,List.append_assoc]
 rfl
theorem differs_sig (m : List H8) (h : H8) : differsH m h = Jou.differs sigE m h := by
 unfold differsH Jou.differs
 rw [find_sig]
 rw [show sigE.key h = h.f0.f0.toList from rfl]
 cases Jou.findV sigE m h.f0.f0.toList with
 | none => rfl
 | some x =>
  show (!(x.f0.f1.toList == h.f0.f1.toList)) = !decide (x.f0.f1.toList = h.f0.f1.toList)
  rw [Bool.beq_eq_decide_eq]
theorem plan_makes {l m : List H8} (hl : rightH l = true) (hm : rightH m = true) : Jou.makes sigE m (planQ l m) l [] = true := by
 have e1 : ∀ a b : List H8,changedE a b = (a.filter (Jou.differs sigE b)).map sigE.ent := fun a b => by
  unfold changedE
  rw [List.filter_congr fun x _ => differs_sig b x]
  rfl
 obtain ⟨R,hR,r1⟩ := perm_lift sigE.ent (orderE needsE (changedE l m)) (l.filter (Jou.differs sigE m)) (by rw [← e1];exact order_perm' needsE (changedE l m))
 obtain ⟨C,hC,c1⟩ := perm_lift sigE.ent (orderE (fun a b => needsE b a) (changedE m l)) (m.filter (Jou.differs sigE l)) (by rw [← e1];exact order_perm' (fun a b => needsE b a) (changedE m l))
 have := Jou.makes_all (right_rising hl) (right_rising hm) R C hR hC
 unfold planQ
 rw [← r1,← c1,e1 m l,List.map_map,List.map_map,List.map_map]
 exact this
theorem makes_step {m now : List H8} {op : List ByteArray} {d : Nat} {e : E6} {p : List (Nat × E6)} (h : Jou.makes sigE m ((d,e) :: p) now (op.map ByteArray.toList) = true) :
  (d = 1 ∧ ∃ x,findH now e.f0 = some x ∧ x.f0.f1.toList = e.f1.toList ∧ Jou.makes sigE m p (withoutH now e.f0) (op.map ByteArray.toList) = true) ∨
  (d = 2 ∧ findH now e.f0 = none ∧ ∃ x,findH m e.f0 = some x ∧ x.f0.f1.toList = e.f1.toList ∧ Jou.makes sigE m p (withH now x) ((op ++ [e.f0]).map ByteArray.toList) = true) ∨
  (d = 3 ∧ ∃ x,findH m e.f0 = some x ∧ x.f0.f1.toList = e.f1.toList ∧ (withoutB op e.f0).length + 1 = op.length ∧ Jou.makes sigE m p now ((withoutB op e.f0).map ByteArray.toList) = true) := by
 unfold Jou.makes at h
 rw [show sigE.nm e = e.f0.toList from rfl,← find_sig,← find_sig] at h
 by_cases h1 : d = 1
 ·rw [if_pos h1] at h
  cases hf : findH now e.f0 with
  | none => rw [hf] at h;cases h
  | some x =>
   rw [hf] at h
   simp only [Bool.and_eq_true,decide_eq_true_eq] at h
   exact .inl ⟨h1,x,rfl,h.1,by rw [without_sig];exact h.2⟩
 rw [if_neg h1] at h
 by_cases h2 : d = 2
 ·rw [if_pos h2] at h
  cases hf : findH m e.f0 with
  | none => rw [hf] at h;cases h
  | some x =>
   rw [hf] at h
   simp only [Bool.and_eq_true,decide_eq_true_eq,Option.isNone_iff_eq_none] at h
   exact .inr (.inl ⟨h2,h.1.1,x,rfl,h.1.2,by rw [with_sig,List.map_append];exact h.2⟩)
 rw [if_neg h2] at h
 by_cases h3 : d = 3
 ·rw [if_pos h3] at h
  cases hf : findH m e.f0 with
  | none => rw [hf] at h;cases h
  | some x =>
   rw [hf] at h
   simp only [Bool.and_eq_true,decide_eq_true_eq,← left_sig,List.length_map] at h
   exact .inr (.inr ⟨h3,x,rfl,h.1.2,h.1.1,h.2⟩)
 ·rw [if_neg h3] at h
  cases h
theorem makes_end {m now : List H8} {op : List ByteArray} (h : Jou.makes sigE m [] now (op.map ByteArray.toList) = true) : op = [] ∧ versionsH now m = true := by
 unfold Jou.makes at h
 rw [Bool.and_eq_true] at h
 refine ⟨?_,h.2⟩
 simpa using h.1
end Go.Proofs.YtiidmjmkgjfaeaaGreatDoor.Ent

namespace Go.Proofs.YtiidmjmkgjfaeaaGreatDoor.Ent
open Go Go.RowKit Go.Shelf Go.Proofs.YtiidmjmkgjfaeaaGreatDoorW.PrintWords Go.Proofs.YtiidmjmkgjfaeaaGreatDoor.PA Go.Proofs.YtiidmjmkgjfaeaaGreatDoor.Pure
set_option linter.unusedVariables false
set_option linter.unusedSimpArgs false
set_option maxHeartbeats 1000000 in
set_option maxRecDepth 100000 in
theorem find_ice {w0 w : World} (hw0 : Below w0.heap.size w0 w) (A : Option Addr) (c : Nat) (l : List H8) (n : ByteArray) (x : H8) (hr : (ice KH w0).C w A l.length l) (hl : l.length < 1000000000000) (hf : findH l n = some x) :
  Calls Tryz.prog 13 #[.slice A l.length c,.string n] w fun e w' => ∃ a : EA,e = .returned (.tuple #[.agg (hcs x a),.bool true]) ∧ EC w0 x.f0 a ∧ Below w.heap.size w w' := by
 obtain ⟨W,hW⟩ : ∃ W,w.alloc (.cells zcs 39) = W := ⟨_,rfl⟩
 have hb : Below w.heap.size w W := by rw [← hW];exact qab (Below.refl _ _) _
 have hz : W.heap[w.heap.size]? = some (.cells (hcs zH aZ) 39 (0,0)) := by rw [← hW];exact World.alloc_heap_new _ _
 have hP := hplace_calls A c l n (Kd.C_below (thaw hr hw0) hb) hl
 obtain ⟨j,y,hj,hy,hi⟩ : ∃ (j : Nat) (y : H8),l[j]? = some y ∧ y = x ∧ idxP (isName n) l 0 = (j : Int) := by
  rcases idxP_find (isName n) l 0 with h | ⟨j,y,h1,h2,h3⟩
  ·unfold findH at hf;rw [hf] at h;cases h.1
  ·refine ⟨j,y,h1,?_,by rw [h3];congr 1;omega⟩
   unfold findH at hf
   rw [hf] at h2
   exact (Option.some.inj h2).symm
 subst hy
 obtain ⟨hjl,hje⟩ := List.getElem?_eq_some_iff.1 hj
 rw [hi] at hP
 have p0 : (0 : Int) ≤ (j : Int) := by omega
 have p1 : (j : Int) < (l.length : Int) := by omega
 obtain ⟨ad,cs,rfl,hcl,hK,hc⟩ := Kd.C_get hr zH (j : Int) p0 p1
 rw [show l.getD (j : Int).toNat zH = y by rw [Int.toNat_natCast,List.getD_eq_getElem?_getD,hj];rfl] at hK
 obtain ⟨a,rfl,ha⟩ := here_open (W := w0) hK
 have b1 : decide ((j : Int) < 0) = false := decide_eq_false (by omega)
 have b2 : decide ((j : Int) < (l.length : Int)) = true := decide_eq_true p1
 rw [Int.toNat_natCast] at hc
 have HP := Aside0.mk hP
 have HB := Aside0.mk hb
 have HZ := Aside0.mk hz
 have HC := Aside0.mk hc
 have HA := Aside0.mk ha
 clear hr hl hf hb hz hP hi hc ha hK hj hje
 go_enter Tryz.func13,Tryz.ntmps13
 go_wp2_with (go_at_call 28;refine HP.out.mono ?_;rintro e w1 ⟨rfl,hb1⟩;have hz1 := (hb1.block _ (Array.getElem?_eq_some_iff.1 HZ.out).1).trans HZ.out;obtain ⟨x0,x1,x2,x3,x4,x5,x6,x7⟩ := hcs_cells hz1;have f0 := h_thaw hz1 0;have f1 := h_thaw hz1 1;have f2 := h_thaw hz1 2;have f3 := h_thaw hz1 3;have f4 := h_thaw hz1 4;have f5 := h_thaw hz1 5;have f6 := h_thaw hz1 6;have f7 := h_thaw hz1 7;have HB1 := Aside0.mk hb1;have HZ1 := Aside0.mk hz1;have hbw := HB.out.trans (hb1.mono HB.out.size);obtain ⟨y0,y1,y2,y3,y4,y5,y6,y7⟩ := here_at HC.out hbw;clear hb1 hz1 hbw)
 have hq := hputs_at (h := y) (a := a) (h0 := zH) (a0 := aZ) HZ1.out
 have hbq := hputs_below (h := y) (a := a) (HB.out.trans (HB1.out.mono HB.out.size)) (Nat.le_refl w.heap.size)
 exact bodyPost_ret (results_ct rfl _ _ w.heap.size 39 (hcs y a) (0,0) _ rfl hq Tryz.underlying39 rfl (by kernel_rfl)) rfl ⟨a,rfl,HA.out,hbq⟩
theorem find_what {w0 w : World} (hw0 : Below w0.heap.size w0 w) (A : Option Addr) (c : Nat) (l : List H8) (n : ByteArray) (hr : (ice KH w0).C w A l.length l) (hl : l.length < 1000000000000) :
  Calls Tryz.prog 13 #[.slice A l.length c,.string n] w fun e w' => ∃ (x : H8) (a : EA) (b : Bool),e = .returned (.tuple #[.agg (hcs x a),.bool b]) ∧ (findH l n = if b = true then some x else none) ∧ (b = true → EC w0 x.f0 a) ∧ Below w.heap.size w w' := by
 cases hf : findH l n with
 | none => exact (find_no A c l n (thaw hr hw0) hl hf).mono fun e w' ⟨h1,h2⟩ => ⟨zH,aZ,false,h1,rfl,(fun h => by cases h),h2⟩
 | some x => exact (find_ice hw0 A c l n x hr hl hf).mono fun e w' ⟨a,h1,h2,h3⟩ => ⟨x,a,true,h1,rfl,fun _ => h2,h3⟩
end Go.Proofs.YtiidmjmkgjfaeaaGreatDoor.Ent

namespace Go.Proofs.YtiidmjmkgjfaeaaGreatDoor.Ent
open Go Go.RowKit Go.Shelf Go.Proofs.YtiidmjmkgjfaeaaGreatDoorW.PrintWords Go.Proofs.YtiidmjmkgjfaeaaGreatDoorW.PrintLast Go.Proofs.YtiidmjmkgjfaeaaGreatDoor.PA Go.Proofs.YtiidmjmkgjfaeaaGreatDoor.Pure
set_option linter.unusedVariables false
set_option linter.unusedSimpArgs false
structure MInv (w3 : World) (m : List H8) (Q : List (Nat × E6)) (i : Nat) (now : List H8) (A9 : Option Addr) (v10 : Value) (op : List ByteArray) (wr : World) : Prop where
 b : Below w3.heap.size w3 wr
 C : (ice KH w3).C wr A9 now.length now
 ln : now.length ≤ 1000 + i
 lo : op.length ≤ i
 R : Kd.R Kd.string 9 wr w3.heap.size (fun _ => True) v10 op
 mks : Jou.makes sigE m (Q.drop i) now (op.map ByteArray.toList) = true
 ap : now ≠ [] → ∀ a,A9 = some a → some a.block ≠ v10.ownBlock
theorem C_lt {α : Type} {d : Kd α} {W : World} {A : Option Addr} {xs : List α} (hs : 0 < d.sz) (h : d.C W A xs.length xs) (hn : xs ≠ []) (a : Addr) (ha : A = some a) : a.block < W.heap.size := by
 obtain ⟨x,xs,rfl⟩ := List.exists_cons_of_ne_nil hn
 obtain ⟨ad,e,hc⟩ := h.2.2 (by simp)
 obtain rfl : a = ad := Option.some.inj (ha.symm.trans e)
 obtain ⟨c,hl,_,hcc⟩ := hc 0 x rfl
 have := World.block_lt_of_cell? _ _ (hcc 0 (c[0]'(by omega)) (List.getElem?_eq_getElem (by omega)))
 rwa [show a.add (0 * d.sz + 0) = a by simp [Addr.add]] at this
theorem MInv.rem {w3 wr W W' : World} {m : List H8} {Q : List (Nat × E6)} {i : Nat} {now now' : List H8} {A9 A : Option Addr} {v10 : Value} {op : List ByteArray} {c : Nat} (h : MInv w3 m Q i now A9 v10 op wr) (hW : Below wr.heap.size wr W) (hR : (ice KH w3).R 39 W' W.heap.size (fun _ => True) (.slice A now'.length c) now') (hb : Below W.heap.size W W') (hl : now'.length ≤ now.length) (hm : Jou.makes sigE m (Q.drop (i + 1)) now' (op.map ByteArray.toList) = true) : MInv w3 m Q (i + 1) now' A v10 op W' := by
 have hbb := hW.trans (hb.mono hW.size)
 refine ⟨h.b.trans (hbb.mono h.b.size),(Kd.R_reads' hR).2.2,by have := h.ln;omega,by have := h.lo;omega,Kd.R_below h.R hbb,hm,fun hn a ha e => ?_⟩
 obtain ⟨g,cap,e1,e2,_⟩ := Kd.R_form hR (List.length_pos_iff.2 hn)
 injection e1 with e1
 rw [ha] at e1
 cases e1
 have h1 : g < wr.heap.size := Kd.R_lt h.R _ e.symm
 have := hW.size
 omega
theorem MInv.set {w3 wr W W' : World} {m : List H8} {Q : List (Nat × E6)} {i : Nat} {now : List H8} {A9 : Option Addr} {v10 v16 : Value} {op op' : List ByteArray} {ok : Nat → Prop} (h : MInv w3 m Q i now A9 v10 op wr) (hW : Below wr.heap.size wr W) (hR : Kd.R Kd.string 9 W' W.heap.size ok v16 op') (hb : Below W.heap.size W W') (hl : op'.length ≤ op.length) (hm : Jou.makes sigE m (Q.drop (i + 1)) now (op'.map ByteArray.toList) = true) : MInv w3 m Q (i + 1) now A9 v16 op' W' := by
 have hbb := hW.trans (hb.mono hW.size)
 refine ⟨h.b.trans (hbb.mono h.b.size),Kd.C_below h.C hbb,by have := h.ln;omega,by have := h.lo;omega,Kd.R_mono (Kd.R_lower hR (Nat.le_trans h.b.size hW.size)) (fun _ _ => trivial),hm,fun hn a ha e => ?_⟩
 have l1 := C_lt (d := ice KH w3) (Nat.zero_lt_succ 7) h.C hn a ha
 have l2 := Kd.R_base hR _ e.symm
 have := hW.size
 omega
theorem MInv.put {w3 wr W W1 W2 w4 : World} {m : List H8} {Q : List (Nat × E6)} {i : Nat} {now now' : List H8} {A9 A : Option Addr} {v10 v1 : Value} {op : List ByteArray} {c : Nat} {nm : ByteArray} (h : MInv w3 m Q i now A9 v10 op wr) (hW : Below wr.heap.size wr W) (hR : (ice KH w3).R 39 W1 W.heap.size (fun _ => True) (.slice A now'.length c) now') (h12 : Below W1.heap.size W1 W2) (hl : now'.length ≤ now.length + 1)
  (hS : Kd.R Kd.string 9 w4 w3.heap.size (fun _ => True) v1 (op ++ [nm])) (h4 : Below w3.heap.size w3 w4) (hg : W2.grownBy w4 v10.ownBlock) (hat : v1.ownBlock = v10.ownBlock ∨ ∃ b,v1.ownBlock = some b ∧ W2.heap.size ≤ b) (hm : Jou.makes sigE m (Q.drop (i + 1)) now' ((op ++ [nm]).map ByteArray.toList) = true) : MInv w3 m Q (i + 1) now' A v1 (op ++ [nm]) w4 := by
 have R2 := Kd.R_below hR h12
 have R3 := Kd.R_grown (Kd.R_mono (ok' := fun k => some k ≠ v10.ownBlock) (Kd.R_bound R2) (fun k hk e => by
  have := Kd.R_lt h.R _ e.symm
  have := hW.size
  have := hk.2.1
  omega)) hg (fun k hk => hk)
 refine ⟨h4,(Kd.R_reads' R3).2.2,by have := h.ln;omega,by rw [List.length_append];have := h.lo;simp;omega,hS,hm,fun hn a ha e => ?_⟩
 obtain ⟨g,cap,e1,e2,e3,_⟩ := Kd.R_form R2 (List.length_pos_iff.2 hn)
 injection e1 with e1
 rw [ha] at e1
 cases e1
 rcases hat with h1 | ⟨b,h1,h2⟩
 ·rw [h1] at e
  have h3 : g < wr.heap.size := Kd.R_lt h.R _ e.symm
  have := hW.size
  omega
 ·rw [h1] at e
  have h3 : g = b := Option.some.inj e
  omega
theorem what_some {l : List H8} {n : ByteArray} {x y : H8} {b : Bool} (h : findH l n = some x) (h1 : findH l n = if b = true then some y else none) : b = true ∧ x = y := by
 rw [h] at h1
 cases b with
 | false => cases h1
 | true => exact ⟨rfl,Option.some.inj h1⟩
theorem what_none {l : List H8} {n : ByteArray} {y : H8} {b : Bool} (h : findH l n = none) (h1 : findH l n = if b = true then some y else none) : b = false := by
 rw [h] at h1
 cases b with
 | false => rfl
 | true => cases h1
theorem makes_at {P : List St3} {Q : List (Nat × E6)} (h : P = Q.map fun q => stepE (q.1 : Int) q.2) {i : Nat} (hi : i < P.length) : ∃ d e,Q.drop i = (d,e) :: Q.drop (i + 1) ∧ P.getD i zP = stepE (d : Int) e := by
 have hq : i < Q.length := by rw [h,List.length_map] at hi;exact hi
 refine ⟨(Q[i]).1,(Q[i]).2,List.drop_eq_getElem_cons hq,?_⟩
 subst h
 rw [List.getD_eq_getElem?_getD,List.getElem?_eq_getElem hi]
 simp
theorem own_ver {w W : World} {D : Nat} {x : H8} {a : EA} (h : w.heap[D]? = some (.cells (hcs x a) 39 (0,0))) (hb : Below w.heap.size w W) : W.heap[D]? = some (.cells (hcs x a) 39 (0,0)) := (hb.block _ (Array.getElem?_eq_some_iff.1 h).1).trans h
end Go.Proofs.YtiidmjmkgjfaeaaGreatDoor.Ent

namespace Go.Proofs.YtiidmjmkgjfaeaaGreatDoor.Ent
open Go Go.RowKit Go.Shelf Go.Proofs.YtiidmjmkgjfaeaaGreatDoorW.PrintWords Go.Proofs.YtiidmjmkgjfaeaaGreatDoorW.PrintLast Go.Proofs.YtiidmjmkgjfaeaaGreatDoor.PA Go.Proofs.YtiidmjmkgjfaeaaGreatDoor.Pure
set_option linter.unusedVariables false
set_option linter.unusedSimpArgs false
set_option maxRecDepth 100000 in
set_option maxHeartbeats 16000000 in
theorem makes_yes {w : World} (hG : GL w) (A : Option Addr) (c : Nat) (l : List H8) (B : Option Addr) (d : Nat) (m : List H8) (hr : KH.C w A l.length l) (hc : l.length ≤ c) (hm : KH.C w B m.length m) (hd : m.length ≤ d) (hf : fewH l m = true) (hp : (fitsH l && fitsH m) = true) : LawM w A c l B d m := by
 have hf' := hf
 unfold fewH at hf'
 rw [Bool.and_eq_true] at hf'
 obtain ⟨ll,sl⟩ := smallH_true hf'.1
 obtain ⟨lm,sm⟩ := smallH_true hf'.2
 have hp' := hp
 rw [Bool.and_eq_true] at hp'
 have hmk := plan_makes (fits_right hp'.1) (fits_right hp'.2)
 have H1 := Aside0.mk (show QB w 6 #[] (.bool true) from fun W hb => shown_calls (hG.below hb))
 have h2 := qb_few hG A c l B d m hr hc hm hd
 rw [hf] at h2
 have H2 := Aside0.mk h2
 have h3 := (show ∀ W,Below w.heap.size w W → _ from fun W hb => plan_yes (hG.below hb) A c l B d m (Kd.C_below hr hb) (Kd.C_below hm hb) (by omega) (by omega) sl sm hp)
 have hpl : (stepsH l m).length ≤ 100 := by
  unfold stepsH
  simp only [List.length_append,List.length_map,order_len]
  have := changed_le l m
  have := changed_le m l
  omega
 have hpq := planQ_steps l m
 obtain ⟨Q,hQ⟩ : ∃ Q,planQ l m = Q := ⟨_,rfl⟩
 rw [hQ] at hpq hmk
 obtain ⟨P,hP⟩ : ∃ P,stepsH l m = P := ⟨_,rfl⟩
 simp only [hP] at h3
 rw [hP] at hpl hpq
 have HPQ := Aside0.mk hpq
 have HMK := Aside0.mk hmk
 have H3 := Aside0.mk h3
 have HPL := Aside0.mk hpl
 have HLA := Aside0.mk (show (∀ W,Below w.heap.size w W → KH.C W A l.length l ∧ KH.C W B m.length m ∧ GL W) ∧ l.length ≤ 20 ∧ m.length ≤ 20 ∧ l.length ≤ c ∧ m.length ≤ d from ⟨fun W hb => ⟨Kd.C_below hr hb,Kd.C_below hm hb,hG.below hb⟩,by omega,by omega,hc,hd⟩)
 clear hG hr hc hm hd hf h2 h3 hf' ll sl lm sm hp hp' hQ hP hpl hpq hmk
 go_enter Tryz.func5,Tryz.ntmps5
 go_wp2_with (first
  | (go_at_call 8;refine (H3.out _ HB2.out).mono ?_;rintro en w3 ⟨v3,rfl,hR,hb3⟩;have HB3 := Aside0.mk (HB2.out.trans (hb3.mono HB2.out.size));obtain ⟨Ap,cp,rfl,hcp,hC⟩ := Kd.R_reads hR;have HC := Aside0.mk hC;clear hb3 hR hcp hC)
  | (go_at_call 7;refine (H2.out.at_ HB1.out).mono ?_;rintro en w2 ⟨rfl,hb2⟩;have HB2 := Aside0.mk hb2;clear hb2)
  | (go_at_call 6;refine (H1.out _ (Below.refl _ _)).mono ?_;rintro en w1 ⟨rfl,hb1⟩;have HB1 := Aside0.mk hb1;clear hb1))
 go_loopg [9,10,11] P.length (fun gg v9 v10 v11 wr => ∃ (i : Nat) (now : List H8) (A9 : Option Addr) (c9 : Nat) (op : List ByteArray),i ≤ P.length ∧ P.length - i ≤ gg ∧ v11 = .int .i64 (i : Int) ∧ v9 = .slice A9 now.length c9 ∧ now.length ≤ c9 ∧ Aside0 (MInv w3 m Q i now A9 v10 op wr))
 case atStart =>
  have := HPL.out
  exact ⟨0,l,A,c,[],Nat.zero_le _,by omega,rfl,rfl,HLA.out.2.2.2.1,⟨⟨Below.refl _ _,freeze (HLA.out.1 _ HB3.out).1,by have := HLA.out.2.1;omega,Nat.le_refl _,Kd.R_nil _ _ _ _ _,HMK.out,fun _ a _ => (by simp [Value.ownBlock])⟩⟩⟩
 case round =>
  obtain ⟨i,now,A9,c9,op,hi,hg,rfl,rfl,hc9,HI⟩ := hrel
  by_cases hlt : i < P.length
  ·obtain ⟨dk,e,hq,hpi⟩ := makes_at HPQ.out hlt
   have hmk := HI.out.mks
   rw [hq] at hmk
   obtain ⟨ad,had,_,_,_⟩ := step_at HC.out (Below.refl _ _) i hlt
   subst had
   have hGG : ∀ W,Below w3.heap.size w3 W → W.cell? (ad.add (i * 3)) = some (.int .i64 (dk : Int)) ∧ W.cell? ⟨(ad.add (i * 3)).block,(ad.add (i * 3)).off + 1,none⟩ = some (.string e.f0) ∧ W.cell? ⟨(ad.add (i * 3)).block,(ad.add (i * 3)).off + 2,none⟩ = some (.string e.f1) := fun W hb => by
    obtain ⟨_,had,g0,g1,g2⟩ := step_at HC.out hb i hlt
    cases had
    rw [hpi] at g0 g1 g2
    exact ⟨g0,g1,g2⟩
   have HLT := Aside0.mk hlt
   have HGG := Aside0.mk hg
   have HC9 := Aside0.mk hc9
   have hnl : now.length ≤ 2000 := by have := HI.out.ln;have := HPL.out;omega
   have HF1 := Aside0.mk (find_what HI.out.b A9 c9 now e.f0 HI.out.C (by omega))
   have HF2 := Aside0.mk (show ∀ W,Below w3.heap.size w3 W → _ from fun W hb => find_what hb B d m e.f0 (Kd.C_below (freeze (HLA.out.1 _ HB3.out).2.1) hb) (by have := HLA.out.2.2.1;omega))
   have b2 : decide ((i : Int) < (P.length : Int)) = true := decide_eq_true (by omega)
   have b3 : decide (i < P.length) = true := decide_eq_true hlt
   have p0 : (0 : Int) ≤ (i : Int) := by omega
   have p1 : (i : Int) < (P.length : Int) := by omega
   have bw : wrap64 ((i : Int) + 1) = ((i + 1 : Nat) : Int) := by have := HPL.out;unfold wrap64;omega
   have HNL := Aside0.mk hnl
   clear hq hpi hi hg hc9 hnl
   rcases makes_step hmk with ⟨rfl,x,hx,hv,hm⟩ | ⟨rfl,hn,x,hx,hv,hm⟩ | ⟨rfl,x,hx,hv,hlen,hm⟩
   ·obtain ⟨now2,hn2⟩ : ∃ y,withoutH now e.f0 = y := ⟨_,rfl⟩
    have hl2 : now2.length ≤ now.length := by rw [← hn2];exact List.length_filter_le _ _
    have hWO := fun (W : World) (hb : Below wr.heap.size wr W) => without_calls (HI.out.b.trans (hb.mono HI.out.b.size)) A9 c9 now e.f0 (Kd.C_below HI.out.C hb) (by have := HNL.out;omega)
    rw [hn2] at hm
    simp only [hn2] at hWO
    have HWO := Aside0.mk hWO
    have HG := Aside0.mk (show ∀ W,Below w3.heap.size w3 W → W.cell? (ad.add (i * 3)) = some (.int .i64 1) ∧ W.cell? ⟨(ad.add (i * 3)).block,(ad.add (i * 3)).off + 1,none⟩ = some (.string e.f0) ∧ W.cell? ⟨(ad.add (i * 3)).block,(ad.add (i * 3)).off + 2,none⟩ = some (.string e.f1) from hGG)
    obtain ⟨g0,g1,g2⟩ := HG.out wr HI.out.b
    have q1 : (x.f0.f1.toList != e.f1.toList) = false := bne_eq_false_iff_eq.2 hv
    have q2 : (x.f0.f1.toList == e.f1.toList) = true := beq_iff_eq.2 hv
    have HM := Aside0.mk hm
    have HX := Aside0.mk hx
    have HL2 := Aside0.mk hl2
    clear hmk hGG hm hx hv hl2 hn2 hWO
    go_wp2_with (first
     | (go_at_call 13;refine (HF2.out _ HB5.out).mono ?_;rintro en w6 ⟨x6,a6,b6,rfl,hf6,hE6,hb6⟩;skip;have HB6 := Aside0.mk (qab (HB5.out.trans (hb6.mono HB5.out.size)) (.cells (hcs x6 a6) 39));have HR6 := Aside0.mk (HR5.out.trans ((qab hb6 (.cells (hcs x6 a6) 39)).mono HR5.out.size));obtain ⟨g60,g61,g62⟩ := HG.out _ HB6.out;have Z12 := Aside0.mk (own_ver Z5.out (qab hb6 (.cells (hcs x6 a6) 39)));obtain ⟨c0,c1,c2,c3,c4,c5,c6,c7⟩ := hcs_cells Z12.out;clear hb6 hE6 hf6)
     | (go_at_call 13;refine HF1.out.mono ?_;rintro en w5 ⟨x5,a5,b5,rfl,hf5,hE5,hb5⟩;obtain ⟨rfl,rfl⟩ := what_some HX.out hf5;have HB5 := Aside0.mk (qab (HI.out.b.trans (hb5.mono HI.out.b.size)) (.cells (hcs x a5) 39));have HR5 := Aside0.mk (qab hb5 (.cells (hcs x a5) 39));have Z5 := Aside0.mk (World.alloc_heap_new w5 (.cells (hcs x a5) 39));obtain ⟨g50,g51,g52⟩ := HG.out _ HB5.out;clear hb5 hE5 hf5))
    clear bw
    go_quiet (fail)
    have bw : wrap64 ((i : Int) + 1) = ((i + 1 : Nat) : Int) := by have := HPL.out;have := HLT.out;unfold wrap64;omega
    go_wp2_with (go_at_call 14;refine (HWO.out _ (qaa HR6.out _)).mono ?_;rintro en w7 ⟨v7,rfl,hR7,hb7⟩;have HR7 := Aside0.mk hR7;have HB7 := Aside0.mk hb7;obtain ⟨A7,c7,rfl,hc7,_⟩ := Kd.R_reads hR7;have HC7 := Aside0.mk hc7;clear hR7 hb7 hc7)
    go_roundg (P.length - (i + 1))
    case measure => have := HGG.out;have := HLT.out;omega
    case rel => exact ⟨i + 1,now2,A7,c7,op,HLT.out,Nat.le_refl _,(by first | rw [bw] | go_num),rfl,HC7.out,⟨MInv.rem HI.out (qaa HR6.out _) HR7.out HB7.out HL2.out HM.out⟩⟩
   ·obtain ⟨now2,hn2⟩ : ∃ y,withH now x = y := ⟨_,rfl⟩
    have hl2 : now2.length ≤ now.length + 1 := by
     rw [← hn2]
     unfold withH
     rw [List.length_append,List.length_cons,List.length_take,List.length_drop]
     have : (withoutH now x.f0.f0).length ≤ now.length := List.length_filter_le _ _
     omega
    have hWI := fun (W : World) (a : EA) (hb : Below wr.heap.size wr W) (hE : EC w3 x.f0 a) => (with_calls (HI.out.b.trans (hb.mono HI.out.b.size)) A9 c9 now x a (Kd.C_below HI.out.C hb) (by have := HNL.out;omega) (here_mk hE)).mono (fun en w' h => And.intro h hb)
    rw [hn2] at hm
    simp only [hn2] at hWI
    have HWI := Aside0.mk hWI
    have HG := Aside0.mk (show ∀ W,Below w3.heap.size w3 W → W.cell? (ad.add (i * 3)) = some (.int .i64 2) ∧ W.cell? ⟨(ad.add (i * 3)).block,(ad.add (i * 3)).off + 1,none⟩ = some (.string e.f0) ∧ W.cell? ⟨(ad.add (i * 3)).block,(ad.add (i * 3)).off + 2,none⟩ = some (.string e.f1) from hGG)
    obtain ⟨g0,g1,g2⟩ := HG.out wr HI.out.b
    have q1 : (x.f0.f1.toList != e.f1.toList) = false := bne_eq_false_iff_eq.2 hv
    have q2 : (x.f0.f1.toList == e.f1.toList) = true := beq_iff_eq.2 hv
    have HM := Aside0.mk hm
    have HX := Aside0.mk hx
    have HN := Aside0.mk hn
    have HL2 := Aside0.mk hl2
    clear hmk hGG hm hx hv hl2 hn2 hWI hn
    go_wp2_with (first
     | (go_at_call 13;refine (HF2.out _ HB5.out).mono ?_;rintro en w6 ⟨x6,a6,b6,rfl,hf6,hE6,hb6⟩;obtain ⟨rfl,rfl⟩ := what_some HX.out hf6;have HB6 := Aside0.mk (qab (HB5.out.trans (hb6.mono HB5.out.size)) (.cells (hcs x a6) 39));have HR6 := Aside0.mk (HR5.out.trans ((qab hb6 (.cells (hcs x a6) 39)).mono HR5.out.size));obtain ⟨g60,g61,g62⟩ := HG.out _ HB6.out;have Z14 := Aside0.mk (World.alloc_heap_new w6 (.cells (hcs x a6) 39));obtain ⟨c0,c1,c2,c3,c4,c5,c6,c7⟩ := hcs_cells Z14.out;have HE6 := Aside0.mk (hE6 rfl);clear hb6 hE6 hf6)
     | (go_at_call 13;refine HF1.out.mono ?_;rintro en w5 ⟨x5,a5,b5,rfl,hf5,hE5,hb5⟩;obtain rfl := what_none HN.out hf5;have HB5 := Aside0.mk (qab (HI.out.b.trans (hb5.mono HI.out.b.size)) (.cells (hcs x5 a5) 39));have HR5 := Aside0.mk (qab hb5 (.cells (hcs x5 a5) 39));have Z5 := Aside0.mk (World.alloc_heap_new w5 (.cells (hcs x5 a5) 39));obtain ⟨g50,g51,g52⟩ := HG.out _ HB5.out;clear hb5 hE5 hf5))
    clear bw
    go_quiet (fail)
    have bw : wrap64 ((i : Int) + 1) = ((i + 1 : Nat) : Int) := by have := HPL.out;have := HLT.out;unfold wrap64;omega
    go_wp2_with (first
     | (at_builtin;refine Kd.R_append Kd.string (w0 := w3) w3.heap.size rfl _ _ 33 9 (.string ⟨#[]⟩) 16 rfl Tryz.underlying33 info9 rfl (by decide) (by decide) _ op e.f0 [.string e.f0] (fun _ => True) (fun _ => False) rfl (by first | rfl | (simp;done) | (go_simp;done) | (simp [Act.eval];done)) rfl (fun _ hk => hk.elim) (fun _ _ => trivial) (by exact Kd.R_below HI.out.R HBB7.out) HW7.out HW7.out.size (by have := HI.out.lo;have := HLT.out;have := HPL.out;omega) ?_;intro v8 w8 hR8 hb8 hg8 hat8;have HR8 := Aside0.mk hR8;have HB8 := Aside0.mk hb8;have HG8 := Aside0.mk hg8;have HAT8 := Aside0.mk hat8;clear hR8 hb8 hg8 hat8)
     | (go_at_call 15;refine (HWI.out _ a6 (qaa HR6.out _) HE6.out).mono ?_;rintro en w7 ⟨⟨v7,rfl,hR7,hb7⟩,hp7⟩;have HR7 := Aside0.mk hR7;have HB7 := Aside0.mk hb7;obtain ⟨A7,c7,rfl,hc7,_⟩ := Kd.R_reads hR7;have HC7 := Aside0.mk hc7;have HP7 := Aside0.mk hp7;have HBB7 := Aside0.mk (HP7.out.trans (hb7.mono HP7.out.size));have HW7 := Aside0.mk (HI.out.b.trans (HBB7.out.mono HI.out.b.size));obtain ⟨g70,g71,g72⟩ := HG.out _ HW7.out;clear hR7 hb7 hc7 hp7))
    go_roundg (P.length - (i + 1))
    case measure => have := HGG.out;have := HLT.out;omega
    case rel => exact ⟨i + 1,now2,A7,c7,op ++ [e.f0],HLT.out,Nat.le_refl _,(by first | rw [bw] | go_num),rfl,HC7.out,⟨MInv.put HI.out HP7.out HR7.out (Below.refl _ _) HL2.out HR8.out HB8.out HG8.out HAT8.out HM.out⟩⟩
   ·obtain ⟨A10,c10,rfl,hc10,hC10⟩ := Kd.R_reads HI.out.R
    have hOP := fun (W : World) (hb : Below wr.heap.size wr W) => withoutB_calls ((HLA.out.1 _ (HB3.out.trans ((HI.out.b.trans (hb.mono HI.out.b.size)).mono HB3.out.size))).2.2) A10 c10 op e.f0 (Kd.C_below hC10 hb) hc10 (by have := HI.out.lo;have := HPL.out;omega)
    obtain ⟨op2,ho2⟩ : ∃ y,withoutB op e.f0 = y := ⟨_,rfl⟩
    rw [ho2] at hm hlen
    simp only [ho2] at hOP
    have HOP := Aside0.mk hOP
    have HG := Aside0.mk (show ∀ W,Below w3.heap.size w3 W → W.cell? (ad.add (i * 3)) = some (.int .i64 3) ∧ W.cell? ⟨(ad.add (i * 3)).block,(ad.add (i * 3)).off + 1,none⟩ = some (.string e.f0) ∧ W.cell? ⟨(ad.add (i * 3)).block,(ad.add (i * 3)).off + 2,none⟩ = some (.string e.f1) from hGG)
    obtain ⟨g0,g1,g2⟩ := HG.out wr HI.out.b
    have q1 : (x.f0.f1.toList != e.f1.toList) = false := bne_eq_false_iff_eq.2 hv
    have q2 : (x.f0.f1.toList == e.f1.toList) = true := beq_iff_eq.2 hv
    have HM := Aside0.mk hm
    have HX := Aside0.mk hx
    have HLN := Aside0.mk hlen
    have HLO := Aside0.mk (show op.length ≤ 100 by have := HI.out.lo;have := HPL.out;omega)
    clear hmk hGG hm hx hv hlen ho2 hOP hc10 hC10
    go_wp2_with (first
     | (go_at_call 16;refine (HOP.out _ HR6.out).mono ?_;rintro en w7 ⟨v7,rfl,hR7,hb7⟩;have HR7 := Aside0.mk hR7;have HB7 := Aside0.mk hb7;obtain ⟨A7,c7,rfl,hc7,_⟩ := Kd.R_reads hR7;have HW7 := Aside0.mk (HB6.out.trans (hb7.mono HB6.out.size));obtain ⟨g70,g71,g72⟩ := HG.out _ HW7.out;have Z7 := Aside0.mk (own_ver Z14.out hb7);obtain ⟨d0,d1,d2,d3,d4,d5,d6,d7⟩ := hcs_cells Z7.out;clear hR7 hb7 hc7)
     | (go_at_call 13;refine (HF2.out _ HB5.out).mono ?_;rintro en w6 ⟨x6,a6,b6,rfl,hf6,hE6,hb6⟩;obtain ⟨rfl,rfl⟩ := what_some HX.out hf6;have HB6 := Aside0.mk (qab (HB5.out.trans (hb6.mono HB5.out.size)) (.cells (hcs x a6) 39));have HR6 := Aside0.mk (HR5.out.trans ((qab hb6 (.cells (hcs x a6) 39)).mono HR5.out.size));obtain ⟨g60,g61,g62⟩ := HG.out _ HB6.out;have Z14 := Aside0.mk (World.alloc_heap_new w6 (.cells (hcs x a6) 39));obtain ⟨c0,c1,c2,c3,c4,c5,c6,c7⟩ := hcs_cells Z14.out;clear hb6 hE6 hf6)
     | (go_at_call 13;refine HF1.out.mono ?_;rintro en w5 ⟨x5,a5,b5,rfl,hf5,hE5,hb5⟩;skip;have HB5 := Aside0.mk (qab (HI.out.b.trans (hb5.mono HI.out.b.size)) (.cells (hcs x5 a5) 39));have HR5 := Aside0.mk (qab hb5 (.cells (hcs x5 a5) 39));have Z5 := Aside0.mk (World.alloc_heap_new w5 (.cells (hcs x5 a5) 39));obtain ⟨g50,g51,g52⟩ := HG.out _ HB5.out;clear hb5 hE5 hf5))
    clear bw
    have o0 : IntKind.i64.wrap ((op.length : Int) - 1) = (op2.length : Int) := by have := HLN.out;have := HLO.out;rw [IntWalk.i64_in _ (by omega)];omega
    have o1 : wrap64 ((op.length : Int) - 1) = (op2.length : Int) := by have := HLN.out;have := HLO.out;clear o0;unfold wrap64;omega
    go_quiet (fail)
    clear o0 o1
    have bw : wrap64 ((i : Int) + 1) = ((i + 1 : Nat) : Int) := by have := HPL.out;have := HLT.out;unfold wrap64;omega
    go_wp2
    go_roundg (P.length - (i + 1))
    case measure => have := HGG.out;have := HLT.out;omega
    case rel => exact ⟨i + 1,now,A9,c9,op2,HLT.out,Nat.le_refl _,(by first | rw [bw] | go_num),rfl,HC9.out,⟨MInv.set HI.out HR6.out (Kd.R_drewN HR7.out _) (qaa HB7.out _) (by have := HLN.out;omega) HM.out⟩⟩
  ·have hql : Q.drop i = [] := List.drop_of_length_le (by have := congrArg List.length HPQ.out;rw [List.length_map] at this;omega)
   have hmk := HI.out.mks
   rw [hql] at hmk
   obtain ⟨rfl,hv⟩ := makes_end hmk
   obtain ⟨A10,c10,rfl,_,_⟩ := Kd.R_reads HI.out.R
   have hV := versionsH_calls (w := wr) ((HLA.out.1 _ (HB3.out.trans (HI.out.b.mono HB3.out.size))).2.2) A9 c9 now B d m (thaw HI.out.C HI.out.b) hc9 ((HLA.out.1 _ (HB3.out.trans (HI.out.b.mono HB3.out.size))).2.1) HLA.out.2.2.2.2 (by have := HI.out.ln;have := HPL.out;omega)
   rw [hv] at hV
   have HV := Aside0.mk hV
   have HW := Aside0.mk HI.out.b
   have b2 : decide ((i : Int) < (P.length : Int)) = false := decide_eq_false (by omega)
   have b3 : decide (i < P.length) = false := decide_eq_false hlt
   clear hV hmk hql hv hc9 hi hg
   go_wp2_with (go_at_call 17;refine HV.out.mono ?_;rintro en w9 ⟨rfl,hb9⟩;have HB9 := Aside0.mk hb9;clear hb9)
   go_ret
   exact ⟨rfl,HB3.out.trans ((HW.out.trans (HB9.out.mono HW.out.size)).mono HB3.out.size)⟩
theorem law_makes {w : World} (hG : GL w) {A : Option Addr} {c : Nat} {l : List H8} {B : Option Addr} {d : Nat} {m : List H8} (hr : KH.C w A l.length l) (hc : l.length ≤ c) (hm : KH.C w B m.length m) (hd : m.length ≤ d) : LawM w A c l B d m := by
 by_cases hf : fewH l m = true
 ·by_cases hp : (fitsH l && fitsH m) = true
  ·exact makes_yes hG A c l B d m hr hc hm hd hf hp
  ·exact makes_no hG A c l B d m hr hc hm hd hf (by simpa using hp)
 ·exact makes_big hG A c l B d m hr hc hm hd (by simpa using hf)
end Go.Proofs.YtiidmjmkgjfaeaaGreatDoor.Ent

