import Derived.Test.YtiidmjmkgjfaeaaGreatDoorHeFind
import Derived.Test.YtiidmjmkgjfaeaaGreatDoorPAx10
import Derived.Test.YtiidmjmkgjfaeaaGreatDoorPAx9
import Derived.Test.YtiidmjmkgjfaeaaGreatDoorPAx11
import Derived.Test.YtiidmjmkgjfaeaaGreatDoorJouPlan
namespace Go.Proofs.YtiidmjmkgjfaeaaGreatDoor.Ent
open Go Go.RowKit Go.Shelf Go.Proofs.YtiidmjmkgjfaeaaGreatDoorW.PrintWords Go.Proofs.YtiidmjmkgjfaeaaGreatDoor.PA Go.Proofs.YtiidmjmkgjfaeaaGreatDoor.Pure
set_option linter.unusedVariables false
set_option linter.unusedSimpArgs false
def lightV6 (a : List S46) : Bool := decide (a.length ≤ 20) && a.all (fun x => decide (x.f0.size ≤ 100) && decide (x.f2.size ≤ 100))
theorem light6_l0 (a : List S46) (hl : a.length ≤ 20) : ∀ (n i : Nat),n + i = a.length → Ev (fun k => keelsonlaw22_light.l0 k a (i : Int)) ((a.drop i).all (fun x => decide (x.f0.size ≤ 100) && decide (x.f2.size ≤ 100)))
  | 0,i,h => by
    rw [List.drop_of_length_le (by omega)]
    refine Ev.shift ?_
    simp only [keelsonlaw22_light.l0]
    exact Ev.neg (by omega) (Ev.some_ _)
  | n + 1,i,h => by
    have hi : i < a.length := by omega
    rw [List.drop_eq_getElem_cons hi,List.all_cons]
    refine Ev.shift ?_
    simp only [keelsonlaw22_light.l0,rdT a i hi]
    refine Ev.pos (by omega) (Ev.pos (by omega) ?_)
    by_cases h1 : (a[i].f0.size : Int) > 100
    · rw [decide_eq_false (show ¬ a[i].f0.size ≤ 100 by omega)]
      exact Ev.pos h1 (Ev.eq_ (by simp))
    · refine Ev.neg h1 ?_
      rw [decide_eq_true (show a[i].f0.size ≤ 100 by omega)]
      by_cases h2 : (a[i].f2.size : Int) > 100
      · rw [decide_eq_false (show ¬ a[i].f2.size ≤ 100 by omega)]
        exact Ev.pos h2 (Ev.eq_ (by simp))
      · rw [decide_eq_true (show a[i].f2.size ≤ 100 by omega),Bool.true_and,Bool.true_and,wrap_succ i (by omega)]
        exact Ev.neg h2 (light6_l0 a hl n (i + 1) (by omega))
theorem light6_f (a : List S46) : Ev (fun k => keelsonlaw22_light.f k a) (lightV6 a) := by
  simp only [keelsonlaw22_light.f]
  unfold lightV6
  by_cases h : (a.length : Int) > 20
  · rw [decide_eq_false (show ¬ a.length ≤ 20 by omega)]
    exact Ev.pos h (Ev.eq_ (by simp))
  · rw [decide_eq_true (show a.length ≤ 20 by omega),Bool.true_and]
    refine Ev.neg h ?_
    have := light6_l0 a (by omega) a.length 0 (by omega)
    simpa using this
theorem lightV6_true {a : List S46} (h : lightV6 a = true) : a.length ≤ 20 ∧ ∀ x ∈ a,smS x := by
  unfold lightV6 at h
  rw [Bool.and_eq_true] at h
  refine ⟨of_decide_eq_true h.1,fun x hx => ?_⟩
  have := List.all_eq_true.1 h.2 x hx
  rw [Bool.and_eq_true] at this
  have h1 := of_decide_eq_true this.1
  have h2 := of_decide_eq_true this.2
  exact ⟨by omega,by omega⟩
def smallV6 (e : E6) : Bool := lightV6 e.f4 && (lightV6 e.f5 && (decide (e.f0.size ≤ 100) && (decide (e.f1.size ≤ 100) && (decide (e.f2.length ≤ 15) && (decide (e.f3.length ≤ 15) && (e.f2.all lightV6 && e.f3.all lightV6))))))
theorem small6_l1 (e : E6) (hl : e.f3.length ≤ 15) : ∀ (n i : Nat),n + i = e.f3.length → Ev (fun k => keelsonlaw22_fine.l1 k (i : Int) e.f0 e.f1 e.f2 e.f3 e.f4 e.f5) ((e.f3.drop i).all lightV6)
  | 0,i,h => by
    rw [List.drop_of_length_le (by omega)]
    refine Ev.shift ?_
    simp only [keelsonlaw22_fine.l1]
    exact Ev.neg (by omega) (Ev.some_ _)
  | n + 1,i,h => by
    have hi : i < e.f3.length := by omega
    rw [List.drop_eq_getElem_cons hi,List.all_cons]
    refine Ev.shift ?_
    simp only [keelsonlaw22_fine.l1,rdL e.f3 i hi]
    refine Ev.pos (by omega) (Ev.pos (by omega) (Ev.bind (light6_f _) ?_))
    cases lightV6 e.f3[i] with
    | false => exact Ev.neg (by simp) (Ev.eq_ (by simp))
    | true =>
      rw [Bool.true_and,wrap_succ i (by omega)]
      exact Ev.pos rfl (small6_l1 e hl n (i + 1) (by omega))
theorem small6_l0 (e : E6) (hl : e.f2.length ≤ 15) (hl3 : e.f3.length ≤ 15) : ∀ (n i : Nat),n + i = e.f2.length → Ev (fun k => keelsonlaw22_fine.l0 k (i : Int) e.f0 e.f1 e.f2 e.f3 e.f4 e.f5) ((e.f2.drop i).all lightV6 && e.f3.all lightV6)
  | 0,i,h => by
    rw [List.drop_of_length_le (by omega)]
    refine Ev.shift ?_
    simp only [keelsonlaw22_fine.l0]
    have := small6_l1 e hl3 e.f3.length 0 (by omega)
    rw [List.drop_zero] at this
    exact Ev.neg (by omega) (by simpa using this)
  | n + 1,i,h => by
    have hi : i < e.f2.length := by omega
    rw [List.drop_eq_getElem_cons hi,List.all_cons]
    refine Ev.shift ?_
    simp only [keelsonlaw22_fine.l0,rdL e.f2 i hi]
    refine Ev.pos (by omega) (Ev.pos (by omega) (Ev.bind (light6_f _) ?_))
    cases lightV6 e.f2[i] with
    | false => exact Ev.neg (by simp) (Ev.eq_ (by simp))
    | true =>
      rw [Bool.true_and,wrap_succ i (by omega)]
      exact Ev.pos rfl (small6_l0 e hl hl3 n (i + 1) (by omega))
theorem small6_f (e : E6) : Ev (fun k => keelsonlaw22_fine.f k e.f0 e.f1 e.f2 e.f3 e.f4 e.f5) (smallV6 e) := by
  have bad : Ev (fun k => keelsonlaw22_fine.j0 k true e.f0 e.f1 e.f2 e.f3 e.f4 e.f5) false := by
    refine Ev.shift ?_
    simp only [keelsonlaw22_fine.j0]
    exact Ev.pos trivial (Ev.some_ _)
  simp only [keelsonlaw22_fine.f]
  unfold smallV6
  refine Ev.bind (light6_f e.f4) (Ev.bind (light6_f e.f5) ?_)
  cases lightV6 e.f4 with
  | false => exact Ev.neg (by simp) bad
  | true =>
    refine Ev.pos rfl ?_
    cases lightV6 e.f5 with
    | false => exact Ev.neg (by simp) bad
    | true =>
      refine Ev.pos rfl ?_
      simp only [Bool.true_and]
      by_cases h0 : (e.f0.size : Int) > 100
      · rw [decide_eq_false (show ¬ e.f0.size ≤ 100 by omega),Bool.false_and];exact Ev.pos h0 bad
      refine Ev.neg h0 ?_
      rw [decide_eq_true (show e.f0.size ≤ 100 by omega),Bool.true_and]
      by_cases h1 : (e.f1.size : Int) > 100
      · rw [decide_eq_false (show ¬ e.f1.size ≤ 100 by omega),Bool.false_and];exact Ev.pos h1 bad
      refine Ev.neg h1 ?_
      rw [decide_eq_true (show e.f1.size ≤ 100 by omega),Bool.true_and]
      by_cases h2 : (e.f2.length : Int) > 15
      · rw [decide_eq_false (show ¬ e.f2.length ≤ 15 by omega),Bool.false_and];exact Ev.pos h2 bad
      refine Ev.neg h2 ?_
      rw [decide_eq_true (show e.f2.length ≤ 15 by omega),Bool.true_and]
      by_cases h3 : (e.f3.length : Int) > 15
      · rw [decide_eq_false (show ¬ e.f3.length ≤ 15 by omega),Bool.false_and,decide_eq_true h3];exact bad
      rw [decide_eq_true (show e.f3.length ≤ 15 by omega),Bool.true_and,decide_eq_false h3]
      refine Ev.shift ?_
      simp only [keelsonlaw22_fine.j0]
      have := small6_l0 e (by omega) (by omega) e.f2.length 0 (by omega)
      rw [List.drop_zero] at this
      exact Ev.neg (by simp) this
theorem smallV6_true {e : E6} (h : smallV6 e = true) : SmE e ∧ e.f5.length ≤ 20 := by
  unfold smallV6 at h
  simp only [Bool.and_eq_true,decide_eq_true_eq] at h
  obtain ⟨h4,h5,h0,h1,h2,h3,g2,g3⟩ := h
  have l4 := lightV6_true h4
  have l5 := lightV6_true h5
  have k2 := fun g hg => lightV6_true (List.all_eq_true.1 g2 g hg)
  have k3 := fun g hg => lightV6_true (List.all_eq_true.1 g3 g hg)
  exact ⟨⟨by omega,by omega,⟨by omega,fun g hg => by have := (k2 g hg).1;omega,fun g hg => (k2 g hg).2⟩,⟨by omega,fun g hg => by have := (k3 g hg).1;omega,fun g hg => (k3 g hg).2⟩,by omega,l4.2,by omega,l5.2⟩,l5.1⟩
def fineH (h : H8) : Bool := smallV6 h.f0
def smallH (l : List H8) : Bool := decide (l.length ≤ 20) && l.all fineH
theorem rdH (l : List H8) (i : Nat) (h : i < l.length) : rd_T39 l (i : Int) = l[i] := by
  unfold rd_T39
  rw [Int.toNat_natCast,List.getD_eq_getElem?_getD,List.getElem?_eq_getElem h]
  rfl
theorem smallH_l1 (l : List H8) (hl : l.length ≤ 20) : ∀ (n i : Nat),n + i = l.length → Ev (fun k => keelsonlaw22_small.l1 k l (i : Int)) ((l.drop i).all fineH)
  | 0,i,h => by
    rw [List.drop_of_length_le (by omega)]
    refine Ev.shift ?_
    simp only [keelsonlaw22_small.l1]
    exact Ev.neg (by omega) (Ev.some_ _)
  | n + 1,i,h => by
    have hi : i < l.length := by omega
    rw [List.drop_eq_getElem_cons hi,List.all_cons]
    refine Ev.shift ?_
    simp only [keelsonlaw22_small.l1,rdH l i hi]
    refine Ev.pos (by omega) (Ev.pos (by omega) (Ev.bind (small6_f _) ?_))
    unfold fineH
    cases smallV6 l[i].f0 with
    | false => exact Ev.neg (by simp) (Ev.eq_ (by simp))
    | true =>
      rw [Bool.true_and,wrap_succ i (by omega)]
      exact Ev.pos rfl (smallH_l1 l hl n (i + 1) (by omega))
theorem smallH_f (l : List H8) : Ev (fun k => keelsonlaw22_small.f k ([] : List S37) l) (smallH l) := by
  simp only [keelsonlaw22_small.f]
  unfold smallH
  refine Ev.neg (by simp) ?_
  refine Ev.shift ?_
  simp only [keelsonlaw22_small.j0]
  by_cases h : (l.length : Int) > 20
  · rw [decide_eq_false (show ¬ l.length ≤ 20 by omega),Bool.false_and,decide_eq_true h]
    exact Ev.pos rfl (Ev.some_ _)
  · rw [decide_eq_true (show l.length ≤ 20 by omega),Bool.true_and,decide_eq_false h]
    refine Ev.neg (by simp) ?_
    refine Ev.shift ?_
    simp only [keelsonlaw22_small.l0]
    refine Ev.neg (by simp) ?_
    have := smallH_l1 l (by omega) l.length 0 (by omega)
    simpa using this
def fewH (l m : List H8) : Bool := smallH l && smallH m
theorem fewH_f (l m : List H8) : Ev (fun k => keelsonlaw22_few.f k l m) (fewH l m) := by
  simp only [keelsonlaw22_few.f]
  unfold fewH
  refine Ev.bind (smallH_f l) (Ev.bind (smallH_f m) ?_)
  cases smallH l with
  | false => exact Ev.neg (by simp) (Ev.some_ _)
  | true => exact Ev.pos rfl (Ev.eq_ (by simp))
theorem smallH_true {l : List H8} (h : smallH l = true) : l.length ≤ 20 ∧ ∀ x ∈ l,SmE x.f0 := by
  unfold smallH at h
  rw [Bool.and_eq_true] at h
  exact ⟨of_decide_eq_true h.1,fun x hx => (smallV6_true (List.all_eq_true.1 h.2 x hx)).1⟩
theorem qb_few {w : World} (hG : GL w) (A : Option Addr) (c : Nat) (l : List H8) (B : Option Addr) (d : Nat) (m : List H8) (hr : KH.C w A l.length l) (hc : l.length ≤ c) (hm : KH.C w B m.length m) (hd : m.length ≤ d) : QB w 7 #[.slice A l.length c,.slice B m.length d] (.bool (fewH l m)) := fun W hb => by
  obtain ⟨k,hk⟩ := fewH_f l m
  exact keelsonlaw22_few.calls k A c l B d m _ W (hG.below hb) (Kd.C_below hr hb) hc (Kd.C_below hm hb) hd (hk k (Nat.le_refl _))
end Go.Proofs.YtiidmjmkgjfaeaaGreatDoor.Ent

namespace Go.Proofs.YtiidmjmkgjfaeaaGreatDoor.Ent
open Go Go.RowKit Go.Shelf Go.Proofs.YtiidmjmkgjfaeaaGreatDoorW.PrintWords Go.Proofs.YtiidmjmkgjfaeaaGreatDoorW.PrintLast Go.Proofs.YtiidmjmkgjfaeaaGreatDoor.PA Go.Proofs.YtiidmjmkgjfaeaaGreatDoor.Pure
set_option linter.unusedVariables false
set_option linter.unusedSimpArgs false
theorem C_one {α : Type} (d : Kd α) {W : World} {b : Nat} {cs : List Value} {ty : TypeId} {x : α} (hb : W.heap[b]? = some (.cells cs.toArray ty (0,0))) (hx : d.K W x cs) : d.C W (some ⟨b,0,none⟩) 1 [x] := by
  refine ⟨rfl,by omega,fun _ => ⟨⟨b,0,none⟩,rfl,fun j p hj => ?_⟩⟩
  match j,hj with
  | 0,hj =>
    obtain rfl : x = p := by simpa using hj
    refine ⟨cs,d.K_len hx,hx,fun i u hi => ?_⟩
    rw [Addr.add_lit,Nat.zero_mul,Nat.zero_add,Nat.zero_add]
    simp [World.cell?,hb,hi]
theorem anyA_f {p : Nat → S46 → Option Bool} {q : S46 → Bool} (h : ∀ x,Ev (fun k => p k x) (q x)) : ∀ l : List S46,Ev (fun k => anyA (p k) l) (l.any q)
  | [] => Ev.some_ _
  | x :: r => by
    simp only [anyA,List.any_cons]
    refine Ev.bind (h x) ?_
    cases q x with
    | true => exact Ev.pos rfl (Ev.eq_ rfl)
    | false => exact Ev.neg (by simp) (by rw [Bool.false_or];exact anyA_f h r)
def metE (G g : List S46) : Bool := g.any fun x => G.any (givesS x)
theorem prov_f (x y : S46) : Ev (fun k => atomProv k x y) (givesS x y) := by
  unfold atomProv
  have := Provides_f (bs x.f0) x.f1 (bs x.f2) (bs y.f0) y.f1 (bs y.f2)
  simp only [mk_bs] at this
  exact this
theorem met_f (G g : List S46) (hg : g.length < 1000000000000) : Ev (fun k => groupMet k G g) (metE G g) := by
  unfold groupMet
  exact Ev.pos hg (anyA_f (p := fun k a => anyA (atomProv k a) G) (q := fun a => G.any (givesS a)) (fun a => anyA_f (fun b => prov_f a b) G) g)
theorem open1_f (G g : List S46) (hg : g.length < 1000000000000) (hG : G.length < 1000000000000) : Ev (fun k => depends_Open.f k [g] G) (if metE G g = true then [] else [(0 : Int)]) := by
  unfold depends_Open.f
  refine Ev.pos ⟨by simp,hG⟩ ?_
  simp only [openF]
  refine Ev.bind (met_f G g hg) ?_
  cases metE G g with
  | true => exact Ev.pos rfl (Ev.eq_ rfl)
  | false => exact Ev.neg (by simp) (Ev.eq_ rfl)
set_option maxRecDepth 100000 in
set_option maxHeartbeats 4000000 in
theorem lneeds_calls {w : World} (hG : GL w) {a b : E6} {p q : EA} (ha : EC w a p) (hb : EC w b q) (la : a.f2.length ≤ 100000000) (lg : ∀ q ∈ a.f2,q.length ≤ 100000000) (lb : b.f5.length ≤ 100000000) :
    Calls Tryz.prog 56 #[.agg (ecs a p),.agg (ecs b q)] w fun en w' => en = .returned (.bool (needsE a b)) ∧ Below w.heap.size w w' := by
  obtain ⟨z0,z1⟩ := two_boxes w a b p q 37
  obtain ⟨W,hW⟩ : ∃ W,(w.alloc (.cells (ecs a p) 37)).alloc (.cells (ecs b q) 37) = W := ⟨_,rfl⟩
  have hbW : Below w.heap.size w W := by rw [← hW];exact qab (qab (Below.refl _ _) _) _
  rw [hW] at z0 z1
  have HE := Aside0.mk (gives_calls (hb.below hbW) lb)
  have HBW := Aside0.mk hbW
  have HA := Aside0.mk ha
  have LA := Aside0.mk la
  have LG := Aside0.mk lg
  have LB := Aside0.mk lb
  have HG0 := Aside0.mk hG
  obtain ⟨y0,y1,y2,y3,y4,y5⟩ := ecs_cells z1
  have hz1 : W.heap.size = w.heap.size + 2 := by rw [← hW];simp
  have Z0 := Aside0.mk z0
  have HZ1 := Aside0.mk hz1
  obtain ⟨r,hr⟩ : ∃ r,needsE a b = r := ⟨_,rfl⟩
  rw [hr]
  have HR := Aside0.mk hr
  clear ha hb la lg lb hbW z0 z1 hz1 hr hG
  go_enter Tryz.func56,Tryz.ntmps56
  go_wp2_with (go_at_call 44;refine HE.out.mono ?_;rintro en w1 ⟨v,rfl,hR,hb1⟩;obtain ⟨A1,c1,rfl,hc1,hC1⟩ := Kd.R_reads hR;have HB1 := Aside0.mk hb1;have HC1 := Aside0.mk hC1;have HCC := Aside0.mk hc1;clear hR hb1 hc1 hC1 y0 y1 y2 y3 y4 y5)
  go_wp2
  have HB2 := Aside0.mk (HBW.out.trans (HB1.out.mono HBW.out.size))
  have Z1 := Aside0.mk ((HB1.out.block _ (Array.getElem?_eq_some_iff.1 Z0.out).1).trans Z0.out)
  go_loopg [6] a.f2.length (fun gg v6 wr => ∃ i : Nat,i ≤ a.f2.length ∧ a.f2.length - i ≤ gg ∧ v6 = .int .i64 (i : Int) ∧ Aside0 ((a.f2.drop i).any (metE (givesE b)) = r) ∧ Aside0 (Below w1.heap.size w1 wr))
  case atStart => exact ⟨0,Nat.zero_le _,by omega,rfl,⟨HR.out⟩,⟨Below.refl _ _⟩⟩
  case round =>
    obtain ⟨i,hi,hg,rfl,HD,HW⟩ := hrel
    have bw : wrap64 ((i : Int) + 1) = ((i + 1 : Nat) : Int) := by have := LA.out;unfold wrap64;omega
    have Zr := Aside0.mk ((HW.out.block _ (Array.getElem?_eq_some_iff.1 Z1.out).1).trans Z1.out)
    obtain ⟨x0,x1,x2,x3,x4,x5⟩ := ecs_cells Zr.out
    by_cases hlt : i < a.f2.length
    · have b2 : decide ((i : Int) < (a.f2.length : Int)) = true := decide_eq_true (by omega)
      have p0 : (0 : Int) ≤ (i : Int) := by omega
      have p1 : (i : Int) < (a.f2.length : Int) := by omega
      have hbwr := HB2.out.trans (HW.out.mono HB2.out.size)
      obtain ⟨ad,cs,had,hcl,⟨Ag,cg,rfl,hcg,hgC⟩,hcc⟩ := Kd.C_get (Kd.C_below HA.out.r2 hbwr) [] (i : Int) p0 p1
      have hcell := hcc 0 _ rfl
      rw [Int.toNat_natCast] at hcell hgC hcg
      obtain ⟨g,hgg,hm,hrest⟩ : ∃ g,a.f2.getD i [] = g ∧ g ∈ a.f2 ∧ a.f2.drop i = g :: a.f2.drop (i + 1) := ⟨_,rfl,by
        rw [List.getD_eq_getElem?_getD,List.getElem?_eq_getElem hlt]
        exact List.getElem_mem hlt,by
        rw [List.drop_eq_getElem_cons hlt]
        congr 1
        rw [List.getD_eq_getElem?_getD,List.getElem?_eq_getElem hlt]
        rfl⟩
      rw [hgg] at hcell hgC hcg
      have hcell : wr.cell? (ad.add i) = some (.slice Ag g.length cg) := by have := hcell;rwa [show (i * (Kd.slice 46 k46).sz + 0) = i by show i * 1 + 0 = i;omega] at this
      have hD := HD.out
      rw [hrest,List.any_cons] at hD
      obtain ⟨t,ht⟩ : ∃ t,metE (givesE b) g = t := ⟨_,rfl⟩
      have hlg := LG.out g hm
      have hlG : (givesE b).length < 1000000000000 := by unfold givesE;rw [List.length_cons];have := LB.out;omega
      obtain ⟨k,hk⟩ := open1_f (givesE b) g (by omega) hlG
      have hba := qab (Below.refl wr.heap.size wr) (.cells #[.slice Ag g.length cg] 47)
      have hO := depends_Open.calls k (some ⟨wr.heap.size,0,none⟩) 1 [g] A1 c1 (givesE b) _ _ ((HG0.out.below hbwr).below hba) (C_one KG (cs := [.slice Ag g.length cg]) (World.alloc_heap_new wr _) ⟨Ag,cg,rfl,hcg,Kd.C_below hgC hba⟩) (Nat.le_refl 1) (Kd.C_below (Kd.C_below HC1.out HW.out) hba) HCC.out (hk k (Nat.le_refl _))
      rw [ht] at hO hD
      have HO := Aside0.mk hO
      have HDD := Aside0.mk hD
      have HLT := Aside0.mk hlt
      have HGG := Aside0.mk hg
      clear hcc hcl hcg hgC hgg hm hrest hD ht hlg hlG hk hba hO hlt hg hi hbwr
      rw [had] at x2
      clear had
      cases t with
      | true =>
        rw [if_pos rfl] at HO
        go_wp2_with (go_at_call 74;refine HO.out.mono ?_;rintro en w4 ⟨v4,rfl,hR,hb4⟩;obtain ⟨A4,c4,rfl,_,_⟩ := Kd.R_reads hR;have HQ4 := Aside0.mk hb4;clear hR hb4)
        go_ret
        exact ⟨by rw [← HDD.out];rfl,HB2.out.trans ((HW.out.trans (((qab (Below.refl wr.heap.size wr) _).trans (HQ4.out.mono (by simp))).mono HW.out.size)).mono HB2.out.size)⟩
      | false =>
        rw [if_neg (by decide)] at HO
        go_wp2_with (go_at_call 74;refine HO.out.mono ?_;rintro en w4 ⟨v4,rfl,hR,hb4⟩;obtain ⟨A4,c4,rfl,_,_⟩ := Kd.R_reads hR;have HQ4 := Aside0.mk hb4;clear hR hb4)
        go_roundg (a.f2.length - (i + 1))
        case measure => have := HGG.out;have := HLT.out;omega
        case rel => exact ⟨i + 1,HLT.out,Nat.le_refl _,by first | rw [bw] | go_num,⟨by have := HDD.out;rwa [Bool.false_or] at this⟩,⟨HW.out.trans (((qab (Below.refl wr.heap.size wr) _).trans (HQ4.out.mono (by simp))).mono HW.out.size)⟩⟩
    · have b2 : decide ((i : Int) < (a.f2.length : Int)) = false := decide_eq_false (by omega)
      have hD := HD.out
      rw [List.drop_of_length_le (by omega)] at hD
      have HDD := Aside0.mk hD
      clear hD hi hg
      go_wp2
      go_ret
      exact ⟨by rw [← HDD.out];rfl,HB2.out.trans (HW.out.mono HB2.out.size)⟩
theorem qb_lneeds {w : World} (hG : GL w) {a b : E6} {p q : EA} (ha : EC w a p) (hb : EC w b q) (sa : SmE a) (sb : SmE b) : QB w 56 #[.agg (ecs a p),.agg (ecs b q)] (.bool (needsE a b)) :=
  fun W h => lneeds_calls (hG.below h) (ha.below h) (hb.below h) (by have := sa.s2.len;omega) (fun q hq => by have := sa.s2.each q hq;omega) (by have := sb.l5;omega)
end Go.Proofs.YtiidmjmkgjfaeaaGreatDoor.Ent

