import Derived.Test.YtiidmjmkgjfaeaaGreatDoorHePrint
import Derived.Test.YtiidmjmkgjfaeaaGreatDoorEntRight
import Derived.Test.YtiidmjmkgjfaeaaGreatDoorHeIdx
import Derived.RangeFuncRecord
import Derived.Test.YtiidmjmkgjfaeaaGreatDoorHeRight
import Derived.Test.YtiidmjmkgjfaeaaGreatDoorJouOrd2
namespace Go.Proofs.YtiidmjmkgjfaeaaGreatDoor.Ent
open Go Go.RowKit Go.Shelf Go.Proofs.YtiidmjmkgjfaeaaGreatDoorW.PrintWords Go.Proofs.YtiidmjmkgjfaeaaGreatDoor.PA Go.Proofs.YtiidmjmkgjfaeaaGreatDoor.Pure
set_option linter.unusedVariables false
set_option linter.unusedSimpArgs false
theorem hprint_calls {w : World} (hG : GL w) (A : Option Addr) (c : Nat) (l : List H8) (hr : KH.C w A l.length l) (hl : l.length ≤ 1000000) (hs : ∀ h ∈ l,SmE h.f0) :
  Calls Tryz.prog 37 #[.slice A l.length c] w fun e w' => e = .returned (.string (printH l)) ∧ Below w.heap.size w w' := by
 unfold printH
 by_cases h : rightH l = true
 ·rw [if_pos h];exact hprint_yes hG A c l hr hs h
 ·rw [if_neg h];exact hprint_no hG A c l hr hl hs (by simpa using h)
theorem qb_hprint {w : World} (hG : GL w) (A : Option Addr) (c : Nat) (l : List H8) (hr : KH.C w A l.length l) (hl : l.length ≤ 1000000) (hs : ∀ h ∈ l,SmE h.f0) : QB w 37 #[.slice A l.length c] (.string (printH l)) :=
 fun W hb => hprint_calls (hG.below hb) A c l (Kd.C_below hr hb) hl hs
theorem qb_stright {w : World} (hG : GL w) (A : Option Addr) (c : Nat) (l : List H8) (hr : KH.C w A l.length l) (hl : l.length ≤ 1000000) (hs : ∀ h ∈ l,SmE h.f0) : QB w 36 #[.slice A l.length c] (.bool (rightH l)) :=
 fun W hb => hright_calls (hG.below hb) A c l (Kd.C_below hr hb) hl hs
set_option maxRecDepth 100000 in
set_option maxHeartbeats 1000000 in
theorem fits_calls {w : World} (hG : GL w) (A : Option Addr) (c : Nat) (l : List H8) (hr : KH.C w A l.length l) (hl : l.length ≤ 1000000) (hs : ∀ h ∈ l,SmE h.f0) :
  Calls Tryz.prog 19 #[.slice A l.length c] w fun e w' => e = .returned (.bool (fitsH l)) ∧ Below w.heap.size w w' := by
 have hR := qb_stright hG A c l hr hl hs
 have hP := qb_hprint hG A c l hr hl hs
 unfold fitsH
 obtain ⟨r,hrr⟩ : ∃ r,rightH l = r := ⟨_,rfl⟩
 obtain ⟨t,ht⟩ : ∃ t,printH l = t := ⟨_,rfl⟩
 rw [hrr] at hR ⊢
 rw [ht] at hP ⊢
 have HR := Aside0.mk hR
 have HP := Aside0.mk hP
 clear hG hr hl hs hrr ht hR hP
 cases r
 case false =>
  rw [Bool.false_and]
  go_enter Tryz.func19,Tryz.ntmps19
  go_wp2_with (go_at_call 36;refine (HR.out _ (Below.refl _ _)).mono ?_;rintro e w1 ⟨rfl,hb1⟩)
  go_ret
  exact ⟨rfl,hb1⟩
 rw [Bool.true_and]
 cases l with
 | nil =>
  rw [List.isEmpty_nil,Bool.true_or]
  have d0 : decide (((([] : List H8).length : Nat) : Int) = 0) = true := rfl
  go_enter Tryz.func19,Tryz.ntmps19
  go_wp2_with (go_at_call 36;refine (HR.out _ (Below.refl _ _)).mono ?_;rintro e w1 ⟨rfl,hb1⟩)
  go_ret
  exact ⟨rfl,hb1⟩
 | cons x r =>
  obtain ⟨n,hn⟩ : ∃ n,(x :: r).length = n := ⟨_,rfl⟩
  have hpos : n ≠ 0 := by rw [← hn];simp
  rw [show (x :: r).isEmpty = false from rfl,Bool.false_or]
  rw [hn] at HR HP ⊢
  have d0 : decide ((n : Int) = 0) = false := decide_eq_false (by omega)
  have d1 : ¬ (n = 0) := hpos
  have d2 : decide (n = 0) = false := decide_eq_false hpos
  have d3 : ((n : Int) == 0) = false := beq_eq_false_iff_ne.2 (by omega)
  clear hn hpos
  obtain ⟨b,hb⟩ : ∃ b,t.toList.isEmpty = b := ⟨_,rfl⟩
  rw [hb]
  cases b
  case' true => have hq : t.toList = [] := List.isEmpty_iff.1 hb
  case' false => have hq : ¬ t.toList = [] := by intro h;rw [h] at hb;cases hb
  all_goals
   go_enter Tryz.func19,Tryz.ntmps19
   go_wp2_with (first
    | (go_at_call 37;refine (HP.out _ HB1.out).mono ?_;rintro e w2 ⟨rfl,hb2⟩;have HB2 := Aside0.mk (HB1.out.trans (hb2.mono HB1.out.size));clear hb2)
    | (go_at_call 36;refine (HR.out _ (Below.refl _ _)).mono ?_;rintro e w1 ⟨rfl,hb1⟩;have HB1 := Aside0.mk hb1;clear hb1))
   go_ret
   exact ⟨by first | rfl | (congr 2;exact d3),HB2.out⟩
theorem qb_fits {w : World} (hG : GL w) (A : Option Addr) (c : Nat) (l : List H8) (hr : KH.C w A l.length l) (hl : l.length ≤ 1000000) (hs : ∀ h ∈ l,SmE h.f0) : QB w 19 #[.slice A l.length c] (.bool (fitsH l)) :=
 fun W hb => fits_calls (hG.below hb) A c l (Kd.C_below hr hb) hl hs
end Go.Proofs.YtiidmjmkgjfaeaaGreatDoor.Ent

namespace Go.Proofs.YtiidmjmkgjfaeaaGreatDoor.Ent
open Go Go.RowKit Go.Shelf Go.Proofs.YtiidmjmkgjfaeaaGreatDoorW.PrintWords Go.Proofs.YtiidmjmkgjfaeaaGreatDoor.PA Go.Proofs.YtiidmjmkgjfaeaaGreatDoor.Pure
set_option linter.unusedVariables false
set_option linter.unusedSimpArgs false
theorem needs111_pred {w : World} (hG : GL w) (x : S46) (D : Nat) (h0 : w.cell? ⟨D,0,none⟩ = some (.string x.f0)) (h1 : w.cell? ⟨D,1,none⟩ = some (.int .i64 x.f1)) (h2 : w.cell? ⟨D,2,none⟩ = some (.string x.f2)) (l : List S46) :
  PredP KA (givesS x) 50 #[.pointer (some ⟨D,0,none⟩)] w l := by
 intro W y cs hb _ hK
 obtain rfl := k46_open hK
 have g0 := (hb.cell (World.block_lt_of_cell? _ _ h0)).trans h0
 have g1 := (hb.cell (World.block_lt_of_cell? _ _ h1)).trans h1
 have g2 := (hb.cell (World.block_lt_of_cell? _ _ h2)).trans h2
 have hDW : D < W.heap.size := World.block_lt_of_cell? _ _ g0
 have hne : D ≠ W.heap.size := by omega
 have HP := Aside0.mk (qb_prov hG x y)
 clear hK h0 h1 h2
 show Calls Tryz.prog 50 #[.agg #[.string y.f0,.int .i64 y.f1,.string y.f2],.pointer (some ⟨D,0,none⟩)] W _
 go_enter Tryz.func50,Tryz.ntmps50
 go_wp2_with (go_at_call 51;refine (HP.out.at_ (qab hb _)).mono ?_;rintro e w' ⟨rfl,hb'⟩)
 go_ret
 exact ⟨rfl,hb'⟩
theorem needs11_pred {w : World} (hG : GL w) (A1 : Option Addr) (c1 : Nat) (g : List S46) (D : Nat) (hD : w.cell? ⟨D,0,none⟩ = some (.slice A1 g.length c1)) (hC : Kd.C KA w A1 g.length g) (hl : g.length < 1000000000000) (l : List S46) :
  PredP KA (fun x => g.any (givesS x)) 48 #[.pointer (some ⟨D,0,none⟩)] w l := by
 intro W x cs hb _ hK
 obtain rfl := k46_open hK
 have gD := (hb.cell (World.block_lt_of_cell? _ _ hD)).trans hD
 have hDW : D < W.heap.size := World.block_lt_of_cell? _ _ gD
 have hne : D ≠ W.heap.size := by omega
 obtain ⟨W1,hW1⟩ : ∃ W1,W.alloc (.cells #[.string x.f0,.int .i64 x.f1,.string x.f2] 46) = W1 := ⟨_,rfl⟩
 have hb1 : Below w.heap.size w W1 := by rw [← hW1];exact qab hb _
 have hbW : Below W.heap.size W W1 := by rw [← hW1];exact qab (Below.refl _ _) _
 have x0 : W1.cell? ⟨W.heap.size,0,none⟩ = some (.string x.f0) := by rw [← hW1,World.cell?_alloc_new];rfl
 have x1 : W1.cell? ⟨W.heap.size,1,none⟩ = some (.int .i64 x.f1) := by rw [← hW1,World.cell?_alloc_new];rfl
 have x2 : W1.cell? ⟨W.heap.size,2,none⟩ = some (.string x.f2) := by rw [← hW1,World.cell?_alloc_new];rfl
 have gD1 : W1.cell? ⟨D,0,none⟩ = some (.slice A1 g.length c1) := (hbW.cell hDW).trans gD
 have HC := Aside0.mk (containsAtom (givesS x) 50 #[.pointer (some ⟨W.heap.size,0,none⟩)] (enters_of Tryz.func50 (by kernel_rfl) rfl) W1 A1 c1 g (needs111_pred (hG.below hb1) x W.heap.size x0 x1 x2 g) (Kd.C_below hC hb1) hl)
 have HB := Aside0.mk hb1
 have HBW := Aside0.mk hbW
 clear hK hC x0 x1 x2 hD gD hb hb1 hbW
 show Calls Tryz.prog 48 #[.agg #[.string x.f0,.int .i64 x.f1,.string x.f2],.pointer (some ⟨D,0,none⟩)] W _
 go_enter Tryz.func48,Tryz.ntmps48
 go_wp2_with (go_at_call 49;refine HC.out.mono ?_;rintro e w' ⟨rfl,hb'⟩)
 go_ret
 exact ⟨rfl,HB.out.trans (hb'.mono HB.out.size)⟩
theorem needs1_pred {w : World} (hG : GL w) (A1 : Option Addr) (c1 : Nat) (g : List S46) (D : Nat) (hD : w.cell? ⟨D,0,none⟩ = some (.slice A1 g.length c1)) (hC : Kd.C KA w A1 g.length g) (hl : g.length < 1000000000000) (l : List (List S46)) (hls : ∀ x ∈ l,x.length < 1000000000000) :
  PredC KG (fun q => q.any fun x => g.any (givesS x)) 46 #[.pointer (some ⟨D,0,none⟩)] w l := by
 intro W x cs hb hm hK
 obtain ⟨A,c,rfl,hc,hx⟩ := hK
 have gD := (hb.cell (World.block_lt_of_cell? _ _ hD)).trans hD
 have HC := Aside0.mk (containsGAtom (fun x => g.any (givesS x)) 48 #[.pointer (some ⟨D,0,none⟩)] (enters_of Tryz.func48 (by kernel_rfl) rfl) W A c x (needs11_pred (hG.below hb) A1 c1 g D gD (Kd.C_below hC hb) hl x) hx (hls x hm))
 have HB := Aside0.mk hb
 clear hC hD gD hb hm hx hc
 show Calls Tryz.prog 46 #[.slice A x.length c,.pointer (some ⟨D,0,none⟩)] W _
 go_enter Tryz.func46,Tryz.ntmps46
 go_wp2_with (go_at_call 47;refine HC.out.mono ?_;rintro e w' ⟨rfl,hb'⟩)
 go_ret
 exact ⟨rfl,HB.out.trans (hb'.mono HB.out.size)⟩
def needsE (a b : E6) : Bool := a.f2.any fun q => q.any fun x => (givesE b).any (givesS x)
theorem needs_step {w W w1 W2 : World} (hG : GL w) {a b : E6} {p : EA} (z0 : W.heap[w.heap.size]? = some (.cells (ecs a p) 37 (0,0))) (hBW : Below w.heap.size w W) (ha : EC w a p) (la : a.f2.length ≤ 100000000) (lg : ∀ q ∈ a.f2,q.length ≤ 100000000) (lb : b.f5.length ≤ 100000000)
  {A1 : Option Addr} {c1 : Nat} (hC1 : KA.C w1 A1 (givesE b).length (givesE b)) (hb1 : Below W.heap.size W w1) (hW2 : w1.alloc (.cells #[.slice A1 (givesE b).length c1] 35) = W2) :
  W2.cell? ⟨w.heap.size,2,none⟩ = some (.slice p.A2 a.f2.length p.c2) ∧ Calls Tryz.prog 45 #[.slice p.A2 a.f2.length p.c2,.func (.func 46) #[] #[.pointer (some ⟨w1.heap.size,0,none⟩)]] W2 fun e w' => e = .returned (.bool (needsE a b)) ∧ Below w.heap.size w w' := by
 have hbw1 : Below w.heap.size w w1 := hBW.trans (hb1.mono hBW.size)
 have hb12 : Below w1.heap.size w1 W2 := by rw [← hW2];exact qab (Below.refl _ _) _
 have hbw2 : Below w.heap.size w W2 := hbw1.trans (hb12.mono hbw1.size)
 have z1 : W2.heap[w.heap.size]? = some (.cells (ecs a p) 37 (0,0)) := by
  have hlt := (Array.getElem?_eq_some_iff.1 z0).1
  exact ((hb12.block _ (Nat.lt_of_lt_of_le hlt hb1.size)).trans (hb1.block _ hlt)).trans z0
 have hD : W2.cell? ⟨w1.heap.size,0,none⟩ = some (.slice A1 (givesE b).length c1) := by rw [← hW2,World.cell?_alloc_new];rfl
 have hl : (givesE b).length < 1000000000000 := by unfold givesE;rw [List.length_cons];omega
 refine ⟨(ecs_cells z1).2.2.1,(containsGrp (fun q => q.any fun x => (givesE b).any (givesS x)) 46 #[.pointer (some ⟨w1.heap.size,0,none⟩)] (enters_of Tryz.func46 (by kernel_rfl) rfl) W2 p.A2 p.c2 a.f2
  (needs1_pred (hG.below hbw2) A1 c1 (givesE b) w1.heap.size hD (Kd.C_below hC1 hb12) hl a.f2 (fun q hq => by have := lg q hq;omega)) (Kd.C_below ha.r2 hbw2) (by omega)).mono ?_⟩
 exact fun e w' ⟨h1,h2⟩ => ⟨h1,hbw2.trans (h2.mono hbw2.size)⟩
set_option maxRecDepth 100000 in
theorem needs_calls {w : World} (hG : GL w) {a b : E6} {p q : EA} (ha : EC w a p) (hb : EC w b q) (la : a.f2.length ≤ 100000000) (lg : ∀ q ∈ a.f2,q.length ≤ 100000000) (lb : b.f5.length ≤ 100000000) :
  Calls Tryz.prog 22 #[.agg (ecs a p),.agg (ecs b q)] w fun en w' => en = .returned (.bool (needsE a b)) ∧ Below w.heap.size w w' := by
 obtain ⟨z0,z1⟩ := two_boxes w a b p q 37
 obtain ⟨W,hW⟩ : ∃ W,(w.alloc (.cells (ecs a p) 37)).alloc (.cells (ecs b q) 37) = W := ⟨_,rfl⟩
 have hbW : Below w.heap.size w W := by rw [← hW];exact qab (qab (Below.refl _ _) _) _
 rw [hW] at z0 z1
 have HE := Aside0.mk (gives_calls (hb.below hbW) lb)
 have HBW := Aside0.mk hbW
 have HA := Aside0.mk ha
 have LA := Aside0.mk la
 have LG := Aside0.mk lg
 have LB := Aside0.mk lb
 obtain ⟨y0,y1,y2,y3,y4,y5⟩ := ecs_cells z1
 have hz1 : W.heap.size = w.heap.size + 2 := by rw [← hW];simp
 have Z0 := Aside0.mk z0
 have HZ1 := Aside0.mk hz1
 clear ha hb la lg lb hbW z0 z1 hz1
 go_enter Tryz.func22,Tryz.ntmps22
 go_wp2_with (first
  | (go_at_call 45;refine HS.out.mono ?_;rintro en w3 ⟨rfl,hb3⟩)
  | (go_at_call 44;refine HE.out.mono ?_;rintro en w1 ⟨v,rfl,hR,hb1⟩;obtain ⟨A1,c1,rfl,hc1,hC1⟩ := Kd.R_reads hR;obtain ⟨W2,hW2⟩ : ∃ W2,w1.alloc (.cells #[.slice A1 (givesE b).length c1] 35) = W2 := ⟨_,rfl⟩;obtain ⟨x2,hS⟩ := needs_step hG Z0.out HBW.out HA.out LA.out LG.out LB.out hC1 hb1 hW2;have HS := Aside0.mk hS;clear hR hb1 hc1 hC1 y0 y1 y2 y3 y4 y5 hS))
 go_ret
 exact ⟨rfl,hb3⟩
theorem qb_needs {w : World} (hG : GL w) {a b : E6} {p q : EA} (ha : EC w a p) (hb : EC w b q) (sa : SmE a) (sb : SmE b) : QB w 22 #[.agg (ecs a p),.agg (ecs b q)] (.bool (needsE a b)) :=
 fun W h => needs_calls (hG.below h) (ha.below h) (hb.below h) (by have := sa.s2.len;omega) (fun q hq => by have := sa.s2.each q hq;omega) (by have := sb.l5;omega)
set_option maxRecDepth 100000 in
theorem plan1_calls {w : World} (hG : GL w) {a b : E6} {p q : EA} (ha : EC w a p) (hb : EC w b q) (sa : SmE a) (sb : SmE b) :
  Calls Tryz.prog 23 #[.agg (ecs a p),.agg (ecs b q)] w fun en w' => en = .returned (.bool (needsE b a)) ∧ Below w.heap.size w w' := by
 obtain ⟨z0,z1⟩ := two_boxes w a b p q 37
 obtain ⟨W,hW⟩ : ∃ W,(w.alloc (.cells (ecs a p) 37)).alloc (.cells (ecs b q) 37) = W := ⟨_,rfl⟩
 have hbW : Below w.heap.size w W := by rw [← hW];exact qab (qab (Below.refl _ _) _) _
 rw [hW] at z0 z1
 have HN := Aside0.mk (qb_needs (hG.below hbW) (hb.below hbW) (ha.below hbW) sb sa)
 have HBW := Aside0.mk hbW
 obtain ⟨y0,y1,y2,y3,y4,y5⟩ := ecs_cells z1
 obtain ⟨x0,x1,x2,x3,x4,x5⟩ := ecs_cells z0
 clear ha hb hbW z0 z1 sa sb hG
 go_enter Tryz.func23,Tryz.ntmps23
 go_wp2_with (go_at_call 22;refine (HN.out.at_ (Below.refl _ _)).mono ?_;rintro en w3 ⟨rfl,hb3⟩)
 go_ret
 exact ⟨rfl,HBW.out.trans (hb3.mono HBW.out.size)⟩
end Go.Proofs.YtiidmjmkgjfaeaaGreatDoor.Ent

namespace Go.Proofs.YtiidmjmkgjfaeaaGreatDoor.Ent
open Go Go.RowKit Go.Shelf Go.Proofs.YtiidmjmkgjfaeaaGreatDoorW.PrintWords Go.Proofs.YtiidmjmkgjfaeaaGreatDoor.PA Go.Proofs.YtiidmjmkgjfaeaaGreatDoor.Pure
set_option linter.unusedVariables false
set_option linter.unusedSimpArgs false
def differsH (m : List H8) (h : H8) : Bool := match findH m h.f0.f0 with
 | none => true
 | some x => !(x.f0.f1.toList == h.f0.f1.toList)
def changedE (l m : List H8) : List E6 := (l.filter (differsH m)).map (·.f0)
theorem ecs_K {W : World} {e : E6} {a : EA} (h : EC W e a) : KE.K W e (ecs e a).toList := k37_mk W e h.k2 h.r2 h.k3 h.r3 h.k4 h.r4 h.k5 h.r5
def CInv (w0 w : World) (l m : List H8) (i : Nat) (v : Value) (wr : World) : Prop := (ice KE w0).R 37 wr w.heap.size (fun _ => True) v (changedE (l.take i) m) ∧ Below w.heap.size w wr
theorem changed_snoc {l m : List H8} {i : Nat} (hi : i < l.length) : changedE (l.take (i + 1)) m = if differsH m l[i] = true then changedE (l.take i) m ++ [l[i].f0] else changedE (l.take i) m := by
 unfold changedE
 rw [List.take_succ_eq_append_getElem hi,List.filter_append,List.map_append]
 cases h : differsH m l[i] <;> simp [h]
theorem changed_le (l m : List H8) : (changedE l m).length ≤ l.length := by unfold changedE;rw [List.length_map];exact List.length_filter_le _ _
set_option maxRecDepth 100000 in
set_option maxHeartbeats 16000000 in
theorem changed_calls {w0 w : World} (hw : Below w0.heap.size w0 w) (A : Option Addr) (c : Nat) (l : List H8) (B : Option Addr) (d : Nat) (m : List H8) (hr : KH.C w0 A l.length l) (hm : KH.C w0 B m.length m) (hl : l.length ≤ 1000000) (hml : m.length ≤ 1000000) :
  Calls Tryz.prog 21 #[.slice A l.length c,.slice B m.length d] w fun e w' => ∃ v,e = .returned v ∧ (ice KE w0).R 37 w' w.heap.size (fun _ => True) v (changedE l m) ∧ Below w.heap.size w w' := by
 have HC := Aside0.mk hr
 have HM := Aside0.mk (Kd.C_below hm hw)
 have HW := Aside0.mk hw
 have HL := Aside0.mk hl
 have HLM := Aside0.mk hml
 clear hr hm hl hml hw
 go_enter Tryz.func21,Tryz.ntmps21
 go_wp2
 go_loopg [5,12] l.length (fun gg v5 v12 wr => ∃ i : Nat,i ≤ l.length ∧ l.length - i ≤ gg ∧ v12 = .int .i64 (i : Int) ∧ Aside0 (CInv w0 w l m i v5 wr))
 case atStart => exact ⟨0,Nat.zero_le _,by omega,rfl,⟨Kd.R_nil _ _ _ _ _,Below.refl _ _⟩⟩
 case round =>
  obtain ⟨i,hi,hg,rfl,HI⟩ := hrel
  have bw : wrap64 ((i : Int) + 1) = ((i + 1 : Nat) : Int) := by have := HL.out;unfold wrap64;omega
  by_cases hlt : i < l.length
  ·have b2 : decide ((i : Int) < (l.length : Int)) = true := decide_eq_true (by omega)
   have p0 : (0 : Int) ≤ (i : Int) := by omega
   have p1 : (i : Int) < (l.length : Int) := by omega
   obtain ⟨ad,cs,rfl,hcl,hK,hcc⟩ := Kd.C_get HC.out zH (i : Int) p0 p1
   obtain ⟨h,hf,hm⟩ : ∃ h,l.getD (i : Int).toNat zH = h ∧ l[i] = h := ⟨_,rfl,by rw [Int.toNat_natCast,List.getD_eq_getElem?_getD,List.getElem?_eq_getElem hlt];rfl⟩
   rw [hf] at hK
   obtain ⟨a,rfl,ha⟩ := here_open hK
   rw [Int.toNat_natCast] at hcc
   obtain ⟨y0,y1,y2,y3,y4,y5,y6,y7⟩ := here_at hcc (HW.out.trans (HI.out.2.mono HW.out.size))
   have HA := Aside0.mk ha
   have hsn := changed_snoc (m := m) hlt
   rw [hm] at hsn
   have HSN := Aside0.mk hsn
   have HLT := Aside0.mk hlt
   have HGG := Aside0.mk hg
   have HLE := Aside0.mk (show (changedE (l.take i) m).length ≤ 1000000 from by have := changed_le (l.take i) m;rw [List.length_take] at this;have := HL.out;omega)
   have HMW := Aside0.mk (Kd.C_below HM.out HI.out.2)
   clear hcl hK hf hm ha hlt hg hi hcc hsn
   obtain ⟨f,hfd⟩ : ∃ f,findH m h.f0.f0 = f := ⟨_,rfl⟩
   cases f with
   | none =>
    have HD := Aside0.mk (show differsH m h = true by unfold differsH;rw [hfd])
    have HF := Aside0.mk (show ∀ W,Below wr.heap.size wr W → _ from fun W hb => find_no B d m h.f0.f0 (Kd.C_below HMW.out hb) (by have := HLM.out;omega) hfd)
    clear hfd
    go_wp2_with (first
     | (at_builtin;go_loud (refine Kd.R_append (ice KE w0) (w0 := w) w.heap.size rfl _ _ 51 37 _ 128 rfl Tryz.underlying51 infoE rfl (Nat.zero_lt_succ 5) (by omega) _ _ h.f0 (ecs h.f0 a).toList (fun _ => True) (fun _ => False) rfl (by first | rfl | (simp;done) | (go_simp;done) | (simp [Act.eval];done)) (ecs_K HA.out) (fun _ hk => hk.elim) (fun _ _ => trivial) (Kd.R_alloc (Kd.R_below HI.out.1 HQ.out) _) (qab (HI.out.2.trans (HQ.out.mono HI.out.2.size)) _) (by have := HI.out.2.size;have := HQ.out.size;simp;omega) (by have := HLE.out;omega) ?_;intro v1 w5 hR hB _ _;have HR5 := Aside0.mk hR;have HB5 := Aside0.mk hB;clear hR hB))
     | (go_at_call 13;go_loud (refine (HF.out _ (qab (Below.refl _ _) _)).mono ?_;rintro en w2 ⟨rfl,hb2⟩);go_loud (have hz := (hb2.block wr.heap.size (by simp)).trans (World.alloc_heap_new wr (.cells (hcs h a) 39)));go_loud (have HQ := Aside0.mk ((qab (Below.refl wr.heap.size wr) _).trans (hb2.mono (by simp))));go_loud (obtain ⟨x0,x1,x2,x3,x4,x5,x6,x7⟩ := hcs_cells hz;have hDW : wr.heap.size < w2.heap.size := (Array.getElem?_eq_some_iff.1 hz).1;have hne : wr.heap.size ≠ w2.heap.size := (by omega);clear hb2 hz)))
    go_roundg (l.length - (i + 1))
    case measure => have := HGG.out;have := HLT.out;omega
    case rel => exact ⟨i + 1,HLT.out,Nat.le_refl _,by first | rw [bw] | go_num,⟨by rw [HSN.out,if_pos HD.out];exact HR5.out,HB5.out⟩⟩
   | some x =>
    have HF := Aside0.mk (show ∀ W,Below wr.heap.size wr W → _ from fun W hb => find_yes B d m h.f0.f0 x (Kd.C_below HMW.out hb) (by have := HLM.out;omega) hfd)
    by_cases hn : x.f0.f1.toList = h.f0.f1.toList
    ·have HD := Aside0.mk (show differsH m h = false by unfold differsH;rw [hfd];simp [hn])
     have HN := Aside0.mk hn
     clear hfd
     go_wp2_with (first
      | (go_at_call 13;go_loud (refine (HF.out _ (qab (Below.refl _ _) _)).mono ?_;rintro en w2 ⟨ax,rfl,hx2,hb2⟩);go_loud (have hz := (hb2.block wr.heap.size (by simp)).trans (World.alloc_heap_new wr (.cells (hcs h a) 39)));go_loud (have HQ := Aside0.mk ((qab (Below.refl wr.heap.size wr) _).trans (hb2.mono (by simp))));go_loud (obtain ⟨x0,x1,x2,x3,x4,x5,x6,x7⟩ := hcs_cells hz;have hDW : wr.heap.size < w2.heap.size := (Array.getElem?_eq_some_iff.1 hz).1;have hne : wr.heap.size ≠ w2.heap.size := (by omega);clear hb2 hz hx2)))
     go_roundg (l.length - (i + 1))
     case measure => have := HGG.out;have := HLT.out;omega
     case rel => exact ⟨i + 1,HLT.out,Nat.le_refl _,by first | rw [bw] | go_num,⟨by rw [HSN.out,HD.out,if_neg (by decide)];exact Kd.R_alloc (Kd.R_below HI.out.1 HQ.out) _,qab (HI.out.2.trans (HQ.out.mono HI.out.2.size)) _⟩⟩
    ·have hq : (x.f0.f1.toList == h.f0.f1.toList) = false := beq_eq_false_iff_ne.2 hn
     have HD := Aside0.mk (show differsH m h = true by unfold differsH;rw [hfd];simp [hq])
     clear hfd
     go_wp2_with (first
      | (at_builtin;go_loud (refine Kd.R_append (ice KE w0) (w0 := w) w.heap.size rfl _ _ 51 37 _ 128 rfl Tryz.underlying51 infoE rfl (Nat.zero_lt_succ 5) (by omega) _ _ h.f0 (ecs h.f0 a).toList (fun _ => True) (fun _ => False) rfl (by first | rfl | (simp;done) | (go_simp;done) | (simp [Act.eval];done)) (ecs_K HA.out) (fun _ hk => hk.elim) (fun _ _ => trivial) (Kd.R_alloc (Kd.R_below HI.out.1 HQ.out) _) (qab (HI.out.2.trans (HQ.out.mono HI.out.2.size)) _) (by have := HI.out.2.size;have := HQ.out.size;simp;omega) (by have := HLE.out;omega) ?_;intro v1 w5 hR hB _ _;have HR5 := Aside0.mk hR;have HB5 := Aside0.mk hB;clear hR hB))
      | (go_at_call 13;go_loud (refine (HF.out _ (qab (Below.refl _ _) _)).mono ?_;rintro en w2 ⟨ax,rfl,hx2,hb2⟩);go_loud (have hz := (hb2.block wr.heap.size (by simp)).trans (World.alloc_heap_new wr (.cells (hcs h a) 39)));go_loud (have HQ := Aside0.mk ((qab (Below.refl wr.heap.size wr) _).trans (hb2.mono (by simp))));go_loud (obtain ⟨x0,x1,x2,x3,x4,x5,x6,x7⟩ := hcs_cells hz;have hDW : wr.heap.size < w2.heap.size := (Array.getElem?_eq_some_iff.1 hz).1;have hne : wr.heap.size ≠ w2.heap.size := (by omega);clear hb2 hz hx2)))
     go_roundg (l.length - (i + 1))
     case measure => have := HGG.out;have := HLT.out;omega
     case rel => exact ⟨i + 1,HLT.out,Nat.le_refl _,by first | rw [bw] | go_num,⟨by rw [HSN.out,if_pos HD.out];exact HR5.out,HB5.out⟩⟩
  ·have b2 : decide ((i : Int) < (l.length : Int)) = false := decide_eq_false (by omega)
   obtain ⟨h3,hB⟩ := HI.out
   rw [List.take_of_length_le (by omega)] at h3
   have HR := Aside0.mk h3
   have HB := Aside0.mk hB
   clear h3 hB
   go_wp2
   go_ret
   exact ⟨_,rfl,HR.out,HB.out⟩
end Go.Proofs.YtiidmjmkgjfaeaaGreatDoor.Ent

namespace Go.Proofs.YtiidmjmkgjfaeaaGreatDoor.Ent
open Go Go.RowKit Go.Shelf Go.Proofs.YtiidmjmkgjfaeaaGreatDoorW.PrintWords Go.Proofs.YtiidmjmkgjfaeaaGreatDoorW.PrintLast Go.Proofs.YtiidmjmkgjfaeaaGreatDoor.PA Go.Proofs.YtiidmjmkgjfaeaaGreatDoor.Pure
set_option linter.unusedVariables false
set_option linter.unusedSimpArgs false
def orderE (binds : E6 → E6 → Bool) (l : List E6) : List E6 := Jou.orderV nmE binds l.length l
def stepsH (l m : List H8) : List S31 := ((orderE needsE (changedE l m)).map (stepE 1) ++ (changedE m l).map (stepE 2)) ++ (orderE (fun a b => needsE b a) (changedE m l)).map (stepE 3)
theorem binds_needs {w : World} (hG : GL w) : BindsAt w 22 needsE := fun W a b p q hb ha hb' sa sb => (qb_needs (hG.below hb) ha hb' sa sb).at_ (Below.refl _ _)
theorem binds_plan1 {w : World} (hG : GL w) : BindsAt w 23 (fun a b => needsE b a) := fun W a b p q hb ha hb' sa sb => plan1_calls (hG.below hb) ha hb' sa sb
theorem order_len (binds : E6 → E6 → Bool) (l : List E6) : (orderE binds l).length = l.length := (Jou.order_perm (nm := nmE) (binds := binds) l.length l rfl).length_eq
theorem changed_small {l m : List H8} (hs : ∀ h ∈ l,SmE h.f0) : ∀ e ∈ changedE l m,SmE e := fun e he => by
 unfold changedE at he
 obtain ⟨h,hh,rfl⟩ := List.mem_map.1 he
 exact hs h (List.mem_filter.1 hh).1
set_option maxRecDepth 100000 in
set_option maxHeartbeats 2000000 in
theorem plan_no {w : World} (hG : GL w) (A : Option Addr) (c : Nat) (l : List H8) (B : Option Addr) (d : Nat) (m : List H8) (hr : KH.C w A l.length l) (hm : KH.C w B m.length m) (hl : l.length ≤ 1000000) (hml : m.length ≤ 1000000) (hs : ∀ h ∈ l,SmE h.f0) (hms : ∀ h ∈ m,SmE h.f0) (hf : (fitsH l && fitsH m) = false) :
  Calls Tryz.prog 8 #[.slice A l.length c,.slice B m.length d] w fun e w' => e = .returned (.tuple #[.slice none 0 0,.int .i64 1]) ∧ Below w.heap.size w w' := by
 have h1 := qb_fits hG A c l hr hl hs
 have h2 := qb_fits hG B d m hm hml hms
 obtain ⟨a,ha⟩ : ∃ a,fitsH l = a := ⟨_,rfl⟩
 obtain ⟨b,hb⟩ : ∃ b,fitsH m = b := ⟨_,rfl⟩
 rw [ha] at h1 hf
 rw [hb] at h2 hf
 have H1 := Aside0.mk h1
 have H2 := Aside0.mk h2
 clear hG hr hm hl hml hs hms ha hb h1 h2
 cases a
 case' true => cases b;case true => cases hf
 all_goals
  clear hf
  go_enter Tryz.func8,Tryz.ntmps8
  go_wp2_with (first
   | (go_at_call 19;refine (H2.out _ HB1.out).mono ?_;rintro e w2 ⟨rfl,hb2⟩;have HB2 := Aside0.mk (HB1.out.trans (hb2.mono HB1.out.size));clear hb2)
   | (go_at_call 19;refine (H1.out _ (Below.refl _ _)).mono ?_;rintro e w1 ⟨rfl,hb1⟩;have HB1 := Aside0.mk hb1;clear hb1))
  go_ret2
  first
   | exact ⟨rfl,HB2.out⟩
   | exact ⟨rfl,HB1.out⟩
structure FInv (w0 w : World) (v7 v6 : Value) (fresh : List E6) (acc : List S31) (wr : World) : Prop where
 lef : (ice KE w0).R 37 wr w.heap.size (fun k => some k ≠ v6.ownBlock) v7 fresh
 out : KP.R 31 wr w.heap.size (fun k => some k ≠ v7.ownBlock) v6 acc
 bl : Below w.heap.size w wr
theorem FInv.below {w0 w wr W : World} {v7 v6 : Value} {fresh : List E6} {acc : List S31} (h : FInv w0 w v7 v6 fresh acc wr) (hb : Below wr.heap.size wr W) : FInv w0 w v7 v6 fresh acc W := ⟨Kd.R_below h.lef hb,Kd.R_below h.out hb,h.bl.trans (hb.mono h.bl.size)⟩
theorem FInv.fresh {w0 w wr : World} {v7 v6 : Value} {fresh : List E6} {acc : List S31} (h : FInv w0 w v7 v6 fresh acc wr) : ∀ k,wr.heap.size ≤ k → some k ≠ v7.ownBlock := fun k hk he => by
 have := ((Kd.R_bound h.lef).1 k he.symm).2.2.1
 omega
theorem FInv.appended {w0 w W w1 : World} {v7 v6 v1 : Value} {fresh : List E6} {acc acc' : List S31} (h : FInv w0 w v7 v6 fresh acc W) (hR : KP.R 31 w1 w.heap.size (fun k => some k ≠ v7.ownBlock) v1 acc') (hb : Below w.heap.size w w1) (hg : W.grownBy w1 v6.ownBlock) (hat : v1.ownBlock = v6.ownBlock ∨ ∃ b,v1.ownBlock = some b ∧ W.heap.size ≤ b) : FInv w0 w v7 v1 fresh acc' w1 := by
 refine ⟨Kd.R_mono (Kd.R_grown (Kd.R_bound h.lef) hg (fun k hk => hk.1)) (fun k hk he => ?_),hR,hb⟩
 rcases hat with ha | ⟨b,ha,hlt⟩
 ·exact hk.1 (he.trans ha)
 ·rw [ha] at he
  injection he with he
  have := hk.2.2.1
  omega
theorem ent_at {w W : World} {ad : Addr} {j : Nat} {e : E6} {a : EA} (hc : ∀ i u,(ecs e a).toList[i]? = some u → w.cell? (ad.add (j * KE.sz + i)) = some u) (hb : Below w.heap.size w W) :
  W.cell? (ad.add (j * 6)) = some (.string e.f0) ∧ W.cell? ⟨(ad.add (j * 6)).block,(ad.add (j * 6)).off + 1,none⟩ = some (.string e.f1) ∧ W.cell? ⟨(ad.add (j * 6)).block,(ad.add (j * 6)).off + 2,none⟩ = some (.slice a.A2 e.f2.length a.c2) ∧ W.cell? ⟨(ad.add (j * 6)).block,(ad.add (j * 6)).off + 3,none⟩ = some (.slice a.A3 e.f3.length a.c3) ∧ W.cell? ⟨(ad.add (j * 6)).block,(ad.add (j * 6)).off + 4,none⟩ = some (.slice a.A4 e.f4.length a.c4) ∧ W.cell? ⟨(ad.add (j * 6)).block,(ad.add (j * 6)).off + 5,none⟩ = some (.slice a.A5 e.f5.length a.c5) := by
 have g : ∀ i u,(ecs e a).toList[i]? = some u → W.cell? (ad.add (j * 6 + i)) = some u := fun i u hu => (hb.cell (World.block_lt_of_cell? _ _ (hc i u hu))).trans (hc i u hu)
 refine ⟨g 0 _ rfl,?_,?_,?_,?_,?_⟩
 ·rw [← add_field _ _ 1 (by omega)];exact g 1 _ rfl
 ·rw [← add_field _ _ 2 (by omega)];exact g 2 _ rfl
 ·rw [← add_field _ _ 3 (by omega)];exact g 3 _ rfl
 ·rw [← add_field _ _ 4 (by omega)];exact g 4 _ rfl
 ·rw [← add_field _ _ 5 (by omega)];exact g 5 _ rfl
def zE6 : E6 := ⟨⟨#[]⟩,⟨#[]⟩,[],[],[],[]⟩
set_option maxRecDepth 100000 in
set_option maxHeartbeats 16000000 in
theorem plan_yes {w : World} (hG : GL w) (A : Option Addr) (c : Nat) (l : List H8) (B : Option Addr) (d : Nat) (m : List H8) (hr : KH.C w A l.length l) (hm : KH.C w B m.length m) (hl : l.length ≤ 100000) (hml : m.length ≤ 100000) (hs : ∀ h ∈ l,SmE h.f0) (hms : ∀ h ∈ m,SmE h.f0) (hf : (fitsH l && fitsH m) = true) :
  Calls Tryz.prog 8 #[.slice A l.length c,.slice B m.length d] w fun e w' => ∃ v,e = .returned (.tuple #[v,.int .i64 0]) ∧ KP.R 31 w' w.heap.size (fun _ => True) v (stepsH l m) ∧ Below w.heap.size w w' := by
 rw [Bool.and_eq_true] at hf
 have h1 := qb_fits hG A c l hr (by omega) hs
 have h2 := qb_fits hG B d m hm (by omega) hms
 rw [hf.1] at h1
 rw [hf.2] at h2
 have H1 := Aside0.mk h1
 have H2 := Aside0.mk h2
 have HG0 := Aside0.mk hG
 have HR := Aside0.mk hr
 have HM := Aside0.mk hm
 have HS := Aside0.mk (changed_small (m := m) hs)
 have HMS := Aside0.mk (changed_small (m := l) hms)
 have HL := Aside0.mk hl
 have HML := Aside0.mk hml
 have C1 := Aside0.mk (show ∀ W,Below w.heap.size w W → _ from fun W hb => changed_calls hb A c l B d m hr hm (by omega) (by omega))
 have C2 := Aside0.mk (show ∀ W,Below w.heap.size w W → _ from fun W hb => changed_calls hb B d m A c l hm hr (by omega) (by omega))
 clear hr hm hl hml hs hms hf h1 h2 hG
 go_enter Tryz.func8,Tryz.ntmps8
 go_wp2_with (first
  | (go_at_call 21;refine (C2.out _ HB4.out).mono ?_;rintro e w5 ⟨v5,rfl,hR,hb5⟩;have HR5 := Aside0.mk hR;have HQ5 := Aside0.mk hb5;have HB5 := Aside0.mk (HB4.out.trans (hb5.mono HB4.out.size));obtain ⟨A5,c5,rfl,hc5,hC5⟩ := Kd.R_reads hR;have HC5 := Aside0.mk hC5;clear hb5 hR hc5 hC5)
  | (go_at_call 20;go_loud (refine (order_calls (w0 := w) 22 (enters_of Tryz.func22 (by kernel_rfl) rfl) needsE (binds_needs (HG0.out.below HB3.out)) HB3.out 1 A3 c3 (changedE l m) HC3.out (by have := changed_le l m;have := HL.out;omega) HS.out).mono ?_);rintro e w4 ⟨v4,rfl,hR,hb4⟩;have HR4 := Aside0.mk hR;have HB4 := Aside0.mk (HB3.out.trans (hb4.mono HB3.out.size));clear hb4 hR)
  | (go_at_call 21;refine (C1.out _ HB2.out).mono ?_;rintro e w3 ⟨v3,rfl,hR,hb3⟩;have HQ3 := Aside0.mk hb3;have HB3 := Aside0.mk (HB2.out.trans (hb3.mono HB2.out.size));obtain ⟨A3,c3,rfl,hc3,hC3⟩ := Kd.R_reads hR;have HC3 := Aside0.mk hC3;clear hb3 hR hc3 hC3)
  | (go_at_call 19;refine (H2.out _ HB1.out).mono ?_;rintro e w2 ⟨rfl,hb2⟩;have HB2 := Aside0.mk (HB1.out.trans (hb2.mono HB1.out.size));clear hb2)
  | (go_at_call 19;refine (H1.out _ (Below.refl _ _)).mono ?_;rintro e w1 ⟨rfl,hb1⟩;have HB1 := Aside0.mk hb1;clear hb1))
 obtain ⟨F,hF⟩ : ∃ F,changedE m l = F := ⟨_,rfl⟩
 obtain ⟨P1,hP⟩ : ∃ P,(orderE needsE (changedE l m)).map (stepE 1) = P := ⟨_,rfl⟩
 have hPl : P1.length ≤ 100000 := by rw [← hP,List.length_map,order_len];have := changed_le l m;have := HL.out;omega
 have hFl : F.length ≤ 100000 := by rw [← hF];have := changed_le m l;have := HML.out;omega
 have hR4 : KP.R 31 w4 w3.heap.size (fun _ => True) v4 P1 := hP ▸ HR4.out
 have hres : stepsH l m = (P1 ++ F.map (stepE 2)) ++ (orderE (fun a b => needsE b a) F).map (stepE 3) := by rw [← hP,← hF];rfl
 have HSM := Aside0.mk (hF ▸ HMS.out : ∀ e ∈ F,SmE e)
 have hR5 := HR5.out
 rw [hF] at hR5
 simp only [hF]
 have hI : FInv w w (.slice A5 F.length c5) v4 F (P1 ++ (F.take 0).map (stepE 2)) w5 := by
  have b4 := (Kd.R_bound hR4).1
  have s4 := HB4.out.size
  have s3 := HB3.out.size
  refine ⟨Kd.R_lower (Kd.R_mono (Kd.R_bound hR5) (fun k hk he => ?_)) s4,?_,HB5.out⟩
  ·have := (b4 k he.symm).2.2.1;have := hk.2.1;omega
  ·rw [List.take_zero,List.map_nil,List.append_nil]
   refine Kd.R_below (Kd.R_lower (Kd.R_mono (Kd.R_bound hR4) (fun k hk he => ?_)) s3) HQ5.out
   have := Kd.R_base hR5 k he.symm
   have := hk.2.2.1
   omega
 have HI0 := Aside0.mk hI
 have HRES := Aside0.mk hres
 have HPL := Aside0.mk hPl
 have HFL := Aside0.mk hFl
 clear hI hR4 hR5 hres hP hF hPl hFl HR5 HC5
 go_loopg [6,27] F.length (fun gg v6 v27 wr => ∃ i : Nat,i ≤ F.length ∧ F.length - i ≤ gg ∧ v27 = .int .i64 (i : Int) ∧ Aside0 (FInv w w (.slice A5 F.length c5) v6 F (P1 ++ (F.take i).map (stepE 2)) wr))
 case atStart => exact ⟨0,Nat.zero_le _,by omega,rfl,HI0⟩
 case round =>
  clear HI0
  obtain ⟨i,hi,hg,rfl,HI⟩ := hrel
  have bw : wrap64 ((i : Int) + 1) = ((i + 1 : Nat) : Int) := by have := HFL.out;unfold wrap64;omega
  obtain ⟨A6,c6,hv6,hc6,hC6⟩ := Kd.R_reads HI.out.lef
  injection hv6 with h1 h2 h3
  subst h1;subst h3
  by_cases hlt : i < F.length
  ·have b2 : decide ((i : Int) < (F.length : Int)) = true := decide_eq_true (by omega)
   have p0 : (0 : Int) ≤ (i : Int) := by omega
   have p1 : (i : Int) < (F.length : Int) := by omega
   obtain ⟨ad,cs,rfl,hcl,hK,hcc⟩ := Kd.C_get hC6 zE6 (i : Int) p0 p1
   obtain ⟨e,hf,hm⟩ : ∃ e,F.getD (i : Int).toNat zE6 = e ∧ F[i] = e := ⟨_,rfl,by rw [Int.toNat_natCast,List.getD_eq_getElem?_getD,List.getElem?_eq_getElem hlt];rfl⟩
   rw [hf] at hK
   obtain ⟨a,rfl,ha⟩ := ent_open hK
   rw [Int.toNat_natCast] at hcc
   obtain ⟨y0,y1,y2,y3,y4,y5⟩ := ent_at (j := i) (fun k u hu => hcc k u hu) (Below.refl _ _)
   have HT := Aside0.mk (show P1 ++ (F.take (i + 1)).map (stepE 2) = (P1 ++ (F.take i).map (stepE 2)) ++ [stepE 2 e] by rw [List.take_succ_eq_append_getElem hlt,List.map_append,hm,List.append_assoc];rfl)
   have HLT := Aside0.mk hlt
   have HGG := Aside0.mk hg
   have HAL := Aside0.mk (show (P1 ++ (F.take i).map (stepE 2)).length ≤ 300000 by rw [List.length_append,List.length_map,List.length_take];have := HPL.out;have := HFL.out;omega)
   have HI2 := Aside0.mk (HI.out.below (qab (Below.refl _ _) (.cells (ecs e a) 37)))
   clear hcl hK hf hm ha hlt hg hi hcc hC6 hc6 h2
   go_wp2_with (at_builtin;go_loud (refine Kd.R_append KP (w0 := w) w.heap.size rfl _ _ 25 31 _ 40 rfl Tryz.underlying25 infoP rfl (Nat.zero_lt_succ 2) (by omega) _ _ (stepE 2 e) [.int .i64 2,.string e.f0,.string e.f1] (fun k => some k ≠ (Value.slice (some ad) F.length c5).ownBlock) (fun _ => False) rfl (by first | rfl | (simp;done) | (go_simp;done) | (simp [Act.eval];done)) (k31_mkM _ _ _ ⟨2,e.f0,e.f1⟩) (fun _ hk => hk.elim) HI2.out.fresh (by exact HI2.out.out) HI2.out.bl HI2.out.bl.size (by have := HAL.out;omega) ?_;intro v1 w6 hR hB hg6 hat;have HI6 := Aside0.mk (HI2.out.appended hR hB hg6 hat);clear hR hB hg6 hat))
   go_roundg (F.length - (i + 1))
   case measure => have := HGG.out;have := HLT.out;omega
   case rel => exact ⟨i + 1,HLT.out,Nat.le_refl _,by first | rw [bw] | go_num,⟨by rw [HT.out];exact HI6.out⟩⟩
  ·have b2 : decide ((i : Int) < (F.length : Int)) = false := decide_eq_false (by omega)
   have hO := order_calls (w0 := w) 23 (enters_of Tryz.func23 (by kernel_rfl) rfl) (fun a b => needsE b a) (binds_plan1 (HG0.out.below HI.out.bl)) HI.out.bl 3 A5 c5 F hC6 (by have := HFL.out;omega) HSM.out
   have HO := Aside0.mk hO
   have hT : P1 ++ (F.take i).map (stepE 2) = P1 ++ F.map (stepE 2) := by rw [List.take_of_length_le (by omega)]
   have HT := Aside0.mk hT
   have HAL := Aside0.mk (show (P1 ++ F.map (stepE 2)).length ≤ 300000 by rw [List.length_append,List.length_map];have := HPL.out;have := HFL.out;omega)
   have HOL := Aside0.mk (order_len (fun a b => needsE b a) F)
   obtain ⟨Q1,hQ⟩ : ∃ Q,(orderE (fun a b => needsE b a) F).map (stepE 3) = Q := ⟨_,rfl⟩
   have HQL := Aside0.mk (show Q1.length ≤ 100000 by rw [← hQ,List.length_map];have := HOL.out;have := HFL.out;omega)
   have HQ := Aside0.mk hQ
   clear hO hT hQ hi hg hC6 hc6 h2
   go_wp2_with (first
    | (at_builtin;go_loud (refine Kd.R_append_rows KP (w0 := w) w.heap.size rfl _ _ 25 31 _ 40 rfl Tryz.underlying25 infoP rfl (Nat.zero_lt_succ 2) (by omega) _ (P1 ++ F.map (stepE 2)) Q1 A8 Q1.length c8 (fun _ => True) (fun _ => False) rfl rfl (by exact HR6.out) HC8.out (fun x cs h => by obtain rfl := k31_open h;exact k31_mkM _ _ _ x) (fun _ h => h.elim) (fun _ _ => trivial) HB8.out HB8.out.size (by have := HAL.out;have := HQL.out;omega) ?_;intro v1 w9 hR hB _ _;have HR9 := Aside0.mk hR;have HB9 := Aside0.mk hB;clear hR hB))
    | (go_at_call 20;go_loud (refine HO.out.mono ?_;rintro e w8 ⟨v8,rfl,hR,hb8⟩;rw [show (Jou.orderV nmE (fun a b => needsE b a) F.length F).map (stepE 3) = Q1 from HQ.out] at hR;have HR6 := Aside0.mk (Kd.R_below (Kd.R_mono HI.out.out (fun _ _ => trivial)) hb8);rw [HT.out] at HR6;have HB8 := Aside0.mk (HI.out.bl.trans (hb8.mono HI.out.bl.size));obtain ⟨A8,c8,rfl,hc8,hC8⟩ := Kd.R_reads hR;have HC8 := Aside0.mk hC8;clear hR hb8 hc8 hC8)))
   go_ret2
   refine ⟨_,rfl,?_,HB9.out⟩
   rw [HRES.out,HQ.out]
   exact HR9.out
end Go.Proofs.YtiidmjmkgjfaeaaGreatDoor.Ent

