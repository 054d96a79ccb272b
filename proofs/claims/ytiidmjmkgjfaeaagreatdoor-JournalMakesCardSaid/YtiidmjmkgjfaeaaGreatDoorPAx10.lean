
import Derived.Test.YtiidmjmkgjfaeaaGreatDoorPAx0
import Derived.Test.YtiidmjmkgjfaeaaGreatDoorPAx9
namespace Go.Proofs.YtiidmjmkgjfaeaaGreatDoor.PA
open Go.RowKit Go.Proofs.YtiidmjmkgjfaeaaGreatDoorW.PrintWords Go.Proofs.YtiidmjmkgjfaeaaGreatDoorW.PrintLast Go.Proofs.YtiidmjmkgjfaeaaGreatDoorW.PrintMore
attribute [local go_sem] max2_int min2_int max_two min_two max_three min_three max_four min_four
set_option maxHeartbeats 8000000
set_option maxRecDepth 100000
set_option linter.unusedVariables false
set_option linter.unusedSimpArgs false
mutual
def keelsonlaw22_fine.j0 : Nat → Bool → ByteArray → ByteArray → List (List (S46)) → List (List (S46)) → List (S46) → List (S46) → Option (Bool)
 | 0,_,_,_,_,_,_,_ => none
 | k + 1,x44,x303000,x303001,x303002,x303003,x303004,x303005 => if x44 = true then (some false) else (keelsonlaw22_fine.l0 k 0 x303000 x303001 x303002 x303003 x303004 x303005)
def keelsonlaw22_fine.l0 : Nat → Int → ByteArray → ByteArray → List (List (S46)) → List (List (S46)) → List (S46) → List (S46) → Option (Bool)
 | 0,_,_,_,_,_,_,_ => none
 | k + 1,x5,x303000,x303001,x303002,x303003,x303004,x303005 => if x5 < (x303002.length : Int) then (if 0 ≤ x5 then ((keelsonlaw22_light.f k (rd_L4 x303002 x5)).bind fun t306 => (if t306 = true then (keelsonlaw22_fine.l0 k (wrap64 (x5 + 1)) x303000 x303001 x303002 x303003 x303004 x303005) else (some false))) else (none)) else (keelsonlaw22_fine.l1 k 0 x303000 x303001 x303002 x303003 x303004 x303005)
def keelsonlaw22_fine.l1 : Nat → Int → ByteArray → ByteArray → List (List (S46)) → List (List (S46)) → List (S46) → List (S46) → Option (Bool)
 | 0,_,_,_,_,_,_,_ => none
 | k + 1,x7,x303000,x303001,x303002,x303003,x303004,x303005 => if x7 < (x303003.length : Int) then (if 0 ≤ x7 then ((keelsonlaw22_light.f k (rd_L4 x303003 x7)).bind fun t308 => (if t308 = true then (keelsonlaw22_fine.l1 k (wrap64 (x7 + 1)) x303000 x303001 x303002 x303003 x303004 x303005) else (some false))) else (none)) else (some true)
end
def keelsonlaw22_fine.f (k : Nat) (a0_0 : ByteArray) (a0_1 : ByteArray) (l0_2 : List (List (S46))) (l0_3 : List (List (S46))) (l0_4 : List (S46)) (l0_5 : List (S46)) : Option (Bool) := (keelsonlaw22_light.f k l0_4).bind fun t303 => ((keelsonlaw22_light.f k l0_5).bind fun t304 => (if t303 = true then (if t304 = true then (if (a0_0.size : Int) > 100 then (keelsonlaw22_fine.j0 k true a0_0 a0_1 l0_2 l0_3 l0_4 l0_5) else (if (a0_1.size : Int) > 100 then (keelsonlaw22_fine.j0 k true a0_0 a0_1 l0_2 l0_3 l0_4 l0_5) else (if (l0_2.length : Int) > 15 then (keelsonlaw22_fine.j0 k true a0_0 a0_1 l0_2 l0_3 l0_4 l0_5) else (keelsonlaw22_fine.j0 k (decide ((l0_3.length : Int) > 15)) a0_0 a0_1 l0_2 l0_3 l0_4 l0_5)))) else (keelsonlaw22_fine.j0 k true a0_0 a0_1 l0_2 l0_3 l0_4 l0_5)) else (keelsonlaw22_fine.j0 k true a0_0 a0_1 l0_2 l0_3 l0_4 l0_5)))
theorem keelsonlaw22_fine.mono_l : ∀ k,(∀ y0 y1 y2 y3 y4 y5 y6,LeO (keelsonlaw22_fine.j0 k y0 y1 y2 y3 y4 y5 y6) (keelsonlaw22_fine.j0 (k + 1) y0 y1 y2 y3 y4 y5 y6)) ∧ (∀ y0 y1 y2 y3 y4 y5 y6,LeO (keelsonlaw22_fine.l0 k y0 y1 y2 y3 y4 y5 y6) (keelsonlaw22_fine.l0 (k + 1) y0 y1 y2 y3 y4 y5 y6)) ∧ (∀ y0 y1 y2 y3 y4 y5 y6,LeO (keelsonlaw22_fine.l1 k y0 y1 y2 y3 y4 y5 y6) (keelsonlaw22_fine.l1 (k + 1) y0 y1 y2 y3 y4 y5 y6))
 | 0 => ⟨fun _ _ _ _ _ _ _ r h => by simp [keelsonlaw22_fine.j0] at h,fun _ _ _ _ _ _ _ r h => by simp [keelsonlaw22_fine.l0] at h,fun _ _ _ _ _ _ _ r h => by simp [keelsonlaw22_fine.l1] at h⟩
 | k + 1 => by
  obtain ⟨ih0,ih1,ih2⟩ := keelsonlaw22_fine.mono_l k
  refine ⟨?_,?_,?_⟩
  ·intro y0 y1 y2 y3 y4 y5 y6
   unfold keelsonlaw22_fine.j0
   repeat' first
   | (with_reducible exact ih0 _ _ _ _ _ _ _)
   | (with_reducible exact ih1 _ _ _ _ _ _ _)
   | (with_reducible exact ih2 _ _ _ _ _ _ _)
   | (with_reducible exact keelsonlaw22_light.mono _ _)
   | (with_reducible exact LeO.refl _)
   | (with_reducible exact LeO.none _)
   | (with_reducible refine LeO.ite ?_ ?_)
   | (with_reducible refine LeO.bind ?_ (fun _ => ?_))
  ·intro y0 y1 y2 y3 y4 y5 y6
   unfold keelsonlaw22_fine.l0
   repeat' first
   | (with_reducible exact ih0 _ _ _ _ _ _ _)
   | (with_reducible exact ih1 _ _ _ _ _ _ _)
   | (with_reducible exact ih2 _ _ _ _ _ _ _)
   | (with_reducible exact keelsonlaw22_light.mono _ _)
   | (with_reducible exact LeO.refl _)
   | (with_reducible exact LeO.none _)
   | (with_reducible refine LeO.ite ?_ ?_)
   | (with_reducible refine LeO.bind ?_ (fun _ => ?_))
  ·intro y0 y1 y2 y3 y4 y5 y6
   unfold keelsonlaw22_fine.l1
   repeat' first
   | (with_reducible exact ih0 _ _ _ _ _ _ _)
   | (with_reducible exact ih1 _ _ _ _ _ _ _)
   | (with_reducible exact ih2 _ _ _ _ _ _ _)
   | (with_reducible exact keelsonlaw22_light.mono _ _)
   | (with_reducible exact LeO.refl _)
   | (with_reducible exact LeO.none _)
   | (with_reducible refine LeO.ite ?_ ?_)
   | (with_reducible refine LeO.bind ?_ (fun _ => ?_))
theorem keelsonlaw22_fine.mono : ∀ a0 a1 a2 a3 a4 a5 k,LeO (keelsonlaw22_fine.f k a0 a1 a2 a3 a4 a5) (keelsonlaw22_fine.f (k + 1) a0 a1 a2 a3 a4 a5) := by
 intro a0 a1 a2 a3 a4 a5 k
 obtain ⟨ih0,ih1,ih2⟩ := keelsonlaw22_fine.mono_l k
 unfold keelsonlaw22_fine.f
 repeat' first
   | (with_reducible exact ih0 _ _ _ _ _ _ _)
   | (with_reducible exact ih1 _ _ _ _ _ _ _)
   | (with_reducible exact ih2 _ _ _ _ _ _ _)
   | (with_reducible exact keelsonlaw22_light.mono _ _)
   | (with_reducible exact LeO.refl _)
   | (with_reducible exact LeO.none _)
   | (with_reducible refine LeO.ite ?_ ?_)
   | (with_reducible refine LeO.bind ?_ (fun _ => ?_))
theorem keelsonlaw22_fine.calls (k : Nat) (a0_0 : ByteArray) (a0_1 : ByteArray) (A0_2 : Option Addr) (c0_2 : Nat) (l0_2 : List (List (S46))) (A0_3 : Option Addr) (c0_3 : Nat) (l0_3 : List (List (S46))) (A0_4 : Option Addr) (c0_4 : Nat) (l0_4 : List (S46)) (A0_5 : Option Addr) (c0_5 : Nat) (l0_5 : List (S46)) (r : Bool) (w : World) (hG : GL w) (hr0_2 : Kd.C (Kd.slice 46 k46) w A0_2 l0_2.length l0_2) (hc0_2 : l0_2.length ≤ c0_2) (hr0_3 : Kd.C (Kd.slice 46 k46) w A0_3 l0_3.length l0_3) (hc0_3 : l0_3.length ≤ c0_3) (hr0_4 : Kd.C k46 w A0_4 l0_4.length l0_4) (hc0_4 : l0_4.length ≤ c0_4) (hr0_5 : Kd.C k46 w A0_5 l0_5.length l0_5) (hc0_5 : l0_5.length ≤ c0_5) (h : keelsonlaw22_fine.f k a0_0 a0_1 l0_2 l0_3 l0_4 l0_5 = some r) :
  Calls Tryz.prog 35 #[.agg #[.string a0_0,.string a0_1,.slice A0_2 l0_2.length c0_2,.slice A0_3 l0_3.length c0_3,.slice A0_4 l0_4.length c0_4,.slice A0_5 l0_5.length c0_5]] w fun e w' => e = .returned (.bool r) ∧ Below w.heap.size w w' := by
 have hu37 := Tryz.underlying37
 have HR0_2 := Aside0.mk hr0_2
 have HC0_2 := Aside0.mk hc0_2
 clear hr0_2 hc0_2
 have HR0_3 := Aside0.mk hr0_3
 have HC0_3 := Aside0.mk hc0_3
 clear hr0_3 hc0_3
 have HR0_4 := Aside0.mk hr0_4
 have HC0_4 := Aside0.mk hc0_4
 clear hr0_4 hc0_4
 have HR0_5 := Aside0.mk hr0_5
 have HC0_5 := Aside0.mk hc0_5
 clear hr0_5 hc0_5
 have HB := Aside0.mk (Below.refl w.heap.size w)
 have H : ((keelsonlaw22_light.f k l0_4).bind fun t303 => ((keelsonlaw22_light.f k l0_5).bind fun t304 => (if t303 = true then (if t304 = true then (if (a0_0.size : Int) > 100 then (keelsonlaw22_fine.j0 k true a0_0 a0_1 l0_2 l0_3 l0_4 l0_5) else (if (a0_1.size : Int) > 100 then (keelsonlaw22_fine.j0 k true a0_0 a0_1 l0_2 l0_3 l0_4 l0_5) else (if (l0_2.length : Int) > 15 then (keelsonlaw22_fine.j0 k true a0_0 a0_1 l0_2 l0_3 l0_4 l0_5) else (keelsonlaw22_fine.j0 k (decide ((l0_3.length : Int) > 15)) a0_0 a0_1 l0_2 l0_3 l0_4 l0_5)))) else (keelsonlaw22_fine.j0 k true a0_0 a0_1 l0_2 l0_3 l0_4 l0_5)) else (keelsonlaw22_fine.j0 k true a0_0 a0_1 l0_2 l0_3 l0_4 l0_5)))) = some r := h
 clear h
 replace H := Option.bind_eq_some_iff.mp H
 obtain ⟨t303,A20,H⟩ := H
 replace H : ((keelsonlaw22_light.f k l0_5).bind fun t304 => (if t303 = true then (if t304 = true then (if (a0_0.size : Int) > 100 then (keelsonlaw22_fine.j0 k true a0_0 a0_1 l0_2 l0_3 l0_4 l0_5) else (if (a0_1.size : Int) > 100 then (keelsonlaw22_fine.j0 k true a0_0 a0_1 l0_2 l0_3 l0_4 l0_5) else (if (l0_2.length : Int) > 15 then (keelsonlaw22_fine.j0 k true a0_0 a0_1 l0_2 l0_3 l0_4 l0_5) else (keelsonlaw22_fine.j0 k (decide ((l0_3.length : Int) > 15)) a0_0 a0_1 l0_2 l0_3 l0_4 l0_5)))) else (keelsonlaw22_fine.j0 k true a0_0 a0_1 l0_2 l0_3 l0_4 l0_5)) else (keelsonlaw22_fine.j0 k true a0_0 a0_1 l0_2 l0_3 l0_4 l0_5))) = some r := H
 have A2 := Aside0.mk A20
 clear A20
 replace H := Option.bind_eq_some_iff.mp H
 obtain ⟨t304,A30,H⟩ := H
 replace H : (if t303 = true then (if t304 = true then (if (a0_0.size : Int) > 100 then (keelsonlaw22_fine.j0 k true a0_0 a0_1 l0_2 l0_3 l0_4 l0_5) else (if (a0_1.size : Int) > 100 then (keelsonlaw22_fine.j0 k true a0_0 a0_1 l0_2 l0_3 l0_4 l0_5) else (if (l0_2.length : Int) > 15 then (keelsonlaw22_fine.j0 k true a0_0 a0_1 l0_2 l0_3 l0_4 l0_5) else (keelsonlaw22_fine.j0 k (decide ((l0_3.length : Int) > 15)) a0_0 a0_1 l0_2 l0_3 l0_4 l0_5)))) else (keelsonlaw22_fine.j0 k true a0_0 a0_1 l0_2 l0_3 l0_4 l0_5)) else (keelsonlaw22_fine.j0 k true a0_0 a0_1 l0_2 l0_3 l0_4 l0_5)) = some r := H
 have A3 := Aside0.mk A30
 clear A30
 have HC4 := Aside0.mk H
 clear H
 go_enter Tryz.func35,Tryz.ntmps35
 go_upto_region 3 with (first|((with_reducible refine gate_dst (N := 1) rfl ?_);(try (refine gate_guard (by rfl) ?_;dsimp only));refine box_event ?hg (N := 1) ?hd (cs := #[.string a0_0,.string a0_1,.slice A0_2 l0_2.length c0_2,.slice A0_3 l0_3.length c0_3,.slice A0_4 l0_4.length c0_4,.slice A0_5 l0_5.length c0_5]) (t := 37) ?hr ?_;(case hd => rfl);(case hg => rfl);(case hr => first|(go_simp;done)|(go_simp;rfl));intro gb302 hg w5 hbox hb;have n0_ := Aside0.mk (qan (by repeat (with_reducible first|exact HB.out|apply qab|apply qaa|apply qac)) hb);have n1_ := Aside0.mk (hbox);have n2_ := Aside0.mk ((by rw [hg];exact (qao (by repeat (with_reducible first|exact HB.out|apply qab|apply qaa|apply qac))) : w.heap.size ≤ gb302));have n3_ := Aside0.mk ((by rw [hg];exact (qao (by repeat (with_reducible first|exact HB.out|apply qab|apply qaa|apply qac))) : w.heap.size ≤ gb302));clear HB;have HB := n0_;have BK302 := n1_;have GW302 := n2_;have GE302 := n3_;clear n0_ n1_ n2_ n3_;clear hb hbox hg;have hcz6_0 : w5.cell? ⟨gb302,0,none⟩ = some (.string a0_0) := (qae BK302.out 0).trans rfl;have hcz6_1 : w5.cell? ⟨gb302,1,none⟩ = some (.string a0_1) := (qae BK302.out 1).trans rfl;have hcz6_2 : w5.cell? ⟨gb302,2,none⟩ = some (.slice A0_2 l0_2.length c0_2) := (qae BK302.out 2).trans rfl;have hcz6_3 : w5.cell? ⟨gb302,3,none⟩ = some (.slice A0_3 l0_3.length c0_3) := (qae BK302.out 3).trans rfl;have hcz6_4 : w5.cell? ⟨gb302,4,none⟩ = some (.slice A0_4 l0_4.length c0_4) := (qae BK302.out 4).trans rfl;have hcz6_5 : w5.cell? ⟨gb302,5,none⟩ = some (.slice A0_5 l0_5.length c0_5) := (qae BK302.out 5).trans rfl;have hfz6_0 := qad BK302.out 0;have hfz6_1 := qad BK302.out 1;have hfz6_2 := qad BK302.out 2;have hfz6_3 := qad BK302.out 3;have hfz6_4 := qad BK302.out 4;have hfz6_5 := qad BK302.out 5)|((with_reducible refine qal (f := 60) rfl ?_);refine goesL_ (some 11) rfl rfl Tryz.func60 (by kernel_rfl) rfl #[.slice A0_4 l0_4.length c0_4] rfl (by first|rfl|(simp only [List.map_toArray,List.map_cons,List.map_nil,List.length_drop,List.length_take];rfl)|simp only [List.map_toArray,List.map_cons,List.map_nil]) ?_;(with_reducible refine (keelsonlaw22_light.calls k _ _ l0_4 t303 _ (by first|exact hG|exact GL.below hG (by repeat (first|(with_reducible first|exact HB.out|apply qab|apply qaa|apply qac|refine qaf ?_ GE302.out)|exact HB.out)))  ?side1 ?side2 A2.out).mono ?_);(case side1 => repeat (first|exact (Kd.C_below HR0_4.out HB.out)|(with_reducible refine Kd.C_alloc ?_ _)|(with_reducible refine Kd.C_drewN ?_ _)|(with_reducible refine Kd.C_drew ?_)));(case side2 => exact HC0_4.out);rintro e w' ⟨rfl,⟨nd,rfl⟩⟩;refine ⟨_,rfl,?_⟩)|((with_reducible refine qal (f := 60) rfl ?_);refine goesL_ (some 14) rfl rfl Tryz.func60 (by kernel_rfl) rfl #[.slice A0_5 l0_5.length c0_5] rfl (by first|rfl|(simp only [List.map_toArray,List.map_cons,List.map_nil,List.length_drop,List.length_take];rfl)|simp only [List.map_toArray,List.map_cons,List.map_nil]) ?_;(with_reducible refine (keelsonlaw22_light.calls k _ _ l0_5 t304 _ (by first|exact hG|exact GL.below hG (by repeat (first|(with_reducible first|exact HB.out|apply qab|apply qaa|apply qac|refine qaf ?_ GE302.out)|exact HB.out)))  ?side1 ?side2 A3.out).mono ?_);(case side1 => repeat (first|exact (Kd.C_below HR0_5.out (by repeat (first|(with_reducible first|exact HB.out|apply qab|apply qaa|apply qac|refine qaf ?_ GE302.out)|exact HB.out)))|(with_reducible refine Kd.C_alloc ?_ _)|(with_reducible refine Kd.C_drewN ?_ _)|(with_reducible refine Kd.C_drew ?_)));(case side2 => exact HC0_5.out);rintro e w' ⟨rfl,⟨nd,rfl⟩⟩;refine ⟨_,rfl,?_⟩))
 (try simp only [Act.put,List.setIfInBounds_toArray,List.set_cons_zero,List.set_cons_succ])
 go_cut [44] (fun v44 wc => ∃ (kq : Nat) (x44_3 : Bool),v44 = .bool x44_3 ∧ Aside0 (keelsonlaw22_fine.j0 kq x44_3 a0_0 a0_1 l0_2 l0_3 l0_4 l0_5 = some r) ∧ Aside0 (kq ≤ k) ∧ Aside0 (wc.heap[gb302]? = some (.cells #[.string a0_0,.string a0_1,(.slice A0_2 l0_2.length c0_2),(.slice A0_3 l0_3.length c0_3),(.slice A0_4 l0_4.length c0_4),(.slice A0_5 l0_5.length c0_5)] 37 (0,0))) ∧ Aside0 (Below w.heap.size w wc))
 case first =>
  have H := HC4.out
  clear HC4
  by_cases c7 : t303 = true
  ·subst c7
   have H1 : (if t304 = true then (if (a0_0.size : Int) > 100 then (keelsonlaw22_fine.j0 k true a0_0 a0_1 l0_2 l0_3 l0_4 l0_5) else (if (a0_1.size : Int) > 100 then (keelsonlaw22_fine.j0 k true a0_0 a0_1 l0_2 l0_3 l0_4 l0_5) else (if (l0_2.length : Int) > 15 then (keelsonlaw22_fine.j0 k true a0_0 a0_1 l0_2 l0_3 l0_4 l0_5) else (keelsonlaw22_fine.j0 k (decide ((l0_3.length : Int) > 15)) a0_0 a0_1 l0_2 l0_3 l0_4 l0_5)))) else (keelsonlaw22_fine.j0 k true a0_0 a0_1 l0_2 l0_3 l0_4 l0_5)) = some r := by rw [if_pos rfl] at H;exact H
   clear H
   have H := H1
   clear H1
   by_cases c8 : t304 = true
   ·subst c8
    have H1 : (if (a0_0.size : Int) > 100 then (keelsonlaw22_fine.j0 k true a0_0 a0_1 l0_2 l0_3 l0_4 l0_5) else (if (a0_1.size : Int) > 100 then (keelsonlaw22_fine.j0 k true a0_0 a0_1 l0_2 l0_3 l0_4 l0_5) else (if (l0_2.length : Int) > 15 then (keelsonlaw22_fine.j0 k true a0_0 a0_1 l0_2 l0_3 l0_4 l0_5) else (keelsonlaw22_fine.j0 k (decide ((l0_3.length : Int) > 15)) a0_0 a0_1 l0_2 l0_3 l0_4 l0_5)))) = some r := by rw [if_pos rfl] at H;exact H
    clear H
    have H := H1
    clear H1
    by_cases c9 : (a0_0.size : Int) > 100
    ·rw [if_pos c9] at H
     have c9b0 : decide (100 < (a0_0.size : Int)) = true := decide_eq_true c9
     have c9b1 : decide (100 < a0_0.size) = true := decide_eq_true (by omega)
     clear c9
     (first|rw [c9b0]|(simp only [i64_w,i32_w];rw [c9b0]) | skip)
     have H' := Aside0.mk H
     clear H
     have hcz10_0 : w5.cell? ⟨gb302,0,none⟩ = some (.string a0_0) := (qae BK302.out 0).trans rfl
     have hcz10_1 : w5.cell? ⟨gb302,1,none⟩ = some (.string a0_1) := (qae BK302.out 1).trans rfl
     have hcz10_2 : w5.cell? ⟨gb302,2,none⟩ = some (.slice A0_2 l0_2.length c0_2) := (qae BK302.out 2).trans rfl
     have hcz10_3 : w5.cell? ⟨gb302,3,none⟩ = some (.slice A0_3 l0_3.length c0_3) := (qae BK302.out 3).trans rfl
     have hcz10_4 : w5.cell? ⟨gb302,4,none⟩ = some (.slice A0_4 l0_4.length c0_4) := (qae BK302.out 4).trans rfl
     have hcz10_5 : w5.cell? ⟨gb302,5,none⟩ = some (.slice A0_5 l0_5.length c0_5) := (qae BK302.out 5).trans rfl
     have hfz10_0 := qad BK302.out 0
     have hfz10_1 := qad BK302.out 1
     have hfz10_2 := qad BK302.out 2
     have hfz10_3 := qad BK302.out 3
     have hfz10_4 := qad BK302.out 4
     have hfz10_5 := qad BK302.out 5
     go_wp2
     go_meet
     case rel => exact ⟨_,(true),(by first|rfl|(simp;done)|(simp [*];done)|(simp [qam];done)),H',⟨by first|omega|exact Nat.le_refl _⟩,⟨by (with_reducible repeat (first|refine qah ?_ _|refine qai ?_|refine qag ?_ _));exact BK302.out⟩,⟨by repeat (first|(with_reducible first|exact HB.out|apply qab|apply qaa|apply qac|refine qaf ?_ GE302.out)|exact HB.out)⟩⟩
    ·rw [if_neg c9] at H
     have c9b0 : decide (100 < (a0_0.size : Int)) = false := decide_eq_false c9
     have c9b1 : decide (100 < a0_0.size) = false := decide_eq_false (by omega)
     clear c9
     (first|rw [c9b0]|(simp only [i64_w,i32_w];rw [c9b0]) | skip)
     by_cases c11 : (a0_1.size : Int) > 100
     ·rw [if_pos c11] at H
      have c11b0 : decide (100 < (a0_1.size : Int)) = true := decide_eq_true c11
      have c11b1 : decide (100 < a0_1.size) = true := decide_eq_true (by omega)
      clear c11
      have H' := Aside0.mk H
      clear H
      have hcz12_0 : w5.cell? ⟨gb302,0,none⟩ = some (.string a0_0) := (qae BK302.out 0).trans rfl
      have hcz12_1 : w5.cell? ⟨gb302,1,none⟩ = some (.string a0_1) := (qae BK302.out 1).trans rfl
      have hcz12_2 : w5.cell? ⟨gb302,2,none⟩ = some (.slice A0_2 l0_2.length c0_2) := (qae BK302.out 2).trans rfl
      have hcz12_3 : w5.cell? ⟨gb302,3,none⟩ = some (.slice A0_3 l0_3.length c0_3) := (qae BK302.out 3).trans rfl
      have hcz12_4 : w5.cell? ⟨gb302,4,none⟩ = some (.slice A0_4 l0_4.length c0_4) := (qae BK302.out 4).trans rfl
      have hcz12_5 : w5.cell? ⟨gb302,5,none⟩ = some (.slice A0_5 l0_5.length c0_5) := (qae BK302.out 5).trans rfl
      have hfz12_0 := qad BK302.out 0
      have hfz12_1 := qad BK302.out 1
      have hfz12_2 := qad BK302.out 2
      have hfz12_3 := qad BK302.out 3
      have hfz12_4 := qad BK302.out 4
      have hfz12_5 := qad BK302.out 5
      go_wp2
      go_meet
      case rel => exact ⟨_,(true),(by first|rfl|(simp;done)|(simp [*];done)|(simp [qam];done)),H',⟨by first|omega|exact Nat.le_refl _⟩,⟨by (with_reducible repeat (first|refine qah ?_ _|refine qai ?_|refine qag ?_ _));exact BK302.out⟩,⟨by repeat (first|(with_reducible first|exact HB.out|apply qab|apply qaa|apply qac|refine qaf ?_ GE302.out)|exact HB.out)⟩⟩
     ·rw [if_neg c11] at H
      have c11b0 : decide (100 < (a0_1.size : Int)) = false := decide_eq_false c11
      have c11b1 : decide (100 < a0_1.size) = false := decide_eq_false (by omega)
      clear c11
      by_cases c13 : (l0_2.length : Int) > 15
      ·rw [if_pos c13] at H
       have c13b0 : decide (15 < (l0_2.length : Int)) = true := decide_eq_true c13
       have c13b1 : decide (15 < l0_2.length) = true := decide_eq_true (by omega)
       clear c13
       have H' := Aside0.mk H
       clear H
       have hcz14_0 : w5.cell? ⟨gb302,0,none⟩ = some (.string a0_0) := (qae BK302.out 0).trans rfl
       have hcz14_1 : w5.cell? ⟨gb302,1,none⟩ = some (.string a0_1) := (qae BK302.out 1).trans rfl
       have hcz14_2 : w5.cell? ⟨gb302,2,none⟩ = some (.slice A0_2 l0_2.length c0_2) := (qae BK302.out 2).trans rfl
       have hcz14_3 : w5.cell? ⟨gb302,3,none⟩ = some (.slice A0_3 l0_3.length c0_3) := (qae BK302.out 3).trans rfl
       have hcz14_4 : w5.cell? ⟨gb302,4,none⟩ = some (.slice A0_4 l0_4.length c0_4) := (qae BK302.out 4).trans rfl
       have hcz14_5 : w5.cell? ⟨gb302,5,none⟩ = some (.slice A0_5 l0_5.length c0_5) := (qae BK302.out 5).trans rfl
       have hfz14_0 := qad BK302.out 0
       have hfz14_1 := qad BK302.out 1
       have hfz14_2 := qad BK302.out 2
       have hfz14_3 := qad BK302.out 3
       have hfz14_4 := qad BK302.out 4
       have hfz14_5 := qad BK302.out 5
       go_wp2
       go_meet
       case rel => exact ⟨_,(true),(by first|rfl|(simp;done)|(simp [*];done)|(simp [qam];done)),H',⟨by first|omega|exact Nat.le_refl _⟩,⟨by (with_reducible repeat (first|refine qah ?_ _|refine qai ?_|refine qag ?_ _));exact BK302.out⟩,⟨by repeat (first|(with_reducible first|exact HB.out|apply qab|apply qaa|apply qac|refine qaf ?_ GE302.out)|exact HB.out)⟩⟩
      ·rw [if_neg c13] at H
       have c13b0 : decide (15 < (l0_2.length : Int)) = false := decide_eq_false c13
       have c13b1 : decide (15 < l0_2.length) = false := decide_eq_false (by omega)
       clear c13
       have H' := Aside0.mk H
       clear H
       have hcz15_0 : w5.cell? ⟨gb302,0,none⟩ = some (.string a0_0) := (qae BK302.out 0).trans rfl
       have hcz15_1 : w5.cell? ⟨gb302,1,none⟩ = some (.string a0_1) := (qae BK302.out 1).trans rfl
       have hcz15_2 : w5.cell? ⟨gb302,2,none⟩ = some (.slice A0_2 l0_2.length c0_2) := (qae BK302.out 2).trans rfl
       have hcz15_3 : w5.cell? ⟨gb302,3,none⟩ = some (.slice A0_3 l0_3.length c0_3) := (qae BK302.out 3).trans rfl
       have hcz15_4 : w5.cell? ⟨gb302,4,none⟩ = some (.slice A0_4 l0_4.length c0_4) := (qae BK302.out 4).trans rfl
       have hcz15_5 : w5.cell? ⟨gb302,5,none⟩ = some (.slice A0_5 l0_5.length c0_5) := (qae BK302.out 5).trans rfl
       have hfz15_0 := qad BK302.out 0
       have hfz15_1 := qad BK302.out 1
       have hfz15_2 := qad BK302.out 2
       have hfz15_3 := qad BK302.out 3
       have hfz15_4 := qad BK302.out 4
       have hfz15_5 := qad BK302.out 5
       go_wp2
       go_meet
       case rel => exact ⟨_,(decide ((l0_3.length : Int) > 15)),(by first|rfl|(simp;done)|(simp [*];done)|(simp [qam];done)),H',⟨by first|omega|exact Nat.le_refl _⟩,⟨by (with_reducible repeat (first|refine qah ?_ _|refine qai ?_|refine qag ?_ _));exact BK302.out⟩,⟨by repeat (first|(with_reducible first|exact HB.out|apply qab|apply qaa|apply qac|refine qaf ?_ GE302.out)|exact HB.out)⟩⟩
   ·replace c8 := Bool.eq_false_iff.mpr c8
    subst c8
    have H1 : (keelsonlaw22_fine.j0 k true a0_0 a0_1 l0_2 l0_3 l0_4 l0_5) = some r := by rw [if_neg (show ¬ (false = true) by decide)] at H;exact H
    clear H
    have H := H1
    clear H1
    have H' := Aside0.mk H
    clear H
    go_wp2
    go_meet
    case rel => exact ⟨_,(true),(by first|rfl|(simp;done)|(simp [*];done)|(simp [qam];done)),H',⟨by first|omega|exact Nat.le_refl _⟩,⟨by (with_reducible repeat (first|refine qah ?_ _|refine qai ?_|refine qag ?_ _));exact BK302.out⟩,⟨by repeat (first|(with_reducible first|exact HB.out|apply qab|apply qaa|apply qac|refine qaf ?_ GE302.out)|exact HB.out)⟩⟩
  ·replace c7 := Bool.eq_false_iff.mpr c7
   subst c7
   have H1 : (keelsonlaw22_fine.j0 k true a0_0 a0_1 l0_2 l0_3 l0_4 l0_5) = some r := by rw [if_neg (show ¬ (false = true) by decide)] at H;exact H
   clear H
   have H := H1
   clear H1
   have H' := Aside0.mk H
   clear H
   go_wp2
   go_meet
   case rel => exact ⟨_,(true),(by first|rfl|(simp;done)|(simp [*];done)|(simp [qam];done)),H',⟨by first|omega|exact Nat.le_refl _⟩,⟨by (with_reducible repeat (first|refine qah ?_ _|refine qai ?_|refine qag ?_ _));exact BK302.out⟩,⟨by repeat (first|(with_reducible first|exact HB.out|apply qab|apply qaa|apply qac|refine qaf ?_ GE302.out)|exact HB.out)⟩⟩
 case rest =>
  clear HC4
  try clear c1
  try clear p2
  try clear c3
  try clear c6
  try clear c7
  try clear c8
  try clear c9
  try clear c9b0
  try clear c9b1
  try clear c11
  try clear c11b0
  try clear c11b1
  try clear c13
  try clear c13b0
  try clear c13b1
  try clear hcz10_0
  try clear hcz10_1
  try clear hcz10_2
  try clear hcz10_3
  try clear hcz10_4
  try clear hcz10_5
  try clear hcz12_0
  try clear hcz12_1
  try clear hcz12_2
  try clear hcz12_3
  try clear hcz12_4
  try clear hcz12_5
  try clear hcz14_0
  try clear hcz14_1
  try clear hcz14_2
  try clear hcz14_3
  try clear hcz14_4
  try clear hcz14_5
  try clear hcz15_0
  try clear hcz15_1
  try clear hcz15_2
  try clear hcz15_3
  try clear hcz15_4
  try clear hcz15_5
  try clear hcz6_0
  try clear hcz6_1
  try clear hcz6_2
  try clear hcz6_3
  try clear hcz6_4
  try clear hcz6_5
  try clear hfz10_0
  try clear hfz10_1
  try clear hfz10_2
  try clear hfz10_3
  try clear hfz10_4
  try clear hfz10_5
  try clear hfz12_0
  try clear hfz12_1
  try clear hfz12_2
  try clear hfz12_3
  try clear hfz12_4
  try clear hfz12_5
  try clear hfz14_0
  try clear hfz14_1
  try clear hfz14_2
  try clear hfz14_3
  try clear hfz14_4
  try clear hfz14_5
  try clear hfz15_0
  try clear hfz15_1
  try clear hfz15_2
  try clear hfz15_3
  try clear hfz15_4
  try clear hfz15_5
  try clear hfz6_0
  try clear hfz6_1
  try clear hfz6_2
  try clear hfz6_3
  try clear hfz6_4
  try clear hfz6_5
  obtain ⟨kq,x44_3,rfl,HA,HJ3,BK302,HB⟩ := hcut
  cases kq with
  | zero => exact absurd HA.out (by simp [keelsonlaw22_fine.j0])
  | succ kj3 =>
   have H := HA.out
   clear HA
   simp only [keelsonlaw22_fine.j0] at H
   by_cases c16 : x44_3 = true
   ·subst c16
    have H1 : (some false) = some r := by rw [if_pos rfl] at H;exact H
    clear H
    have H := H1
    clear H1
    obtain rfl := Option.some.inj H
    go_wp2
    go_ret
    exact ⟨by first|rfl|(simp [qaj,qak]<;>rfl)|(simp [*,qaj,qak]<;>rfl),by repeat (first|(with_reducible first|exact HB.out|apply qab|apply qaa|apply qac|refine qaf ?_ GE302.out)|exact HB.out)⟩
   ·replace c16 := Bool.eq_false_iff.mpr c16
    subst c16
    have H1 : (keelsonlaw22_fine.l0 kj3 0 a0_0 a0_1 l0_2 l0_3 l0_4 l0_5) = some r := by rw [if_neg (show ¬ (false = true) by decide)] at H;exact H
    clear H
    have H := H1
    clear H1
    have H' := Aside0.mk H
    clear H
    go_wp2
    go_loopg [5] kj3 (fun kq v5 w' => ∃ (x5_2 : Int),v5 = .int .i64 x5_2 ∧ Aside0 (keelsonlaw22_fine.l0 kq x5_2 a0_0 a0_1 l0_2 l0_3 l0_4 l0_5 = some r) ∧ Aside0 (kq ≤ kj3) ∧ Aside0 (w'.heap[gb302]? = some (.cells #[.string a0_0,.string a0_1,(.slice A0_2 l0_2.length c0_2),(.slice A0_3 l0_3.length c0_3),(.slice A0_4 l0_4.length c0_4),(.slice A0_5 l0_5.length c0_5)] 37 (0,0))) ∧ Aside0 (Below w.heap.size w w'))
    case atStart => exact ⟨(0),(by first|rfl|(simp;done)|(simp [*];done)|(simp [qam];done)),H',⟨Nat.le_refl _⟩,⟨by (with_reducible repeat (first|refine qah ?_ _|refine qai ?_|refine qag ?_ _));exact BK302.out⟩,⟨by repeat (first|(with_reducible first|exact HB.out|apply qab|apply qaa|apply qac|refine qaf ?_ GE302.out)|exact HB.out)⟩⟩
    case round =>
     clear H'
     try clear c1
     try clear p2
     try clear c3
     try clear c6
     try clear c7
     try clear c8
     try clear c9
     try clear c9b0
     try clear c9b1
     try clear c11
     try clear c11b0
     try clear c11b1
     try clear c13
     try clear c13b0
     try clear c13b1
     try clear c16
     try clear hcz10_0
     try clear hcz10_1
     try clear hcz10_2
     try clear hcz10_3
     try clear hcz10_4
     try clear hcz10_5
     try clear hcz12_0
     try clear hcz12_1
     try clear hcz12_2
     try clear hcz12_3
     try clear hcz12_4
     try clear hcz12_5
     try clear hcz14_0
     try clear hcz14_1
     try clear hcz14_2
     try clear hcz14_3
     try clear hcz14_4
     try clear hcz14_5
     try clear hcz15_0
     try clear hcz15_1
     try clear hcz15_2
     try clear hcz15_3
     try clear hcz15_4
     try clear hcz15_5
     try clear hcz6_0
     try clear hcz6_1
     try clear hcz6_2
     try clear hcz6_3
     try clear hcz6_4
     try clear hcz6_5
     try clear hfz10_0
     try clear hfz10_1
     try clear hfz10_2
     try clear hfz10_3
     try clear hfz10_4
     try clear hfz10_5
     try clear hfz12_0
     try clear hfz12_1
     try clear hfz12_2
     try clear hfz12_3
     try clear hfz12_4
     try clear hfz12_5
     try clear hfz14_0
     try clear hfz14_1
     try clear hfz14_2
     try clear hfz14_3
     try clear hfz14_4
     try clear hfz14_5
     try clear hfz15_0
     try clear hfz15_1
     try clear hfz15_2
     try clear hfz15_3
     try clear hfz15_4
     try clear hfz15_5
     try clear hfz6_0
     try clear hfz6_1
     try clear hfz6_2
     try clear hfz6_3
     try clear hfz6_4
     try clear hfz6_5
     try clear p2
     obtain ⟨x5_2,rfl,HA,HK2,BK302,HB⟩ := hrel
     cases gk with
     | zero => exact absurd HA.out (by simp [keelsonlaw22_fine.l0])
     | succ k2 =>
      have H := HA.out
      clear HA
      simp only [keelsonlaw22_fine.l0] at H
      by_cases c17 : x5_2 < (l0_2.length : Int)
      ·rw [if_pos c17] at H
       have c17b0 : decide (x5_2 < (l0_2.length : Int)) = true := decide_eq_true c17
       clear c17
       by_cases c18 : 0 ≤ x5_2
       ·rw [if_pos c18] at H
        have c18b0 : decide (0 ≤ x5_2) = true := decide_eq_true c18
        clear c18
        replace H := Option.bind_eq_some_iff.mp H
        obtain ⟨t306,A190,H⟩ := H
        replace H : (if t306 = true then (keelsonlaw22_fine.l0 k2 (wrap64 (x5_2 + 1)) a0_0 a0_1 l0_2 l0_3 l0_4 l0_5) else (some false)) = some r := H
        have A19 := Aside0.mk A190
        clear A190
        by_cases c20 : t306 = true
        ·subst c20
         have H1 : (keelsonlaw22_fine.l0 k2 (wrap64 (x5_2 + 1)) a0_0 a0_1 l0_2 l0_3 l0_4 l0_5) = some r := by rw [if_pos rfl] at H;exact H
         clear H
         have H := H1
         clear H1
         have H' := Aside0.mk H
         clear H
         have hcz21_0 : wr.cell? ⟨gb302,0,none⟩ = some (.string a0_0) := (qae BK302.out 0).trans rfl
         have hcz21_1 : wr.cell? ⟨gb302,1,none⟩ = some (.string a0_1) := (qae BK302.out 1).trans rfl
         have hcz21_2 : wr.cell? ⟨gb302,2,none⟩ = some (.slice A0_2 l0_2.length c0_2) := (qae BK302.out 2).trans rfl
         have hcz21_3 : wr.cell? ⟨gb302,3,none⟩ = some (.slice A0_3 l0_3.length c0_3) := (qae BK302.out 3).trans rfl
         have hcz21_4 : wr.cell? ⟨gb302,4,none⟩ = some (.slice A0_4 l0_4.length c0_4) := (qae BK302.out 4).trans rfl
         have hcz21_5 : wr.cell? ⟨gb302,5,none⟩ = some (.slice A0_5 l0_5.length c0_5) := (qae BK302.out 5).trans rfl
         have hfz21_0 := qad BK302.out 0
         have hfz21_1 := qad BK302.out 1
         have hfz21_2 := qad BK302.out 2
         have hfz21_3 := qad BK302.out 3
         have hfz21_4 := qad BK302.out 4
         have hfz21_5 := qad BK302.out 5
         have p305 : 0 ≤ (x5_2 : Int) := of_decide_eq_true (by assumption)
         have q305 : x5_2 < (l0_2.length : Int) := of_decide_eq_true (by assumption)
         obtain ⟨ad305,A305_0,c305_0,e305,hx305_0,hl305_0,hi305_0⟩ := at_L4 HR0_2.out x5_2 p305 q305
         cases e305
         replace hx305_0 := (HB.out.cell (World.block_lt_of_cell? w _ hx305_0)).trans hx305_0
         have HR305_0 := Aside0.mk hi305_0
         have HC305_0 := Aside0.mk hl305_0
         clear hi305_0 hl305_0
         replace p305 := eq_true p305
         replace q305 := eq_true q305
         go_wp2_with (first|((with_reducible refine qal (f := 60) rfl ?_);refine goesL_ (some 57) rfl rfl Tryz.func60 (by kernel_rfl) rfl #[.slice A305_0 (rd_L4 l0_2 x5_2).length c305_0] rfl (by first|rfl|(simp only [List.map_toArray,List.map_cons,List.map_nil,List.length_drop,List.length_take];rfl)|simp only [List.map_toArray,List.map_cons,List.map_nil]) ?_;(with_reducible refine (keelsonlaw22_light.calls k2 _ _ (rd_L4 l0_2 x5_2) true _ (by first|exact hG|exact GL.below hG (by repeat (first|(with_reducible first|exact HB.out|apply qab|apply qaa|apply qac|refine qaf ?_ GE302.out)|exact HB.out)))  ?side1 ?side2 A19.out).mono ?_);(case side1 => repeat (first|exact (Kd.C_below HR305_0.out HB.out)|(with_reducible refine Kd.C_alloc ?_ _)|(with_reducible refine Kd.C_drewN ?_ _)|(with_reducible refine Kd.C_drew ?_)));(case side2 => exact HC305_0.out);rintro e w' ⟨rfl,⟨nd,rfl⟩⟩;refine ⟨_,rfl,?_⟩))
         go_roundg k2
         case measure => have := HJ3.out;have := HK2.out;omega
         case rel => exact ⟨(wrap64 (x5_2 + 1)),(by first|rfl|(simp;done)|(simp [*];done)|(simp [qam];done)),H',⟨by have := HJ3.out;have := HK2.out;omega⟩,⟨by (with_reducible repeat (first|refine qah ?_ _|refine qai ?_|refine qag ?_ _));exact BK302.out⟩,⟨by repeat (first|(with_reducible first|exact HB.out|apply qab|apply qaa|apply qac|refine qaf ?_ GE302.out)|exact HB.out)⟩⟩
        ·replace c20 := Bool.eq_false_iff.mpr c20
         subst c20
         have H1 : (some false) = some r := by rw [if_neg (show ¬ (false = true) by decide)] at H;exact H
         clear H
         have H := H1
         clear H1
         obtain rfl := Option.some.inj H
         have hcz22_0 : wr.cell? ⟨gb302,0,none⟩ = some (.string a0_0) := (qae BK302.out 0).trans rfl
         have hcz22_1 : wr.cell? ⟨gb302,1,none⟩ = some (.string a0_1) := (qae BK302.out 1).trans rfl
         have hcz22_2 : wr.cell? ⟨gb302,2,none⟩ = some (.slice A0_2 l0_2.length c0_2) := (qae BK302.out 2).trans rfl
         have hcz22_3 : wr.cell? ⟨gb302,3,none⟩ = some (.slice A0_3 l0_3.length c0_3) := (qae BK302.out 3).trans rfl
         have hcz22_4 : wr.cell? ⟨gb302,4,none⟩ = some (.slice A0_4 l0_4.length c0_4) := (qae BK302.out 4).trans rfl
         have hcz22_5 : wr.cell? ⟨gb302,5,none⟩ = some (.slice A0_5 l0_5.length c0_5) := (qae BK302.out 5).trans rfl
         have hfz22_0 := qad BK302.out 0
         have hfz22_1 := qad BK302.out 1
         have hfz22_2 := qad BK302.out 2
         have hfz22_3 := qad BK302.out 3
         have hfz22_4 := qad BK302.out 4
         have hfz22_5 := qad BK302.out 5
         have p305 : 0 ≤ (x5_2 : Int) := of_decide_eq_true (by assumption)
         have q305 : x5_2 < (l0_2.length : Int) := of_decide_eq_true (by assumption)
         obtain ⟨ad305,A305_0,c305_0,e305,hx305_0,hl305_0,hi305_0⟩ := at_L4 HR0_2.out x5_2 p305 q305
         cases e305
         replace hx305_0 := (HB.out.cell (World.block_lt_of_cell? w _ hx305_0)).trans hx305_0
         have HR305_0 := Aside0.mk hi305_0
         have HC305_0 := Aside0.mk hl305_0
         clear hi305_0 hl305_0
         replace p305 := eq_true p305
         replace q305 := eq_true q305
         go_wp2_with (first|((with_reducible refine qal (f := 60) rfl ?_);refine goesL_ (some 57) rfl rfl Tryz.func60 (by kernel_rfl) rfl #[.slice A305_0 (rd_L4 l0_2 x5_2).length c305_0] rfl (by first|rfl|(simp only [List.map_toArray,List.map_cons,List.map_nil,List.length_drop,List.length_take];rfl)|simp only [List.map_toArray,List.map_cons,List.map_nil]) ?_;(with_reducible refine (keelsonlaw22_light.calls k2 _ _ (rd_L4 l0_2 x5_2) false _ (by first|exact hG|exact GL.below hG (by repeat (first|(with_reducible first|exact HB.out|apply qab|apply qaa|apply qac|refine qaf ?_ GE302.out)|exact HB.out)))  ?side1 ?side2 A19.out).mono ?_);(case side1 => repeat (first|exact (Kd.C_below HR305_0.out HB.out)|(with_reducible refine Kd.C_alloc ?_ _)|(with_reducible refine Kd.C_drewN ?_ _)|(with_reducible refine Kd.C_drew ?_)));(case side2 => exact HC305_0.out);rintro e w' ⟨rfl,⟨nd,rfl⟩⟩;refine ⟨_,rfl,?_⟩))
         go_ret
         exact ⟨by first|rfl|(simp [qaj,qak]<;>rfl)|(simp [*,qaj,qak]<;>rfl),by repeat (first|(with_reducible first|exact HB.out|apply qab|apply qaa|apply qac|refine qaf ?_ GE302.out)|exact HB.out)⟩
       ·rw [if_neg c18] at H
        exact absurd H (by simp)
      ·rw [if_neg c17] at H
       have c17b0 : decide (x5_2 < (l0_2.length : Int)) = false := decide_eq_false c17
       clear c17
       have H' := Aside0.mk H
       clear H
       have hcz23_0 : wr.cell? ⟨gb302,0,none⟩ = some (.string a0_0) := (qae BK302.out 0).trans rfl
       have hcz23_1 : wr.cell? ⟨gb302,1,none⟩ = some (.string a0_1) := (qae BK302.out 1).trans rfl
       have hcz23_2 : wr.cell? ⟨gb302,2,none⟩ = some (.slice A0_2 l0_2.length c0_2) := (qae BK302.out 2).trans rfl
       have hcz23_3 : wr.cell? ⟨gb302,3,none⟩ = some (.slice A0_3 l0_3.length c0_3) := (qae BK302.out 3).trans rfl
       have hcz23_4 : wr.cell? ⟨gb302,4,none⟩ = some (.slice A0_4 l0_4.length c0_4) := (qae BK302.out 4).trans rfl
       have hcz23_5 : wr.cell? ⟨gb302,5,none⟩ = some (.slice A0_5 l0_5.length c0_5) := (qae BK302.out 5).trans rfl
       have hfz23_0 := qad BK302.out 0
       have hfz23_1 := qad BK302.out 1
       have hfz23_2 := qad BK302.out 2
       have hfz23_3 := qad BK302.out 3
       have hfz23_4 := qad BK302.out 4
       have hfz23_5 := qad BK302.out 5
       go_wp2
       go_loopg [7] k2 (fun kq v7 w' => ∃ (x7_3 : Int),v7 = .int .i64 x7_3 ∧ Aside0 (keelsonlaw22_fine.l1 kq x7_3 a0_0 a0_1 l0_2 l0_3 l0_4 l0_5 = some r) ∧ Aside0 (kq ≤ k2) ∧ Aside0 (w'.heap[gb302]? = some (.cells #[.string a0_0,.string a0_1,(.slice A0_2 l0_2.length c0_2),(.slice A0_3 l0_3.length c0_3),(.slice A0_4 l0_4.length c0_4),(.slice A0_5 l0_5.length c0_5)] 37 (0,0))) ∧ Aside0 (Below w.heap.size w w'))
       case atStart => exact ⟨(0),(by first|rfl|(simp;done)|(simp [*];done)|(simp [qam];done)),H',⟨Nat.le_refl _⟩,⟨by (with_reducible repeat (first|refine qah ?_ _|refine qai ?_|refine qag ?_ _));exact BK302.out⟩,⟨by repeat (first|(with_reducible first|exact HB.out|apply qab|apply qaa|apply qac|refine qaf ?_ GE302.out)|exact HB.out)⟩⟩
       case round =>
        clear H'
        try clear c1
        try clear c2
        try clear p2
        try clear c3
        try clear p3
        try clear q3
        try clear hx3
        try clear c6
        try clear p6
        try clear c7
        try clear c8
        try clear c9
        try clear c9b0
        try clear c9b1
        try clear c11
        try clear c11b0
        try clear c11b1
        try clear c13
        try clear c13b0
        try clear c13b1
        try clear c16
        try clear c17
        try clear c17b0
        try clear c18
        try clear c18b0
        try clear c20
        try clear hcz10_0
        try clear hcz10_1
        try clear hcz10_2
        try clear hcz10_3
        try clear hcz10_4
        try clear hcz10_5
        try clear hcz12_0
        try clear hcz12_1
        try clear hcz12_2
        try clear hcz12_3
        try clear hcz12_4
        try clear hcz12_5
        try clear hcz14_0
        try clear hcz14_1
        try clear hcz14_2
        try clear hcz14_3
        try clear hcz14_4
        try clear hcz14_5
        try clear hcz15_0
        try clear hcz15_1
        try clear hcz15_2
        try clear hcz15_3
        try clear hcz15_4
        try clear hcz15_5
        try clear hcz21_0
        try clear hcz21_1
        try clear hcz21_2
        try clear hcz21_3
        try clear hcz21_4
        try clear hcz21_5
        try clear hcz22_0
        try clear hcz22_1
        try clear hcz22_2
        try clear hcz22_3
        try clear hcz22_4
        try clear hcz22_5
        try clear hcz23_0
        try clear hcz23_1
        try clear hcz23_2
        try clear hcz23_3
        try clear hcz23_4
        try clear hcz23_5
        try clear hcz6_0
        try clear hcz6_1
        try clear hcz6_2
        try clear hcz6_3
        try clear hcz6_4
        try clear hcz6_5
        try clear hfz10_0
        try clear hfz10_1
        try clear hfz10_2
        try clear hfz10_3
        try clear hfz10_4
        try clear hfz10_5
        try clear hfz12_0
        try clear hfz12_1
        try clear hfz12_2
        try clear hfz12_3
        try clear hfz12_4
        try clear hfz12_5
        try clear hfz14_0
        try clear hfz14_1
        try clear hfz14_2
        try clear hfz14_3
        try clear hfz14_4
        try clear hfz14_5
        try clear hfz15_0
        try clear hfz15_1
        try clear hfz15_2
        try clear hfz15_3
        try clear hfz15_4
        try clear hfz15_5
        try clear hfz21_0
        try clear hfz21_1
        try clear hfz21_2
        try clear hfz21_3
        try clear hfz21_4
        try clear hfz21_5
        try clear hfz22_0
        try clear hfz22_1
        try clear hfz22_2
        try clear hfz22_3
        try clear hfz22_4
        try clear hfz22_5
        try clear hfz23_0
        try clear hfz23_1
        try clear hfz23_2
        try clear hfz23_3
        try clear hfz23_4
        try clear hfz23_5
        try clear hfz6_0
        try clear hfz6_1
        try clear hfz6_2
        try clear hfz6_3
        try clear hfz6_4
        try clear hfz6_5
        try clear hx305_0
        try clear p2
        try clear p305
        try clear q305
        obtain ⟨x7_3,rfl,HA,HK3,BK302,HB⟩ := hrel
        cases gk with
        | zero => exact absurd HA.out (by simp [keelsonlaw22_fine.l1])
        | succ k3 =>
         have H := HA.out
         clear HA
         simp only [keelsonlaw22_fine.l1] at H
         by_cases c24 : x7_3 < (l0_3.length : Int)
         ·rw [if_pos c24] at H
          have c24b0 : decide (x7_3 < (l0_3.length : Int)) = true := decide_eq_true c24
          clear c24
          by_cases c25 : 0 ≤ x7_3
          ·rw [if_pos c25] at H
           have c25b0 : decide (0 ≤ x7_3) = true := decide_eq_true c25
           clear c25
           replace H := Option.bind_eq_some_iff.mp H
           obtain ⟨t308,A260,H⟩ := H
           replace H : (if t308 = true then (keelsonlaw22_fine.l1 k3 (wrap64 (x7_3 + 1)) a0_0 a0_1 l0_2 l0_3 l0_4 l0_5) else (some false)) = some r := H
           have A26 := Aside0.mk A260
           clear A260
           by_cases c27 : t308 = true
           ·subst c27
            have H1 : (keelsonlaw22_fine.l1 k3 (wrap64 (x7_3 + 1)) a0_0 a0_1 l0_2 l0_3 l0_4 l0_5) = some r := by rw [if_pos rfl] at H;exact H
            clear H
            have H := H1
            clear H1
            have H' := Aside0.mk H
            clear H
            have hcz28_0 : wr.cell? ⟨gb302,0,none⟩ = some (.string a0_0) := (qae BK302.out 0).trans rfl
            have hcz28_1 : wr.cell? ⟨gb302,1,none⟩ = some (.string a0_1) := (qae BK302.out 1).trans rfl
            have hcz28_2 : wr.cell? ⟨gb302,2,none⟩ = some (.slice A0_2 l0_2.length c0_2) := (qae BK302.out 2).trans rfl
            have hcz28_3 : wr.cell? ⟨gb302,3,none⟩ = some (.slice A0_3 l0_3.length c0_3) := (qae BK302.out 3).trans rfl
            have hcz28_4 : wr.cell? ⟨gb302,4,none⟩ = some (.slice A0_4 l0_4.length c0_4) := (qae BK302.out 4).trans rfl
            have hcz28_5 : wr.cell? ⟨gb302,5,none⟩ = some (.slice A0_5 l0_5.length c0_5) := (qae BK302.out 5).trans rfl
            have hfz28_0 := qad BK302.out 0
            have hfz28_1 := qad BK302.out 1
            have hfz28_2 := qad BK302.out 2
            have hfz28_3 := qad BK302.out 3
            have hfz28_4 := qad BK302.out 4
            have hfz28_5 := qad BK302.out 5
            have p307 : 0 ≤ (x7_3 : Int) := of_decide_eq_true (by assumption)
            have q307 : x7_3 < (l0_3.length : Int) := of_decide_eq_true (by assumption)
            obtain ⟨ad307,A307_0,c307_0,e307,hx307_0,hl307_0,hi307_0⟩ := at_L4 HR0_3.out x7_3 p307 q307
            cases e307
            replace hx307_0 := (HB.out.cell (World.block_lt_of_cell? w _ hx307_0)).trans hx307_0
            have HR307_0 := Aside0.mk hi307_0
            have HC307_0 := Aside0.mk hl307_0
            clear hi307_0 hl307_0
            replace p307 := eq_true p307
            replace q307 := eq_true q307
            go_wp2_with (first|((with_reducible refine qal (f := 60) rfl ?_);refine goesL_ (some 72) rfl rfl Tryz.func60 (by kernel_rfl) rfl #[.slice A307_0 (rd_L4 l0_3 x7_3).length c307_0] rfl (by first|rfl|(simp only [List.map_toArray,List.map_cons,List.map_nil,List.length_drop,List.length_take];rfl)|simp only [List.map_toArray,List.map_cons,List.map_nil]) ?_;(with_reducible refine (keelsonlaw22_light.calls k3 _ _ (rd_L4 l0_3 x7_3) true _ (by first|exact hG|exact GL.below hG (by repeat (first|(with_reducible first|exact HB.out|apply qab|apply qaa|apply qac|refine qaf ?_ GE302.out)|exact HB.out)))  ?side1 ?side2 A26.out).mono ?_);(case side1 => repeat (first|exact (Kd.C_below HR307_0.out HB.out)|(with_reducible refine Kd.C_alloc ?_ _)|(with_reducible refine Kd.C_drewN ?_ _)|(with_reducible refine Kd.C_drew ?_)));(case side2 => exact HC307_0.out);rintro e w' ⟨rfl,⟨nd,rfl⟩⟩;refine ⟨_,rfl,?_⟩))
            go_roundg k3
            case measure => have := HJ3.out;have := HK2.out;have := HK3.out;omega
            case rel => exact ⟨(wrap64 (x7_3 + 1)),(by first|rfl|(simp;done)|(simp [*];done)|(simp [qam];done)),H',⟨by have := HJ3.out;have := HK2.out;have := HK3.out;omega⟩,⟨by (with_reducible repeat (first|refine qah ?_ _|refine qai ?_|refine qag ?_ _));exact BK302.out⟩,⟨by repeat (first|(with_reducible first|exact HB.out|apply qab|apply qaa|apply qac|refine qaf ?_ GE302.out)|exact HB.out)⟩⟩
           ·replace c27 := Bool.eq_false_iff.mpr c27
            subst c27
            have H1 : (some false) = some r := by rw [if_neg (show ¬ (false = true) by decide)] at H;exact H
            clear H
            have H := H1
            clear H1
            obtain rfl := Option.some.inj H
            have hcz29_0 : wr.cell? ⟨gb302,0,none⟩ = some (.string a0_0) := (qae BK302.out 0).trans rfl
            have hcz29_1 : wr.cell? ⟨gb302,1,none⟩ = some (.string a0_1) := (qae BK302.out 1).trans rfl
            have hcz29_2 : wr.cell? ⟨gb302,2,none⟩ = some (.slice A0_2 l0_2.length c0_2) := (qae BK302.out 2).trans rfl
            have hcz29_3 : wr.cell? ⟨gb302,3,none⟩ = some (.slice A0_3 l0_3.length c0_3) := (qae BK302.out 3).trans rfl
            have hcz29_4 : wr.cell? ⟨gb302,4,none⟩ = some (.slice A0_4 l0_4.length c0_4) := (qae BK302.out 4).trans rfl
            have hcz29_5 : wr.cell? ⟨gb302,5,none⟩ = some (.slice A0_5 l0_5.length c0_5) := (qae BK302.out 5).trans rfl
            have hfz29_0 := qad BK302.out 0
            have hfz29_1 := qad BK302.out 1
            have hfz29_2 := qad BK302.out 2
            have hfz29_3 := qad BK302.out 3
            have hfz29_4 := qad BK302.out 4
            have hfz29_5 := qad BK302.out 5
            have p307 : 0 ≤ (x7_3 : Int) := of_decide_eq_true (by assumption)
            have q307 : x7_3 < (l0_3.length : Int) := of_decide_eq_true (by assumption)
            obtain ⟨ad307,A307_0,c307_0,e307,hx307_0,hl307_0,hi307_0⟩ := at_L4 HR0_3.out x7_3 p307 q307
            cases e307
            replace hx307_0 := (HB.out.cell (World.block_lt_of_cell? w _ hx307_0)).trans hx307_0
            have HR307_0 := Aside0.mk hi307_0
            have HC307_0 := Aside0.mk hl307_0
            clear hi307_0 hl307_0
            replace p307 := eq_true p307
            replace q307 := eq_true q307
            go_wp2_with (first|((with_reducible refine qal (f := 60) rfl ?_);refine goesL_ (some 72) rfl rfl Tryz.func60 (by kernel_rfl) rfl #[.slice A307_0 (rd_L4 l0_3 x7_3).length c307_0] rfl (by first|rfl|(simp only [List.map_toArray,List.map_cons,List.map_nil,List.length_drop,List.length_take];rfl)|simp only [List.map_toArray,List.map_cons,List.map_nil]) ?_;(with_reducible refine (keelsonlaw22_light.calls k3 _ _ (rd_L4 l0_3 x7_3) false _ (by first|exact hG|exact GL.below hG (by repeat (first|(with_reducible first|exact HB.out|apply qab|apply qaa|apply qac|refine qaf ?_ GE302.out)|exact HB.out)))  ?side1 ?side2 A26.out).mono ?_);(case side1 => repeat (first|exact (Kd.C_below HR307_0.out HB.out)|(with_reducible refine Kd.C_alloc ?_ _)|(with_reducible refine Kd.C_drewN ?_ _)|(with_reducible refine Kd.C_drew ?_)));(case side2 => exact HC307_0.out);rintro e w' ⟨rfl,⟨nd,rfl⟩⟩;refine ⟨_,rfl,?_⟩))
            go_ret
            exact ⟨by first|rfl|(simp [qaj,qak]<;>rfl)|(simp [*,qaj,qak]<;>rfl),by repeat (first|(with_reducible first|exact HB.out|apply qab|apply qaa|apply qac|refine qaf ?_ GE302.out)|exact HB.out)⟩
          ·rw [if_neg c25] at H
           exact absurd H (by simp)
         ·rw [if_neg c24] at H
          have c24b0 : decide (x7_3 < (l0_3.length : Int)) = false := decide_eq_false c24
          clear c24
          obtain rfl := Option.some.inj H
          have hcz30_0 : wr.cell? ⟨gb302,0,none⟩ = some (.string a0_0) := (qae BK302.out 0).trans rfl
          have hcz30_1 : wr.cell? ⟨gb302,1,none⟩ = some (.string a0_1) := (qae BK302.out 1).trans rfl
          have hcz30_2 : wr.cell? ⟨gb302,2,none⟩ = some (.slice A0_2 l0_2.length c0_2) := (qae BK302.out 2).trans rfl
          have hcz30_3 : wr.cell? ⟨gb302,3,none⟩ = some (.slice A0_3 l0_3.length c0_3) := (qae BK302.out 3).trans rfl
          have hcz30_4 : wr.cell? ⟨gb302,4,none⟩ = some (.slice A0_4 l0_4.length c0_4) := (qae BK302.out 4).trans rfl
          have hcz30_5 : wr.cell? ⟨gb302,5,none⟩ = some (.slice A0_5 l0_5.length c0_5) := (qae BK302.out 5).trans rfl
          have hfz30_0 := qad BK302.out 0
          have hfz30_1 := qad BK302.out 1
          have hfz30_2 := qad BK302.out 2
          have hfz30_3 := qad BK302.out 3
          have hfz30_4 := qad BK302.out 4
          have hfz30_5 := qad BK302.out 5
          go_wp2
          go_ret
          exact ⟨by first|rfl|(simp [qaj,qak]<;>rfl)|(simp [*,qaj,qak]<;>rfl),by repeat (first|(with_reducible first|exact HB.out|apply qab|apply qaa|apply qac|refine qaf ?_ GE302.out)|exact HB.out)⟩
end Go.Proofs.YtiidmjmkgjfaeaaGreatDoor.PA
