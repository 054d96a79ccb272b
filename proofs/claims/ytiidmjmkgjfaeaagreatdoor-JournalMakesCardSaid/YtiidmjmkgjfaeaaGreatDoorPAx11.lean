
import Derived.RangeFuncRecord
import Derived.Test.YtiidmjmkgjfaeaaGreatDoorPAx0
import Derived.Test.YtiidmjmkgjfaeaaGreatDoorPAx9
import Derived.Test.YtiidmjmkgjfaeaaGreatDoorPAx10
namespace Go.Proofs.YtiidmjmkgjfaeaaGreatDoor.PA
open Go.RowKit Go.Proofs.YtiidmjmkgjfaeaaGreatDoorW.PrintWords Go.Proofs.YtiidmjmkgjfaeaaGreatDoorW.PrintLast Go.Proofs.YtiidmjmkgjfaeaaGreatDoorW.PrintMore
attribute [local go_sem] max2_int min2_int max_two min_two max_three min_three max_four min_four
set_option maxHeartbeats 8000000
set_option maxRecDepth 100000
set_option linter.unusedVariables false
set_option linter.unusedSimpArgs false
mutual
def keelsonlaw22_small.j0 : Nat → List (S37) → List (S39) → Bool → Option (Bool)
 | 0,_,_,_ => none
 | k + 1,x0,x1,x16 => if x16 = true then (some false) else (keelsonlaw22_small.l0 k x0 x1 0)
def keelsonlaw22_small.l0 : Nat → List (S37) → List (S39) → Int → Option (Bool)
 | 0,_,_,_ => none
 | k + 1,x0,x1,x5 => if x5 < (x0.length : Int) then (if 0 ≤ x5 then ((keelsonlaw22_fine.f k ((rd_T37 x0 x5).f0) ((rd_T37 x0 x5).f1) ((rd_T37 x0 x5).f2) ((rd_T37 x0 x5).f3) ((rd_T37 x0 x5).f4) ((rd_T37 x0 x5).f5)).bind fun t310 => (if t310 = true then (keelsonlaw22_small.l0 k x0 x1 (wrap64 (x5 + 1))) else (some false))) else (none)) else (keelsonlaw22_small.l1 k x1 0)
def keelsonlaw22_small.l1 : Nat → List (S39) → Int → Option (Bool)
 | 0,_,_ => none
 | k + 1,x1,x7 => if x7 < (x1.length : Int) then (if 0 ≤ x7 then ((keelsonlaw22_fine.f k ((rd_T39 x1 x7).f0.f0) ((rd_T39 x1 x7).f0.f1) ((rd_T39 x1 x7).f0.f2) ((rd_T39 x1 x7).f0.f3) ((rd_T39 x1 x7).f0.f4) ((rd_T39 x1 x7).f0.f5)).bind fun t312 => (if t312 = true then (keelsonlaw22_small.l1 k x1 (wrap64 (x7 + 1))) else (some false))) else (none)) else (some true)
end
def keelsonlaw22_small.f (k : Nat) (l0 : List (S37)) (l1 : List (S39)) : Option (Bool) := if (l0.length : Int) > 20 then (keelsonlaw22_small.j0 k l0 l1 true) else (keelsonlaw22_small.j0 k l0 l1 (decide ((l1.length : Int) > 20)))
theorem keelsonlaw22_small.mono_l : ∀ k,(∀ y0 y1 y2,LeO (keelsonlaw22_small.j0 k y0 y1 y2) (keelsonlaw22_small.j0 (k + 1) y0 y1 y2)) ∧ (∀ y0 y1 y2,LeO (keelsonlaw22_small.l0 k y0 y1 y2) (keelsonlaw22_small.l0 (k + 1) y0 y1 y2)) ∧ (∀ y0 y1,LeO (keelsonlaw22_small.l1 k y0 y1) (keelsonlaw22_small.l1 (k + 1) y0 y1))
 | 0 => ⟨fun _ _ _ r h => by simp [keelsonlaw22_small.j0] at h,fun _ _ _ r h => by simp [keelsonlaw22_small.l0] at h,fun _ _ r h => by simp [keelsonlaw22_small.l1] at h⟩
 | k + 1 => by
  obtain ⟨ih0,ih1,ih2⟩ := keelsonlaw22_small.mono_l k
  refine ⟨?_,?_,?_⟩
  ·intro y0 y1 y2
   unfold keelsonlaw22_small.j0
   repeat' first
   | (with_reducible exact ih0 _ _ _)
   | (with_reducible exact ih1 _ _ _)
   | (with_reducible exact ih2 _ _)
   | (with_reducible exact keelsonlaw22_fine.mono _ _ _ _ _ _ _)
   | (with_reducible exact LeO.refl _)
   | (with_reducible exact LeO.none _)
   | (with_reducible refine LeO.ite ?_ ?_)
   | (with_reducible refine LeO.bind ?_ (fun _ => ?_))
  ·intro y0 y1 y2
   unfold keelsonlaw22_small.l0
   repeat' first
   | (with_reducible exact ih0 _ _ _)
   | (with_reducible exact ih1 _ _ _)
   | (with_reducible exact ih2 _ _)
   | (with_reducible exact keelsonlaw22_fine.mono _ _ _ _ _ _ _)
   | (with_reducible exact LeO.refl _)
   | (with_reducible exact LeO.none _)
   | (with_reducible refine LeO.ite ?_ ?_)
   | (with_reducible refine LeO.bind ?_ (fun _ => ?_))
  ·intro y0 y1
   unfold keelsonlaw22_small.l1
   repeat' first
   | (with_reducible exact ih0 _ _ _)
   | (with_reducible exact ih1 _ _ _)
   | (with_reducible exact ih2 _ _)
   | (with_reducible exact keelsonlaw22_fine.mono _ _ _ _ _ _ _)
   | (with_reducible exact LeO.refl _)
   | (with_reducible exact LeO.none _)
   | (with_reducible refine LeO.ite ?_ ?_)
   | (with_reducible refine LeO.bind ?_ (fun _ => ?_))
theorem keelsonlaw22_small.mono : ∀ a0 a1 k,LeO (keelsonlaw22_small.f k a0 a1) (keelsonlaw22_small.f (k + 1) a0 a1) := by
 intro a0 a1 k
 obtain ⟨ih0,ih1,ih2⟩ := keelsonlaw22_small.mono_l k
 unfold keelsonlaw22_small.f
 repeat' first
   | (with_reducible exact ih0 _ _ _)
   | (with_reducible exact ih1 _ _ _)
   | (with_reducible exact ih2 _ _)
   | (with_reducible exact keelsonlaw22_fine.mono _ _ _ _ _ _ _)
   | (with_reducible exact LeO.refl _)
   | (with_reducible exact LeO.none _)
   | (with_reducible refine LeO.ite ?_ ?_)
   | (with_reducible refine LeO.bind ?_ (fun _ => ?_))
theorem keelsonlaw22_small.calls (k : Nat) (A0 : Option Addr) (c0 : Nat) (l0 : List (S37)) (A1 : Option Addr) (c1 : Nat) (l1 : List (S39)) (r : Bool) (w : World) (hG : GL w) (hr0 : Kd.C k37 w A0 l0.length l0) (hc0 : l0.length ≤ c0) (hr1 : Kd.C k39 w A1 l1.length l1) (hc1 : l1.length ≤ c1) (h : keelsonlaw22_small.f k l0 l1 = some r) :
  Calls Tryz.prog 18 #[.slice A0 l0.length c0,.slice A1 l1.length c1] w fun e w' => e = .returned (.bool r) ∧ Below w.heap.size w w' := by
 have hu37 := Tryz.underlying37
 have HR0 := Aside0.mk hr0
 have HC0 := Aside0.mk hc0
 clear hr0 hc0
 have HR1 := Aside0.mk hr1
 have HC1 := Aside0.mk hc1
 clear hr1 hc1
 have HB := Aside0.mk (Below.refl w.heap.size w)
 have H : (if (l0.length : Int) > 20 then (keelsonlaw22_small.j0 k l0 l1 true) else (keelsonlaw22_small.j0 k l0 l1 (decide ((l1.length : Int) > 20)))) = some r := h
 clear h
 have HC3 := Aside0.mk H
 clear H
 go_enter Tryz.func18,Tryz.ntmps18
 go_upto_region 1 with (fail)
 go_cut [16] (fun v16 wc => ∃ (kq : Nat) (x16_2 : Bool),v16 = .bool x16_2 ∧ Aside0 (keelsonlaw22_small.j0 kq l0 l1 x16_2 = some r) ∧ Aside0 (kq ≤ k) ∧ Aside0 (Below w.heap.size w wc))
 case first =>
  have H := HC3.out
  clear HC3
  by_cases c4 : (l0.length : Int) > 20
  ·rw [if_pos c4] at H
   have c4b0 : decide (20 < (l0.length : Int)) = true := decide_eq_true c4
   have c4b1 : decide (20 < l0.length) = true := decide_eq_true (by omega)
   clear c4
   (first|rw [c4b0]|(simp only [i64_w,i32_w];rw [c4b0]) | skip)
   have H' := Aside0.mk H
   clear H
   go_wp2
   go_meet
   case rel => exact ⟨_,(true),(by first|rfl|(simp;done)|(simp [*];done)|(simp [qam];done)),H',⟨by first|omega|exact Nat.le_refl _⟩,⟨by repeat (with_reducible first|exact HB.out|apply qab|apply qaa|apply qac)⟩⟩
  ·rw [if_neg c4] at H
   have c4b0 : decide (20 < (l0.length : Int)) = false := decide_eq_false c4
   have c4b1 : decide (20 < l0.length) = false := decide_eq_false (by omega)
   clear c4
   (first|rw [c4b0]|(simp only [i64_w,i32_w];rw [c4b0]) | skip)
   have H' := Aside0.mk H
   clear H
   go_wp2
   go_meet
   case rel => exact ⟨_,(decide ((l1.length : Int) > 20)),(by first|rfl|(simp;done)|(simp [*];done)|(simp [qam];done)),H',⟨by first|omega|exact Nat.le_refl _⟩,⟨by repeat (with_reducible first|exact HB.out|apply qab|apply qaa|apply qac)⟩⟩
 case rest =>
  clear HC3
  try clear c1
  try clear p2
  try clear c4
  try clear c4b0
  try clear c4b1
  obtain ⟨kq,x16_2,rfl,HA,HJ2,HB⟩ := hcut
  cases kq with
  | zero => exact absurd HA.out (by simp [keelsonlaw22_small.j0])
  | succ kj2 =>
   have H := HA.out
   clear HA
   simp only [keelsonlaw22_small.j0] at H
   by_cases c5 : x16_2 = true
   ·subst c5
    have H1 : (some false) = some r := by rw [if_pos rfl] at H;exact H
    clear H
    have H := H1
    clear H1
    obtain rfl := Option.some.inj H
    go_wp2
    go_ret
    exact ⟨by first|rfl|(simp [qaj,qak]<;>rfl)|(simp [*,qaj,qak]<;>rfl),by repeat (with_reducible first|exact HB.out|apply qab|apply qaa|apply qac)⟩
   ·replace c5 := Bool.eq_false_iff.mpr c5
    subst c5
    have H1 : (keelsonlaw22_small.l0 kj2 l0 l1 0) = some r := by rw [if_neg (show ¬ (false = true) by decide)] at H;exact H
    clear H
    have H := H1
    clear H1
    have H' := Aside0.mk H
    clear H
    go_wp2
    go_loopg [5] kj2 (fun kq v5 w' => ∃ (x5_2 : Int),v5 = .int .i64 x5_2 ∧ Aside0 (keelsonlaw22_small.l0 kq l0 l1 x5_2 = some r) ∧ Aside0 (kq ≤ kj2) ∧ Aside0 (Below w.heap.size w w'))
    case atStart => exact ⟨(0),(by first|rfl|(simp;done)|(simp [*];done)|(simp [qam];done)),H',⟨Nat.le_refl _⟩,⟨by repeat (with_reducible first|exact HB.out|apply qab|apply qaa|apply qac)⟩⟩
    case round =>
     clear H'
     try clear c1
     try clear p2
     try clear c4
     try clear c4b0
     try clear c4b1
     try clear c5
     try clear p2
     obtain ⟨x5_2,rfl,HA,HK2,HB⟩ := hrel
     cases gk with
     | zero => exact absurd HA.out (by simp [keelsonlaw22_small.l0])
     | succ k2 =>
      have H := HA.out
      clear HA
      simp only [keelsonlaw22_small.l0] at H
      by_cases c6 : x5_2 < (l0.length : Int)
      ·rw [if_pos c6] at H
       have c6b0 : decide (x5_2 < (l0.length : Int)) = true := decide_eq_true c6
       clear c6
       by_cases c7 : 0 ≤ x5_2
       ·rw [if_pos c7] at H
        have c7b0 : decide (0 ≤ x5_2) = true := decide_eq_true c7
        clear c7
        replace H := Option.bind_eq_some_iff.mp H
        obtain ⟨t310,A80,H⟩ := H
        replace H : (if t310 = true then (keelsonlaw22_small.l0 k2 l0 l1 (wrap64 (x5_2 + 1))) else (some false)) = some r := H
        have A8 := Aside0.mk A80
        clear A80
        by_cases c9 : t310 = true
        ·subst c9
         have H1 : (keelsonlaw22_small.l0 k2 l0 l1 (wrap64 (x5_2 + 1))) = some r := by rw [if_pos rfl] at H;exact H
         clear H
         have H := H1
         clear H1
         have H' := Aside0.mk H
         clear H
         have p309 : 0 ≤ (x5_2 : Int) := of_decide_eq_true (by assumption)
         have q309 : x5_2 < (l0.length : Int) := of_decide_eq_true (by assumption)
         obtain ⟨ad309,A309_2,c309_2,A309_3,c309_3,A309_4,c309_4,A309_5,c309_5,e309,hx309_0,hx309_1,hx309_2,hx309_3,hx309_4,hx309_5,hl309_2,hi309_2,hl309_3,hi309_3,hl309_4,hi309_4,hl309_5,hi309_5⟩ := at_T37 HR0.out x5_2 p309 q309
         cases e309
         replace hx309_0 := (HB.out.cell (World.block_lt_of_cell? w _ hx309_0)).trans hx309_0
         replace hx309_1 := (HB.out.cell (World.block_lt_of_cell? w _ hx309_1)).trans hx309_1
         replace hx309_2 := (HB.out.cell (World.block_lt_of_cell? w _ hx309_2)).trans hx309_2
         replace hx309_3 := (HB.out.cell (World.block_lt_of_cell? w _ hx309_3)).trans hx309_3
         replace hx309_4 := (HB.out.cell (World.block_lt_of_cell? w _ hx309_4)).trans hx309_4
         replace hx309_5 := (HB.out.cell (World.block_lt_of_cell? w _ hx309_5)).trans hx309_5
         have HR309_2 := Aside0.mk hi309_2
         have HC309_2 := Aside0.mk hl309_2
         clear hi309_2 hl309_2
         have HR309_3 := Aside0.mk hi309_3
         have HC309_3 := Aside0.mk hl309_3
         clear hi309_3 hl309_3
         have HR309_4 := Aside0.mk hi309_4
         have HC309_4 := Aside0.mk hl309_4
         clear hi309_4 hl309_4
         have HR309_5 := Aside0.mk hi309_5
         have HC309_5 := Aside0.mk hl309_5
         clear hi309_5 hl309_5
         replace p309 := eq_true p309
         replace q309 := eq_true q309
         go_wp2_with (first|((with_reducible refine qal (f := 35) rfl ?_);refine goesL_ (some 27) rfl rfl Tryz.func35 (by kernel_rfl) rfl #[.agg #[.string ((rd_T37 l0 x5_2).f0),.string ((rd_T37 l0 x5_2).f1),.slice A309_2 ((rd_T37 l0 x5_2).f2).length c309_2,.slice A309_3 ((rd_T37 l0 x5_2).f3).length c309_3,.slice A309_4 ((rd_T37 l0 x5_2).f4).length c309_4,.slice A309_5 ((rd_T37 l0 x5_2).f5).length c309_5]] rfl (by first|rfl|(simp only [List.map_toArray,List.map_cons,List.map_nil,List.length_drop,List.length_take];rfl)|simp only [List.map_toArray,List.map_cons,List.map_nil]) ?_;(with_reducible refine (keelsonlaw22_fine.calls k2 ((rd_T37 l0 x5_2).f0) ((rd_T37 l0 x5_2).f1) _ _ ((rd_T37 l0 x5_2).f2) _ _ ((rd_T37 l0 x5_2).f3) _ _ ((rd_T37 l0 x5_2).f4) _ _ ((rd_T37 l0 x5_2).f5) true _ (by first|exact hG|exact GL.below hG (by repeat (with_reducible first|exact HB.out|apply qab|apply qaa|apply qac)))  ?side1 ?side2 ?side3 ?side4 ?side5 ?side6 ?side7 ?side8 A8.out).mono ?_);(case side1 => repeat (first|exact (Kd.C_below HR309_2.out HB.out)|(with_reducible refine Kd.C_alloc ?_ _)|(with_reducible refine Kd.C_drewN ?_ _)|(with_reducible refine Kd.C_drew ?_)));(case side2 => exact HC309_2.out);(case side3 => repeat (first|exact (Kd.C_below HR309_3.out HB.out)|(with_reducible refine Kd.C_alloc ?_ _)|(with_reducible refine Kd.C_drewN ?_ _)|(with_reducible refine Kd.C_drew ?_)));(case side4 => exact HC309_3.out);(case side5 => repeat (first|exact (Kd.C_below HR309_4.out HB.out)|(with_reducible refine Kd.C_alloc ?_ _)|(with_reducible refine Kd.C_drewN ?_ _)|(with_reducible refine Kd.C_drew ?_)));(case side6 => exact HC309_4.out);(case side7 => repeat (first|exact (Kd.C_below HR309_5.out HB.out)|(with_reducible refine Kd.C_alloc ?_ _)|(with_reducible refine Kd.C_drewN ?_ _)|(with_reducible refine Kd.C_drew ?_)));(case side8 => exact HC309_5.out);rintro e w10 ⟨rfl,hb⟩;refine ⟨_,rfl,?_⟩;have n0_ := Aside0.mk (qan (by repeat (with_reducible first|exact HB.out|apply qab|apply qaa|apply qac)) hb);clear HB;have HB := n0_;clear n0_;(try clear hb);(try clear hb2);(try clear hk);(try clear hi)))
         go_roundg k2
         case measure => have := HJ2.out;have := HK2.out;omega
         case rel => exact ⟨(wrap64 (x5_2 + 1)),(by first|rfl|(simp;done)|(simp [*];done)|(simp [qam];done)),H',⟨by have := HJ2.out;have := HK2.out;omega⟩,⟨by repeat (with_reducible first|exact HB.out|apply qab|apply qaa|apply qac)⟩⟩
        ·replace c9 := Bool.eq_false_iff.mpr c9
         subst c9
         have H1 : (some false) = some r := by rw [if_neg (show ¬ (false = true) by decide)] at H;exact H
         clear H
         have H := H1
         clear H1
         obtain rfl := Option.some.inj H
         have p309 : 0 ≤ (x5_2 : Int) := of_decide_eq_true (by assumption)
         have q309 : x5_2 < (l0.length : Int) := of_decide_eq_true (by assumption)
         obtain ⟨ad309,A309_2,c309_2,A309_3,c309_3,A309_4,c309_4,A309_5,c309_5,e309,hx309_0,hx309_1,hx309_2,hx309_3,hx309_4,hx309_5,hl309_2,hi309_2,hl309_3,hi309_3,hl309_4,hi309_4,hl309_5,hi309_5⟩ := at_T37 HR0.out x5_2 p309 q309
         cases e309
         replace hx309_0 := (HB.out.cell (World.block_lt_of_cell? w _ hx309_0)).trans hx309_0
         replace hx309_1 := (HB.out.cell (World.block_lt_of_cell? w _ hx309_1)).trans hx309_1
         replace hx309_2 := (HB.out.cell (World.block_lt_of_cell? w _ hx309_2)).trans hx309_2
         replace hx309_3 := (HB.out.cell (World.block_lt_of_cell? w _ hx309_3)).trans hx309_3
         replace hx309_4 := (HB.out.cell (World.block_lt_of_cell? w _ hx309_4)).trans hx309_4
         replace hx309_5 := (HB.out.cell (World.block_lt_of_cell? w _ hx309_5)).trans hx309_5
         have HR309_2 := Aside0.mk hi309_2
         have HC309_2 := Aside0.mk hl309_2
         clear hi309_2 hl309_2
         have HR309_3 := Aside0.mk hi309_3
         have HC309_3 := Aside0.mk hl309_3
         clear hi309_3 hl309_3
         have HR309_4 := Aside0.mk hi309_4
         have HC309_4 := Aside0.mk hl309_4
         clear hi309_4 hl309_4
         have HR309_5 := Aside0.mk hi309_5
         have HC309_5 := Aside0.mk hl309_5
         clear hi309_5 hl309_5
         replace p309 := eq_true p309
         replace q309 := eq_true q309
         go_wp2_with (first|((with_reducible refine qal (f := 35) rfl ?_);refine goesL_ (some 27) rfl rfl Tryz.func35 (by kernel_rfl) rfl #[.agg #[.string ((rd_T37 l0 x5_2).f0),.string ((rd_T37 l0 x5_2).f1),.slice A309_2 ((rd_T37 l0 x5_2).f2).length c309_2,.slice A309_3 ((rd_T37 l0 x5_2).f3).length c309_3,.slice A309_4 ((rd_T37 l0 x5_2).f4).length c309_4,.slice A309_5 ((rd_T37 l0 x5_2).f5).length c309_5]] rfl (by first|rfl|(simp only [List.map_toArray,List.map_cons,List.map_nil,List.length_drop,List.length_take];rfl)|simp only [List.map_toArray,List.map_cons,List.map_nil]) ?_;(with_reducible refine (keelsonlaw22_fine.calls k2 ((rd_T37 l0 x5_2).f0) ((rd_T37 l0 x5_2).f1) _ _ ((rd_T37 l0 x5_2).f2) _ _ ((rd_T37 l0 x5_2).f3) _ _ ((rd_T37 l0 x5_2).f4) _ _ ((rd_T37 l0 x5_2).f5) false _ (by first|exact hG|exact GL.below hG (by repeat (with_reducible first|exact HB.out|apply qab|apply qaa|apply qac)))  ?side1 ?side2 ?side3 ?side4 ?side5 ?side6 ?side7 ?side8 A8.out).mono ?_);(case side1 => repeat (first|exact (Kd.C_below HR309_2.out HB.out)|(with_reducible refine Kd.C_alloc ?_ _)|(with_reducible refine Kd.C_drewN ?_ _)|(with_reducible refine Kd.C_drew ?_)));(case side2 => exact HC309_2.out);(case side3 => repeat (first|exact (Kd.C_below HR309_3.out HB.out)|(with_reducible refine Kd.C_alloc ?_ _)|(with_reducible refine Kd.C_drewN ?_ _)|(with_reducible refine Kd.C_drew ?_)));(case side4 => exact HC309_3.out);(case side5 => repeat (first|exact (Kd.C_below HR309_4.out HB.out)|(with_reducible refine Kd.C_alloc ?_ _)|(with_reducible refine Kd.C_drewN ?_ _)|(with_reducible refine Kd.C_drew ?_)));(case side6 => exact HC309_4.out);(case side7 => repeat (first|exact (Kd.C_below HR309_5.out HB.out)|(with_reducible refine Kd.C_alloc ?_ _)|(with_reducible refine Kd.C_drewN ?_ _)|(with_reducible refine Kd.C_drew ?_)));(case side8 => exact HC309_5.out);rintro e w11 ⟨rfl,hb⟩;refine ⟨_,rfl,?_⟩;have n0_ := Aside0.mk (qan (by repeat (with_reducible first|exact HB.out|apply qab|apply qaa|apply qac)) hb);clear HB;have HB := n0_;clear n0_;(try clear hb);(try clear hb2);(try clear hk);(try clear hi)))
         go_ret
         exact ⟨by first|rfl|(simp [qaj,qak]<;>rfl)|(simp [*,qaj,qak]<;>rfl),by repeat (with_reducible first|exact HB.out|apply qab|apply qaa|apply qac)⟩
       ·rw [if_neg c7] at H
        exact absurd H (by simp)
      ·rw [if_neg c6] at H
       have c6b0 : decide (x5_2 < (l0.length : Int)) = false := decide_eq_false c6
       clear c6
       have H' := Aside0.mk H
       clear H
       go_wp2
       go_loopg [7] k2 (fun kq v7 w' => ∃ (x7_3 : Int),v7 = .int .i64 x7_3 ∧ Aside0 (keelsonlaw22_small.l1 kq l1 x7_3 = some r) ∧ Aside0 (kq ≤ k2) ∧ Aside0 (Below w.heap.size w w'))
       case atStart => exact ⟨(0),(by first|rfl|(simp;done)|(simp [*];done)|(simp [qam];done)),H',⟨Nat.le_refl _⟩,⟨by repeat (with_reducible first|exact HB.out|apply qab|apply qaa|apply qac)⟩⟩
       case round =>
        clear H'
        try clear c1
        try clear p2
        try clear c3
        try clear p3
        try clear q3
        try clear hx3
        try clear c4
        try clear c4b0
        try clear c4b1
        try clear c5
        try clear c6
        try clear c6b0
        try clear p6
        try clear c7
        try clear c7b0
        try clear c9
        try clear hx309_0
        try clear hx309_1
        try clear hx309_2
        try clear hx309_3
        try clear hx309_4
        try clear hx309_5
        try clear p2
        try clear p309
        try clear q309
        obtain ⟨x7_3,rfl,HA,HK3,HB⟩ := hrel
        cases gk with
        | zero => exact absurd HA.out (by simp [keelsonlaw22_small.l1])
        | succ k3 =>
         have H := HA.out
         clear HA
         simp only [keelsonlaw22_small.l1] at H
         by_cases c12 : x7_3 < (l1.length : Int)
         ·rw [if_pos c12] at H
          have c12b0 : decide (x7_3 < (l1.length : Int)) = true := decide_eq_true c12
          clear c12
          by_cases c13 : 0 ≤ x7_3
          ·rw [if_pos c13] at H
           have c13b0 : decide (0 ≤ x7_3) = true := decide_eq_true c13
           clear c13
           replace H := Option.bind_eq_some_iff.mp H
           obtain ⟨t312,A140,H⟩ := H
           replace H : (if t312 = true then (keelsonlaw22_small.l1 k3 l1 (wrap64 (x7_3 + 1))) else (some false)) = some r := H
           have A14 := Aside0.mk A140
           clear A140
           by_cases c15 : t312 = true
           ·subst c15
            have H1 : (keelsonlaw22_small.l1 k3 l1 (wrap64 (x7_3 + 1))) = some r := by rw [if_pos rfl] at H;exact H
            clear H
            have H := H1
            clear H1
            have H' := Aside0.mk H
            clear H
            have p311 : 0 ≤ (x7_3 : Int) := of_decide_eq_true (by assumption)
            have q311 : x7_3 < (l1.length : Int) := of_decide_eq_true (by assumption)
            obtain ⟨ad311,A311_2,c311_2,A311_3,c311_3,A311_4,c311_4,A311_5,c311_5,e311,hx311_0,hx311_1,hx311_2,hx311_3,hx311_4,hx311_5,hx311_6,hx311_7,hl311_2,hi311_2,hl311_3,hi311_3,hl311_4,hi311_4,hl311_5,hi311_5⟩ := at_T39 HR1.out x7_3 p311 q311
            cases e311
            replace hx311_0 := (HB.out.cell (World.block_lt_of_cell? w _ hx311_0)).trans hx311_0
            replace hx311_1 := (HB.out.cell (World.block_lt_of_cell? w _ hx311_1)).trans hx311_1
            replace hx311_2 := (HB.out.cell (World.block_lt_of_cell? w _ hx311_2)).trans hx311_2
            replace hx311_3 := (HB.out.cell (World.block_lt_of_cell? w _ hx311_3)).trans hx311_3
            replace hx311_4 := (HB.out.cell (World.block_lt_of_cell? w _ hx311_4)).trans hx311_4
            replace hx311_5 := (HB.out.cell (World.block_lt_of_cell? w _ hx311_5)).trans hx311_5
            replace hx311_6 := (HB.out.cell (World.block_lt_of_cell? w _ hx311_6)).trans hx311_6
            replace hx311_7 := (HB.out.cell (World.block_lt_of_cell? w _ hx311_7)).trans hx311_7
            have HR311_2 := Aside0.mk hi311_2
            have HC311_2 := Aside0.mk hl311_2
            clear hi311_2 hl311_2
            have HR311_3 := Aside0.mk hi311_3
            have HC311_3 := Aside0.mk hl311_3
            clear hi311_3 hl311_3
            have HR311_4 := Aside0.mk hi311_4
            have HC311_4 := Aside0.mk hl311_4
            clear hi311_4 hl311_4
            have HR311_5 := Aside0.mk hi311_5
            have HC311_5 := Aside0.mk hl311_5
            clear hi311_5 hl311_5
            replace p311 := eq_true p311
            replace q311 := eq_true q311
            go_wp2_with (first|((with_reducible refine qal (f := 35) rfl ?_);refine goesL_ (some 41) rfl rfl Tryz.func35 (by kernel_rfl) rfl #[.agg #[.string ((rd_T39 l1 x7_3).f0.f0),.string ((rd_T39 l1 x7_3).f0.f1),.slice A311_2 ((rd_T39 l1 x7_3).f0.f2).length c311_2,.slice A311_3 ((rd_T39 l1 x7_3).f0.f3).length c311_3,.slice A311_4 ((rd_T39 l1 x7_3).f0.f4).length c311_4,.slice A311_5 ((rd_T39 l1 x7_3).f0.f5).length c311_5]] rfl (by first|rfl|(simp only [List.map_toArray,List.map_cons,List.map_nil,List.length_drop,List.length_take];rfl)|simp only [List.map_toArray,List.map_cons,List.map_nil]) ?_;(with_reducible refine (keelsonlaw22_fine.calls k3 ((rd_T39 l1 x7_3).f0.f0) ((rd_T39 l1 x7_3).f0.f1) _ _ ((rd_T39 l1 x7_3).f0.f2) _ _ ((rd_T39 l1 x7_3).f0.f3) _ _ ((rd_T39 l1 x7_3).f0.f4) _ _ ((rd_T39 l1 x7_3).f0.f5) true _ (by first|exact hG|exact GL.below hG (by repeat (with_reducible first|exact HB.out|apply qab|apply qaa|apply qac)))  ?side1 ?side2 ?side3 ?side4 ?side5 ?side6 ?side7 ?side8 A14.out).mono ?_);(case side1 => repeat (first|exact (Kd.C_below HR311_2.out HB.out)|(with_reducible refine Kd.C_alloc ?_ _)|(with_reducible refine Kd.C_drewN ?_ _)|(with_reducible refine Kd.C_drew ?_)));(case side2 => exact HC311_2.out);(case side3 => repeat (first|exact (Kd.C_below HR311_3.out HB.out)|(with_reducible refine Kd.C_alloc ?_ _)|(with_reducible refine Kd.C_drewN ?_ _)|(with_reducible refine Kd.C_drew ?_)));(case side4 => exact HC311_3.out);(case side5 => repeat (first|exact (Kd.C_below HR311_4.out HB.out)|(with_reducible refine Kd.C_alloc ?_ _)|(with_reducible refine Kd.C_drewN ?_ _)|(with_reducible refine Kd.C_drew ?_)));(case side6 => exact HC311_4.out);(case side7 => repeat (first|exact (Kd.C_below HR311_5.out HB.out)|(with_reducible refine Kd.C_alloc ?_ _)|(with_reducible refine Kd.C_drewN ?_ _)|(with_reducible refine Kd.C_drew ?_)));(case side8 => exact HC311_5.out);rintro e w16 ⟨rfl,hb⟩;refine ⟨_,rfl,?_⟩;have n0_ := Aside0.mk (qan (by repeat (with_reducible first|exact HB.out|apply qab|apply qaa|apply qac)) hb);clear HB;have HB := n0_;clear n0_;(try clear hb);(try clear hb2);(try clear hk);(try clear hi)))
            go_roundg k3
            case measure => have := HJ2.out;have := HK2.out;have := HK3.out;omega
            case rel => exact ⟨(wrap64 (x7_3 + 1)),(by first|rfl|(simp;done)|(simp [*];done)|(simp [qam];done)),H',⟨by have := HJ2.out;have := HK2.out;have := HK3.out;omega⟩,⟨by repeat (with_reducible first|exact HB.out|apply qab|apply qaa|apply qac)⟩⟩
           ·replace c15 := Bool.eq_false_iff.mpr c15
            subst c15
            have H1 : (some false) = some r := by rw [if_neg (show ¬ (false = true) by decide)] at H;exact H
            clear H
            have H := H1
            clear H1
            obtain rfl := Option.some.inj H
            have p311 : 0 ≤ (x7_3 : Int) := of_decide_eq_true (by assumption)
            have q311 : x7_3 < (l1.length : Int) := of_decide_eq_true (by assumption)
            obtain ⟨ad311,A311_2,c311_2,A311_3,c311_3,A311_4,c311_4,A311_5,c311_5,e311,hx311_0,hx311_1,hx311_2,hx311_3,hx311_4,hx311_5,hx311_6,hx311_7,hl311_2,hi311_2,hl311_3,hi311_3,hl311_4,hi311_4,hl311_5,hi311_5⟩ := at_T39 HR1.out x7_3 p311 q311
            cases e311
            replace hx311_0 := (HB.out.cell (World.block_lt_of_cell? w _ hx311_0)).trans hx311_0
            replace hx311_1 := (HB.out.cell (World.block_lt_of_cell? w _ hx311_1)).trans hx311_1
            replace hx311_2 := (HB.out.cell (World.block_lt_of_cell? w _ hx311_2)).trans hx311_2
            replace hx311_3 := (HB.out.cell (World.block_lt_of_cell? w _ hx311_3)).trans hx311_3
            replace hx311_4 := (HB.out.cell (World.block_lt_of_cell? w _ hx311_4)).trans hx311_4
            replace hx311_5 := (HB.out.cell (World.block_lt_of_cell? w _ hx311_5)).trans hx311_5
            replace hx311_6 := (HB.out.cell (World.block_lt_of_cell? w _ hx311_6)).trans hx311_6
            replace hx311_7 := (HB.out.cell (World.block_lt_of_cell? w _ hx311_7)).trans hx311_7
            have HR311_2 := Aside0.mk hi311_2
            have HC311_2 := Aside0.mk hl311_2
            clear hi311_2 hl311_2
            have HR311_3 := Aside0.mk hi311_3
            have HC311_3 := Aside0.mk hl311_3
            clear hi311_3 hl311_3
            have HR311_4 := Aside0.mk hi311_4
            have HC311_4 := Aside0.mk hl311_4
            clear hi311_4 hl311_4
            have HR311_5 := Aside0.mk hi311_5
            have HC311_5 := Aside0.mk hl311_5
            clear hi311_5 hl311_5
            replace p311 := eq_true p311
            replace q311 := eq_true q311
            go_wp2_with (first|((with_reducible refine qal (f := 35) rfl ?_);refine goesL_ (some 41) rfl rfl Tryz.func35 (by kernel_rfl) rfl #[.agg #[.string ((rd_T39 l1 x7_3).f0.f0),.string ((rd_T39 l1 x7_3).f0.f1),.slice A311_2 ((rd_T39 l1 x7_3).f0.f2).length c311_2,.slice A311_3 ((rd_T39 l1 x7_3).f0.f3).length c311_3,.slice A311_4 ((rd_T39 l1 x7_3).f0.f4).length c311_4,.slice A311_5 ((rd_T39 l1 x7_3).f0.f5).length c311_5]] rfl (by first|rfl|(simp only [List.map_toArray,List.map_cons,List.map_nil,List.length_drop,List.length_take];rfl)|simp only [List.map_toArray,List.map_cons,List.map_nil]) ?_;(with_reducible refine (keelsonlaw22_fine.calls k3 ((rd_T39 l1 x7_3).f0.f0) ((rd_T39 l1 x7_3).f0.f1) _ _ ((rd_T39 l1 x7_3).f0.f2) _ _ ((rd_T39 l1 x7_3).f0.f3) _ _ ((rd_T39 l1 x7_3).f0.f4) _ _ ((rd_T39 l1 x7_3).f0.f5) false _ (by first|exact hG|exact GL.below hG (by repeat (with_reducible first|exact HB.out|apply qab|apply qaa|apply qac)))  ?side1 ?side2 ?side3 ?side4 ?side5 ?side6 ?side7 ?side8 A14.out).mono ?_);(case side1 => repeat (first|exact (Kd.C_below HR311_2.out HB.out)|(with_reducible refine Kd.C_alloc ?_ _)|(with_reducible refine Kd.C_drewN ?_ _)|(with_reducible refine Kd.C_drew ?_)));(case side2 => exact HC311_2.out);(case side3 => repeat (first|exact (Kd.C_below HR311_3.out HB.out)|(with_reducible refine Kd.C_alloc ?_ _)|(with_reducible refine Kd.C_drewN ?_ _)|(with_reducible refine Kd.C_drew ?_)));(case side4 => exact HC311_3.out);(case side5 => repeat (first|exact (Kd.C_below HR311_4.out HB.out)|(with_reducible refine Kd.C_alloc ?_ _)|(with_reducible refine Kd.C_drewN ?_ _)|(with_reducible refine Kd.C_drew ?_)));(case side6 => exact HC311_4.out);(case side7 => repeat (first|exact (Kd.C_below HR311_5.out HB.out)|(with_reducible refine Kd.C_alloc ?_ _)|(with_reducible refine Kd.C_drewN ?_ _)|(with_reducible refine Kd.C_drew ?_)));(case side8 => exact HC311_5.out);rintro e w17 ⟨rfl,hb⟩;refine ⟨_,rfl,?_⟩;have n0_ := Aside0.mk (qan (by repeat (with_reducible first|exact HB.out|apply qab|apply qaa|apply qac)) hb);clear HB;have HB := n0_;clear n0_;(try clear hb);(try clear hb2);(try clear hk);(try clear hi)))
            go_ret
            exact ⟨by first|rfl|(simp [qaj,qak]<;>rfl)|(simp [*,qaj,qak]<;>rfl),by repeat (with_reducible first|exact HB.out|apply qab|apply qaa|apply qac)⟩
          ·rw [if_neg c13] at H
           exact absurd H (by simp)
         ·rw [if_neg c12] at H
          have c12b0 : decide (x7_3 < (l1.length : Int)) = false := decide_eq_false c12
          clear c12
          obtain rfl := Option.some.inj H
          go_wp2
          go_ret
          exact ⟨by first|rfl|(simp [qaj,qak]<;>rfl)|(simp [*,qaj,qak]<;>rfl),by repeat (with_reducible first|exact HB.out|apply qab|apply qaa|apply qac)⟩
def keelsonlaw22_few.f (k : Nat) (l0 : List (S39)) (l1 : List (S39)) : Option (Bool) := (keelsonlaw22_small.f k ([] : List (S37)) l0).bind fun t313 => ((keelsonlaw22_small.f k ([] : List (S37)) l1).bind fun t314 => (if t313 = true then (some t314) else (some false)))
theorem keelsonlaw22_few.mono : ∀ a0 a1 k,LeO (keelsonlaw22_few.f k a0 a1) (keelsonlaw22_few.f (k + 1) a0 a1) := by
 intro a0 a1 k
 unfold keelsonlaw22_few.f
 repeat' first
   | (with_reducible exact keelsonlaw22_small.mono _ _ _)
   | (with_reducible exact LeO.refl _)
   | (with_reducible exact LeO.none _)
   | (with_reducible refine LeO.ite ?_ ?_)
   | (with_reducible refine LeO.bind ?_ (fun _ => ?_))
theorem keelsonlaw22_few.calls (k : Nat) (A0 : Option Addr) (c0 : Nat) (l0 : List (S39)) (A1 : Option Addr) (c1 : Nat) (l1 : List (S39)) (r : Bool) (w : World) (hG : GL w) (hr0 : Kd.C k39 w A0 l0.length l0) (hc0 : l0.length ≤ c0) (hr1 : Kd.C k39 w A1 l1.length l1) (hc1 : l1.length ≤ c1) (h : keelsonlaw22_few.f k l0 l1 = some r) :
  Calls Tryz.prog 7 #[.slice A0 l0.length c0,.slice A1 l1.length c1] w fun e w' => e = .returned (.bool r) ∧ Below w.heap.size w w' := by
 have HR0 := Aside0.mk hr0
 have HC0 := Aside0.mk hc0
 clear hr0 hc0
 have HR1 := Aside0.mk hr1
 have HC1 := Aside0.mk hc1
 clear hr1 hc1
 have HB := Aside0.mk (Below.refl w.heap.size w)
 have H : ((keelsonlaw22_small.f k ([] : List (S37)) l0).bind fun t313 => ((keelsonlaw22_small.f k ([] : List (S37)) l1).bind fun t314 => (if t313 = true then (some t314) else (some false)))) = some r := h
 clear h
 replace H := Option.bind_eq_some_iff.mp H
 obtain ⟨t313,A30,H⟩ := H
 replace H : ((keelsonlaw22_small.f k ([] : List (S37)) l1).bind fun t314 => (if t313 = true then (some t314) else (some false))) = some r := H
 have A3 := Aside0.mk A30
 clear A30
 replace H := Option.bind_eq_some_iff.mp H
 obtain ⟨t314,A40,H⟩ := H
 replace H : (if t313 = true then (some t314) else (some false)) = some r := H
 have A4 := Aside0.mk A40
 clear A40
 by_cases c5 : t313 = true
 ·subst c5
  have H1 : (some t314) = some r := by rw [if_pos rfl] at H;exact H
  clear H
  have H := H1
  clear H1
  obtain rfl := Option.some.inj H
  go_enter Tryz.func7,Tryz.ntmps7
  go_wp2_with (first|((with_reducible refine qal (f := 18) rfl ?_);refine goesL_ (some 8) rfl rfl Tryz.func18 (by kernel_rfl) rfl #[.slice none 0 0,.slice A0 l0.length c0] rfl (by first|rfl|(simp only [List.map_toArray,List.map_cons,List.map_nil,List.length_drop,List.length_take];rfl)|simp only [List.map_toArray,List.map_cons,List.map_nil]) ?_;(refine (keelsonlaw22_small.calls k _ _ ([] : List (S37)) _ _ l0 true _ (by first|exact hG|exact GL.below hG (by repeat (with_reducible first|exact HB.out|apply qab|apply qaa|apply qac)))  ?side1 ?side2 ?side3 ?side4 A3.out).mono ?_);(case side1 => exact Kd.C_nil _ _);(case side2 => exact Nat.le_refl _);(case side3 => repeat (first|exact HR0.out|(with_reducible refine Kd.C_alloc ?_ _)|(with_reducible refine Kd.C_drewN ?_ _)|(with_reducible refine Kd.C_drew ?_)));(case side4 => exact HC0.out);rintro e w6 ⟨rfl,hb⟩;refine ⟨_,rfl,?_⟩;have n0_ := Aside0.mk (qan (by repeat (with_reducible first|exact HB.out|apply qab|apply qaa|apply qac)) hb);clear HB;have HB := n0_;clear n0_;(try clear hb);(try clear hb2);(try clear hk);(try clear hi))|((with_reducible refine qal (f := 18) rfl ?_);refine goesL_ (some 10) rfl rfl Tryz.func18 (by kernel_rfl) rfl #[.slice none 0 0,.slice A1 l1.length c1] rfl (by first|rfl|(simp only [List.map_toArray,List.map_cons,List.map_nil,List.length_drop,List.length_take];rfl)|simp only [List.map_toArray,List.map_cons,List.map_nil]) ?_;(refine (keelsonlaw22_small.calls k _ _ ([] : List (S37)) _ _ l1 t314 _ (by first|exact hG|exact GL.below hG (by repeat (with_reducible first|exact HB.out|apply qab|apply qaa|apply qac)))  ?side1 ?side2 ?side3 ?side4 A4.out).mono ?_);(case side1 => exact Kd.C_nil _ _);(case side2 => exact Nat.le_refl _);(case side3 => repeat (first|exact (Kd.C_below HR1.out HB.out)|(with_reducible refine Kd.C_alloc ?_ _)|(with_reducible refine Kd.C_drewN ?_ _)|(with_reducible refine Kd.C_drew ?_)));(case side4 => exact HC1.out);rintro e w7 ⟨rfl,hb⟩;refine ⟨_,rfl,?_⟩;have n0_ := Aside0.mk (qan (by repeat (with_reducible first|exact HB.out|apply qab|apply qaa|apply qac)) hb);clear HB;have HB := n0_;clear n0_;(try clear hb);(try clear hb2);(try clear hk);(try clear hi)))
  go_ret
  exact ⟨by first|rfl|(simp [qaj,qak]<;>rfl)|(simp [*,qaj,qak]<;>rfl),by repeat (with_reducible first|exact HB.out|apply qab|apply qaa|apply qac)⟩
 ·replace c5 := Bool.eq_false_iff.mpr c5
  subst c5
  have H1 : (some false) = some r := by rw [if_neg (show ¬ (false = true) by decide)] at H;exact H
  clear H
  have H := H1
  clear H1
  obtain rfl := Option.some.inj H
  go_enter Tryz.func7,Tryz.ntmps7
  go_wp2_with (first|((with_reducible refine qal (f := 18) rfl ?_);refine goesL_ (some 8) rfl rfl Tryz.func18 (by kernel_rfl) rfl #[.slice none 0 0,.slice A0 l0.length c0] rfl (by first|rfl|(simp only [List.map_toArray,List.map_cons,List.map_nil,List.length_drop,List.length_take];rfl)|simp only [List.map_toArray,List.map_cons,List.map_nil]) ?_;(refine (keelsonlaw22_small.calls k _ _ ([] : List (S37)) _ _ l0 false _ (by first|exact hG|exact GL.below hG (by repeat (with_reducible first|exact HB.out|apply qab|apply qaa|apply qac)))  ?side1 ?side2 ?side3 ?side4 A3.out).mono ?_);(case side1 => exact Kd.C_nil _ _);(case side2 => exact Nat.le_refl _);(case side3 => repeat (first|exact HR0.out|(with_reducible refine Kd.C_alloc ?_ _)|(with_reducible refine Kd.C_drewN ?_ _)|(with_reducible refine Kd.C_drew ?_)));(case side4 => exact HC0.out);rintro e w8 ⟨rfl,hb⟩;refine ⟨_,rfl,?_⟩;have n0_ := Aside0.mk (qan (by repeat (with_reducible first|exact HB.out|apply qab|apply qaa|apply qac)) hb);clear HB;have HB := n0_;clear n0_;(try clear hb);(try clear hb2);(try clear hk);(try clear hi))|((with_reducible refine qal (f := 18) rfl ?_);refine goesL_ (some 10) rfl rfl Tryz.func18 (by kernel_rfl) rfl #[.slice none 0 0,.slice A1 l1.length c1] rfl (by first|rfl|(simp only [List.map_toArray,List.map_cons,List.map_nil,List.length_drop,List.length_take];rfl)|simp only [List.map_toArray,List.map_cons,List.map_nil]) ?_;(refine (keelsonlaw22_small.calls k _ _ ([] : List (S37)) _ _ l1 t314 _ (by first|exact hG|exact GL.below hG (by repeat (with_reducible first|exact HB.out|apply qab|apply qaa|apply qac)))  ?side1 ?side2 ?side3 ?side4 A4.out).mono ?_);(case side1 => exact Kd.C_nil _ _);(case side2 => exact Nat.le_refl _);(case side3 => repeat (first|exact (Kd.C_below HR1.out HB.out)|(with_reducible refine Kd.C_alloc ?_ _)|(with_reducible refine Kd.C_drewN ?_ _)|(with_reducible refine Kd.C_drew ?_)));(case side4 => exact HC1.out);rintro e w9 ⟨rfl,hb⟩;refine ⟨_,rfl,?_⟩;have n0_ := Aside0.mk (qan (by repeat (with_reducible first|exact HB.out|apply qab|apply qaa|apply qac)) hb);clear HB;have HB := n0_;clear n0_;(try clear hb);(try clear hb2);(try clear hk);(try clear hi)))
  go_ret
  exact ⟨by first|rfl|(simp [qaj,qak]<;>rfl)|(simp [*,qaj,qak]<;>rfl),by repeat (with_reducible first|exact HB.out|apply qab|apply qaa|apply qac)⟩
end Go.Proofs.YtiidmjmkgjfaeaaGreatDoor.PA
