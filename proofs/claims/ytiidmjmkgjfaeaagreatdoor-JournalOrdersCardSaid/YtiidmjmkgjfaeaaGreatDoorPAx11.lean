
import Derived.RangeFuncRecord
import Derived.Test.YtiidmjmkgjfaeaaGreatDoorPAx0
import Derived.Test.YtiidmjmkgjfaeaaGreatDoorPAx9
import Derived.Test.YtiidmjmkgjfaeaaGreatDoorPAx10
namespace Go.Proofs.YtiidmjmkgjfaeaaGreatDoor.PA
open Go.RowKit Go.Proofs.YtiidmjmkgjfaeaaGreatDoorW.PrintWords Go.Proofs.YtiidmjmkgjfaeaaGreatDoorW.PrintLast Go.Proofs.YtiidmjmkgjfaeaaGreatDoorW.PrintMore
attribute [local go_sem] max2_int min2_int max_two min_two max_three min_three max_four min_four
set_option maxHeartbeats 8000000
set_option maxRecDepth 100000
set_option linter.unusedVariables false
set_option linter.unusedSimpArgs false
mutual
def keelsonlaw22_small.j0 : Nat → List (S37) → List (S39) → Bool → Option (Bool)
 | 0,_,_,_ => none
 | k + 1,x0,x1,x16 => if x16 = true then (some false) else (keelsonlaw22_small.l0 k x0 x1 0)
def keelsonlaw22_small.l0 : Nat → List (S37) → List (S39) → Int → Option (Bool)
 | 0,_,_,_ => none
 | k + 1,x0,x1,x5 => if x5 < (x0.length : Int) then (if 0 ≤ x5 then ((keelsonlaw22_fine.f k ((rd_T37 x0 x5).f0) ((rd_T37 x0 x5).f1) ((rd_T37 x0 x5).f2) ((rd_T37 x0 x5).f3) ((rd_T37 x0 x5).f4) ((rd_T37 x0 x5).f5)).bind fun t310 => (if t310 = true then (keelsonlaw22_small.l0 k x0 x1 (wrap64 (x5 + 1))) else (some false))) else (none)) else (keelsonlaw22_small.l1 k x1 0)
def keelsonlaw22_small.l1 : Nat → List (S39) → Int → Option (Bool)
 | 0,_,_ => none
 | k + 1,x1,x7 => if x7 < (x1.length : Int) then (if 0 ≤ x7 then ((keelsonlaw22_fine.f k ((rd_T39 x1 x7).f0.f0) ((rd_T39 x1 x7).f0.f1) ((rd_T39 x1 x7).f0.f2) ((rd_T39 x1 x7).f0.f3) ((rd_T39 x1 x7).f0.f4) ((rd_T39 x1 x7).f0.f5)).bind fun t312 => (if t312 = true then (keelsonlaw22_small.l1 k x1 (wrap64 (x7 + 1))) else (some false))) else (none)) else (some true)
end
def keelsonlaw22_small.f (k : Nat) (l0 : List (S37)) (l1 : List (S39)) : Option (Bool) := if (l0.length : Int) > 20 then (keelsonlaw22_small.j0 k l0 l1 true) else (keelsonlaw22_small.j0 k l0 l1 (decide ((l1.length : Int) > 20)))
theorem keelsonlaw22_small.mono_l : ∀ k,(∀ y0 y1 y2,LeO (keelsonlaw22_small.j0 k y0 y1 y2) (keelsonlaw22_small.j0 (k + 1) y0 y1 y2)) ∧ (∀ y0 y1 y2,LeO (keelsonlaw22_small.l0 k y0 y1 y2) (keelsonlaw22_small.l0 (k + 1) y0 y1 y2)) ∧ (∀ y0 y1,LeO (keelsonlaw22_small.l1 k y0 y1) (keelsonlaw22_small.l1 (k + 1) y0 y1))
 | 0 => ⟨fun _ _ _ r h => by simp [keelsonlaw22_small.j0] at h,fun _ _ _ r h => by simp [keelsonlaw22_small.l0] at h,fun _ _ r h => by simp [keelsonlaw22_small.l1] at h⟩
 | k + 1 => by
  obtain ⟨ih0,ih1,ih2⟩ := keelsonlaw22_small.mono_l k
  refine ⟨?_,?_,?_⟩
  ·intro y0 y1 y2
   unfold keelsonlaw22_small.j0
   repeat' first
   | (with_reducible exact ih0 _ _ _)
   | (with_reducible exact ih1 _ _ _)
   | (with_reducible exact ih2 _ _)
   | (with_reducible exact keelsonlaw22_fine.mono _ _ _ _ _ _ _)
   | (with_reducible exact LeO.refl _)
   | (with_reducible exact LeO.none _)
   | (with_reducible refine LeO.ite ?_ ?_)
   | (with_reducible refine LeO.bind ?_ (fun _ => ?_))
  ·intro y0 y1 y2
   unfold keelsonlaw22_small.l0
   repeat' first
   | (with_reducible exact ih0 _ _ _)
   | (with_reducible exact ih1 _ _ _)
   | (with_reducible exact ih2 _ _)
   | (with_reducible exact keelsonlaw22_fine.mono _ _ _ _ _ _ _)
   | (with_reducible exact LeO.refl _)
   | (with_reducible exact LeO.none _)
   | (with_reducible refine LeO.ite ?_ ?_)
   | (with_reducible refine LeO.bind ?_ (fun _ => ?_))
  ·intro y0 y1
   unfold keelsonlaw22_small.l1
   repeat' first
   | (with_reducible exact ih0 _ _ _)
   | (with_reducible exact ih1 _ _ _)
   | (with_reducible exact ih2 _ _)
   | (with_reducible exact keelsonlaw22_fine.mono _ _ _ _ _ _ _)
   | (with_reducible exact LeO.refl _)
   | (with_reducible exact LeO.none _)
   | (with_reducible refine LeO.ite ?_ ?_)
   | (with_reducible refine LeO.bind ?_ (fun _ => ?_))
theorem keelsonlaw22_small.mono : ∀ a0 a1 k,LeO (keelsonlaw22_small.f k a0 a1) (keelsonlaw22_small.f (k + 1) a0 a1) := by
 intro a0 a1 k
 obtain ⟨ih0,ih1,ih2⟩ := keelsonlaw22_small.mono_l k
 unfold keelsonlaw22_small.f
 repeat' first
   | (with_reducible exact ih0 _ _ _)
   | (with_reducible exact ih1 _ _ _)
   | (with_reducible exact ih2 _ _)
   | (with_reducible exact keelsonlaw22_fine.mono _ _ _ _ _ _ _)
   | (with_reducible exact LeO.refl _)
   | (with_reducible exact LeO.none _)
   | (with_reducible refine LeO.ite ?_ ?_)
   | (with_reducible refine LeO.bind ?_ (fun _ => ?_))
theorem keelsonlaw22_small.calls (k : Nat) (A0 : Option Addr) (c0 : Nat) (l0 : List (S37)) (A1 : Option Addr) (c1 : Nat) (l1 : List (S39)) (r : Bool) (w : World) (hG : GL w) (hr0 : Kd.C k37 w A0 l0.length l0) (hc0 : l0.length ≤ c0) (hr1 : Kd.C k39 w A1 l1.length l1) (hc1 : l1.length ≤ c1) (h : keelsonlaw22_small.f k l0 l1 = some r) :
  Calls Tryz.prog 18 #[.slice A0 l0.length c0,.slice A1 l1.length c1] w fun e w' => e = .returned (.bool r) ∧ Below w.heap.size w w' := by
 have hu37 := Tryz.underlying37
 have HR0 := Aside0.mk hr0
 have HC0 := Aside0.mk hc0
 clear hr0 hc0
 have HR1 := Aside0.mk hr1
 have HC1 := Aside0.mk hc1
 clear hr1 hc1
 have HB := Aside0.mk (Below.refl w.heap.size w)
 have H : (if (l0.length : Int) > 20 then (keelsonlaw22_small.j0 k l0 l1 true) else (keelsonlaw22_small.j0 k l0 l1 (decide ((l1.length : Int) > 20)))) = some r := h
 clear h
 have HC3 := Aside0.mk H
 clear H
 go_enter Tryz.func18,Tryz.ntmps18
 go_upto_region 1 with (fail)
 go_cut [16] (fun v16 wc => ∃ (kq : Nat) (x16_2 : Bool),v16 = .bool x16_2 ∧ Aside0 (keelsonlaw22_small.j0 kq l0 l1 x16_2 = some r) ∧ Aside0 (kq ≤ k) ∧ Aside0 (Below w.heap.size w wc))
 case first =>
  have H := HC3.out
  clear HC3
  by_cases c4 : (l0.length : Int) > 20
  ·rw [if_pos c4] at H
   have c4b0 : decide (20 < (l0.length : Int)) = true := decide_eq_true c4
   have c4b1 : decide (20 < l0.length) = true := decide_eq_true (by omega)
   clear c4
   (first|rw [c4b0]|(simp only [i64_w,i32_w];rw [c4b0]) | skip)
   have H' := Aside0.mk H
   clear H
   go_wp2
   go_meet
   case rel => exact ⟨_,(true),(by first|rfl|(simp;done)|(simp [*];done)|(simp [qam];done)),H',⟨by first|omega|exact Nat.le_refl _⟩,⟨by repeat (with_reducible first|exact HB.out|apply qab|apply qaa|apply qac)⟩⟩
  ·rw [if_neg c4] at H
   have c4b0 : decide (20 < (l0.length : Int)) = false := decide_eq_false c4
   have c4b1 : decide (20 < l0.length) = false := decide_eq_false (by omega)
   clear c4
   (first|rw [c4b0]|(simp only [i64_w,i32_w];rw [c4b0]) | skip)
   have H' := Aside0.mk H
   clear H
   go_wp2
   go_meet
   case rel => exact ⟨_,(decide ((l1.length : Int) > 20)),(by first|rfl|(simp;done)|(simp [*];done)|(simp [qam];done)),H',⟨by first|omega|exact Nat.le_refl _⟩,⟨by repeat (with_reducible first|exact HB.out|apply qab|apply qaa|apply qac)⟩⟩
 case rest =>
  clear HC3
  try clear c1
  try clear p2
  try clear c4
  try clear c4b0
  try clear c4b1
  obtain ⟨kq,x16_2,rfl,HA,HJ2,HB⟩ := hcut
  cases kq with
  | zero => exact absurd HA.out (by simp [keelsonlaw22_small.j0])
  | succ kj2 =>
   have H := HA.out
   clear HA
   simp only [keelsonlaw22_small.j0] at H
   by_cases c5 : x16_2 = true
   ·subst c5
    have H1 : (some false) = some r := by rw [if_pos rfl] at H;exact H
    clear H
    have H := H1
    clear H1
    obtain rfl := Option.some.inj H
    go_wp2
    go_ret
    exact ⟨by first|rfl|(simp [qaj,qak]<;>rfl)|(simp [*,qaj,qak]<;>rfl),by repeat (with_reducible first|exact HB.out|apply qab|apply qaa|apply qac)⟩
   ·replace c5 := Bool.eq_false_iff.mpr c5
    subst c5
    have H1 : (keelsonlaw22_small.l0 kj2 l0 l1 0) = some r := by rw [if_neg (show ¬ (false = true) by decide)] at H;exact H
    clear H
    have H := H1
    clear H1
    have H' := Aside0.mk H
    clear H
    go_wp2
    go_loopg [5] kj2 (fun kq v5 w' => ∃ (x5_2 : Int),v5 = .int .i64 x5_2 ∧ Aside0 (keelsonlaw22_small.l0 kq l0 l1 x5_2 = some r) ∧ Aside0 (kq ≤ kj2) ∧ Aside0 (Below w.heap.size w w'))
    case atStart => exact ⟨(0),(by first|rfl|(simp;done)|(simp [*];done)|(simp [qam];done)),H',⟨Nat.le_refl _⟩,⟨by repeat (with_reducible first|exact HB.out|apply qab|apply qaa|apply qac)⟩⟩
    case round =>
     clear H'
     try clear c1
     try clear p2
     try clear c4
     try clear c4b0
     try clear c4b1
     try clear c5
     try clear p2
     obtain ⟨x5_2,rfl,HA,HK2,HB⟩ := hrel
     cases gk with
     | zero => exact absurd HA.out (by simp [keelsonlaw22_small.l0])
     | succ k2 =>
      have H := HA.out
      clear HA
      simp only [keelsonlaw22_small.l0] at H
      by_cases c6 : x5_2 < (l0.length : Int)
      ·rw [if_pos c6] at H
       have c6b0 : decide (x5_2 < (l0.length : Int)) = true := decide_eq_true c6
       clear c6
       by_cases c7 : 0 ≤ x5_2
       ·rw [if_pos c7] at H
        have c7b0 : decide (0 ≤ x5_2) = true := decide_eq_true c7
        clear c7
        replace H := Option.bind_eq_some_iff.mp H
        obtain ⟨t310,A80,H⟩ := H
        replace H : (if t310 = true then (keelsonlaw22_small.l0 k2 l0 l1 (wrap64 (x5_2 + 1))) else (some false)) = some r := H
        have A8 := Aside0.mk A80
        clear A80
        by_cases c9 : t310 = true
        ·subst c9
         have H1 : (keelsonlaw22_small.l0 k2 l0 l1 (wrap64 (x5_2 + 1))) = some r := by rw [if_pos rfl] at H;exact H
         clear H
         have H := H1
         clear H1
         have H' := Aside0.mk H
         clear H
         have p309 : 0 ≤ (x5_2 : Int) := of_decide_eq_true (by assumption)
         have q309 : x5_2 < (l0.length : Int) := of_decide_eq_true (by assumption)
         obtain ⟨ad309,A309_2,c309_2,A309_3,c309_3,A309_4,c309_4,A309_5,c309_5,e309,hx309_0,hx309_1,hx309_2,hx309_3,hx309_4,hx309_5,hl309_2,hi309_2,hl309_3,hi309_3,hl309_4,hi309_4,hl309_5,hi309_5⟩ := at_T37 HR0.out x5_2 p309 q309
         cases e309
         replace hx309_0 := (HB.out.cell (World.block_lt_of_cell? w _ hx309_0)).trans hx309_0
         replace hx309_1 := (HB.out.cell (World.block_lt_of_cell? w _ hx309_1)).trans hx309_1
         replace hx309_2 := (HB.out.cell (World.block_lt_of_cell? w _ hx309_2)).trans hx309_2
         replace hx309_3 := (HB.out.cell (World.block_lt_of_cell? w _ hx309_3)).trans hx309_3
         replace hx309_4 := (HB.out.cell (World.block_lt_of_cell? w _ hx309_4)).trans hx309_4
         replace hx309_5 := (HB.out.cell (World.block_lt_of_cell? w _ hx309_5)).trans hx309_5
         have HR309_2 := Aside0.mk hi309_2
         have HC309_2 := Aside0.mk hl309_2
         clear hi309_2 hl309_2
         have HR309_3 := Aside0.mk hi309_3
         have HC309_3 := Aside0.mk hl309_3
         clear hi309_3 hl309_3
         have HR309_4 := Aside0.mk hi309_4
         have HC309_4 := Aside0.mk hl309_4
         clear hi309_4 hl309_4
         have HR309_5 := Aside0.mk hi309_5
         have HC309_5 := Aside0.mk hl309_5
         clear hi309_5 hl309_5
         replace p309 := eq_true p309
         replace q309 := eq_true q309
         go_wp2_with (first|((with_reducible refine qal (f := 35) rfl ?_);refine goesL_ (some 27) rfl rfl Tryz.func35 (by kernel_rfl) rfl #[.agg #[.string ((rd_T37 l0 x5_2).f0),.string ((rd_T37 l0 x5_2).f1),.slice A309_2 ((rd_T37 l0 x5_2).f2).length c309_2,.slice A309_3 ((rd_T37 l0 x5_2).f3).length c309_3,.slice A309_4 ((rd_T37 l0 x5_2).f4).length c309_4,.slice A309_5 ((rd_T37 l0 x5_2).f5).length c309_5]] rfl (by first|rfl|(simp only [List.map_toArray,List.map_cons,List.map_nil,List.length_drop,List.length_take];rfl)|simp only [List.map_toArray,List.map_cons,List.map_nil]) ?_;(with_reducible refine (keelsonlaw22_fine.calls k2 ((rd_T37 l0 x5_2).f0) ((rd_T37 l0 x5_2).f1) _ _ ((rd_T37 l0 x5_2).f2) _ _ ((rd_T37 l0 x5_2).f3) _ _ ((rd_T37 l0 x5_2).f4) _ _ ((rd_T37 l0 x5_2).f5) true _ (by first|exact hG|exact GL.below hG (by repeat (with_reducible first|exact HB.out|apply qab|apply qaa|apply qac)))  ?side1 ?side2 ?side3 ?side4 ?side5 ?side6 ?side7 ?side8 A8.out).mono ?_);(case side1 => repeat (first|exact (Kd.C_below HR309_2.out HB.out)|(with_reducible refine Kd.C_alloc ?_ _)|(with_reducible refine Kd.C_drewN ?_ _)|(with_reducible refine Kd.C_drew ?_)));(case side2 => exact HC309_2.out);(case side3 => repeat (first|exact (Kd.C_below HR309_3.out HB.out)|(with_reducible refine Kd.C_alloc ?_ _)|(with_reducible refine Kd.C_drewN ?_ _)|(with_reducible refine Kd.C_drew ?_)));(case side4 => exact HC309_3.out);(case side5 => repeat (first|exact (Kd.C_below HR309_4.out HB.out)|(with_reducible refine Kd.C_alloc ?_ _)|(with_reducible refine Kd.C_drewN ?_ _)|(with_reducible refine Kd.C_drew ?_)));(case side6 => exact HC309_4.out);(case side7 => repeat (first|exact (Kd.C_below HR309_5.out HB.out)|(with_reducible refine Kd.C_alloc ?_ _)|(with_reducible refine Kd.C_drewN ?_ _)|(with_reducible refine Kd.C_drew ?_)));(case side8 => exact HC309_5.out);rintro e w10 ⟨rfl,hb⟩;refine ⟨_,rfl,?_⟩;have n0_ := Aside0.mk (qan (by repeat (with_reducible first|exact HB.out|apply qab|apply qaa|apply qac)) hb);clear HB;have HB := n0_;clear n0_;(try clear hb);(try clear hb2);(try clear hk);(try clear hi)))
         go_roundg k2
         case measure => have := HJ2.out;have := HK2.out;omega
         case rel => exact ⟨(wrap64 (x5_2 + 1)),(by first|rfl|(simp;done)|(simp [*];done)|(simp [qam];done)),H',⟨by have := HJ2.out;have := HK2.out;omega⟩,⟨by repeat (with_reducible first|exact HB.out|apply qab|apply qaa|apply qac)⟩⟩
        ·replace c9 := Bool.eq_false_iff.mpr c9
         subst c9
         have H1 : (some false) = some r := by rw [if_neg (show ¬ (false = true) by decide)] at H;exact H
         clear H
         have H := H1
         clear H1
         obtain rfl := Option.some.inj H
         have p309 : 0 ≤ (x5_2 : Int) := of_decide_eq_true (by assumption)
         have q309 : x5_2 < (l0.length : Int) := of_decide_eq_true (by assumption)
         obtain ⟨ad309,A309_2,c309_2,A309_3,c309_3,A309_4,c309_4,A309_5,c309_5,e309,hx309_0,hx309_1,hx309_2,hx309_3,hx309_4,hx309_5,hl309_2,hi309_2,hl309_3,hi309_3,hl309_4,hi309_4,hl309_5,hi309_5⟩ := at_T37 HR0.out x5_2 p309 q309
         cases e309
         replace hx309_0 := (HB.out.cell (World.block_lt_of_cell? w _ hx309_0)).trans hx309_0
         replace hx309_1 := (HB.out.cell (World.block_lt_of_cell? w _ hx309_1)).trans hx309_1
         replace hx309_2 := (HB.out.cell (World.block_lt_of_cell? w _ hx309_2)).trans hx309_2
         replace hx309_3 := (HB.out.cell (World.block_lt_of_cell? w _ hx309_3)).trans hx309_3
         replace hx309_4 := (HB.out.cell (World.block_lt_of_cell? w _ hx309_4)).trans hx309_4
         replace hx309_5 := (HB.out.cell (World.block_lt_of_cell? w _ hx309_5)).trans hx309_5
         have HR309_2 := Aside0.mk hi309_2
         have HC309_2 := Aside0.mk hl309_2
         clear hi309_2 hl309_2
         have HR309_3 := Aside0.mk hi309_3
         have HC309_3 := Aside0.mk hl309_3
         clear hi309_3 hl309_3
         have HR309_4 := Aside0.mk hi309_4
         have HC309_4 := Aside0.mk hl309_4
         clear hi309_4 hl309_4
         have HR309_5 := Aside0.mk hi309_5
         have HC309_5 := Aside0.mk hl309_5
         clear hi309_5 hl309_5
         replace p309 := eq_true p309
         replace q309 := eq_true q309
         go_wp2_with (first|((with_reducible refine qal (f := 35) rfl ?_);refine goesL_ (some 27) rfl rfl Tryz.func35 (by kernel_rfl) rfl #[.agg #[.string ((rd_T37 l0 x5_2).f0),.string ((rd_T37 l0 x5_2).f1),.slice A309_2 ((rd_T37 l0 x5_2).f2).length c309_2,.slice A309_3 ((rd_T37 l0 x5_2).f3).length c309_3,.slice A309_4 ((rd_T37 l0 x5_2).f4).length c309_4,.slice A309_5 ((rd_T37 l0 x5_2).f5).length c309_5]] rfl (by first|rfl|(simp only [List.map_toArray,List.map_cons,List.map_nil,List.length_drop,List.length_take];rfl)|simp only [List.map_toArray,List.map_cons,List.map_nil]) ?_;(with_reducible refine (keelsonlaw22_fine.calls k2 ((rd_T37 l0 x5_2).f0) ((rd_T37 l0 x5_2).f1) _ _ ((rd_T37 l0 x5_2).f2) _ _ ((rd_T37 l0 x5_2).f3) _ _ ((rd_T37 l0 x5_2).f4) _ _ ((rd_T37 l0 x5_2).f5) false _ (by first|exact hG|exact GL.below hG (by repeat (with_reducible first|exact HB.out|apply qab|apply qaa|apply qac)))  ?side1 ?side2 ?side3 ?side4 ?side5 ?side6 ?side7 ?side8 A8.out).mono ?_);(case side1 => repeat (first|exact (Kd.C_below HR309_2.out HB.out)|(with_reducible refine Kd.C_alloc ?_ _)|(with_reducible refine Kd.C_drewN ?_ _)|(with_reducible refine Kd.C_drew ?_)));(case side2 => exact HC309_2.out);(case side3 => repeat (first|exact (Kd.C_below HR309_3.out HB.out)|(with_reducible refine Kd.C_alloc ?_ _)|(with_reducible refine Kd.C_drewN ?_ _)|(with_reducible refine Kd.C_drew ?_)));(case side4 => exact HC309_3.out);(case side5 => repeat (first|exact (Kd.C_below HR309_4.out HB.out)|(with_reducible refine Kd.C_alloc ?_ _)|(with_reducible refine Kd.C_drewN ?_ _)|(with_reducible refine Kd.C_drew ?_)));(case side6 => exact HC309_4.out);(case side7 => repeat (first|exact (Kd.C_below HR309_5.out HB.out)|(with_reducible refine Kd.C_alloc ?_ _)|(with_reducible refine Kd.C_drewN ?_ _)|(with_reducible refine Kd.C_drew ?_)));(case side8 => exact HC309_5.out);rintro e w11 ⟨rfl,hb⟩;refine ⟨_,rfl,?_⟩;have n0_ := Aside0.mk (qan (by repeat (with_reducible first|exact HB.out|apply qab|apply qaa|apply qac)) hb);clear HB;have HB := n0_;clear n0_;(try clear hb);(try clear hb2);(try clear hk);(try clear hi)))
         go_ret
         exact ⟨by first|rfl|(simp [qaj,qak]<;>rfl)|(simp [*,qaj,qak]<;>rfl),by repeat (with_reducible first|exact HB.out|apply qab|apply qaa|apply qac)⟩
       ·rw [if_neg c7] at H
        exact absurd H (by simp)
      ·rw [if_neg c6] at H
       have c6b0 : decide (x5_2 < (l0.length : Int)) = false := decide_eq_false c6
       clear c6
       have H' := Aside0.mk H
       clear H
       go_wp2
       go_loopg [7] k2 (fun kq v7 w' => ∃ (x7_3 : Int),v7 = .int .i64 x7_3 ∧ Aside0 (keelsonlaw22_small.l1 kq l1 x7_3 = some r) ∧ Aside0 (kq ≤ k2) ∧ Aside0 (Below w.heap.size w w'))
       case atStart => exact ⟨(0),(by first|rfl|(simp;done)|(simp [*];done)|(simp [qam];done)),H',⟨Nat.le_refl _⟩,⟨by repeat (with_reducible first|exact HB.out|apply qab|apply qaa|apply qac)⟩⟩
       case round =>
        clear H'
        try clear c1
        try clear p2
        try clear c3
        try clear p3
        try clear q3
        try clear hx3
        try clear c4
        try clear c4b0
        try clear c4b1
        try clear c5
        try clear c6
        try clear c6b0
        try clear p6
        try clear c7
        try clear c7b0
        try clear c9
        try clear hx309_0
        try clear hx309_1
        try clear hx309_2
        try clear hx309_3
        try clear hx309_4
        try clear hx309_5
        try clear p2
        try clear p309
        try clear q309
        obtain ⟨x7_3,rfl,HA,HK3,HB⟩ := hrel
        cases gk with
        | zero => exact absurd HA.out (by simp [keelsonlaw22_small.l1])
        | succ k3 =>
         have H := HA.out
         clear HA
         simp only [keelsonlaw22_small.l1] at H
         by_cases c12 : x7_3 < (l1.length : Int)
         ·rw [if_pos c12] at H
          have c12b0 : decide (x7_3 < (l1.length : Int)) = true := decide_eq_true c12
          clear c12
          by_cases c13 : 0 ≤ x7_3
          ·rw [if_pos c13] at H
           have c13b0 : decide (0 ≤ x7_3) = true := decide_eq_true c13
           clear c13
           replace H := Option.bind_eq_some_iff.mp H
           obtain ⟨t312,A140,H⟩ := H
           replace H : (if t312 = true then (keelsonlaw22_small.l1 k3 l1 (wrap64 (x7_3 + 1))) else (some false)) = some r := H
           have A14 := Aside0.mk A140
           clear A140
           by_cases c15 : t312 = true
           ·subst c15
            have H1 : (keelsonlaw22_small.l1 k3 l1 (wrap64 (x7_3 + 1))) = some r := by rw [if_pos rfl] at H;exact H
            clear H
            have H := H1
            clear H1
            have H' := Aside0.mk H
            clear H
            have p311 : 0 ≤ (x7_3 : Int) := of_decide_eq_true (by assumption)
            have q311 : x7_3 < (l1.length : Int) := of_decide_eq_true (by assumption)
            obtain ⟨ad311,A311_2,c311_2,A311_3,c311_3,A311_4,c311_4,A311_5,c311_5,e311,hx311_0,hx311_1,hx311_2,hx311_3,hx311_4,hx311_5,hx311_6,hx311_7,hl311_2,hi311_2,hl311_3,hi311_3,hl311_4,hi311_4,hl311_5,hi311_5⟩ := at_T39 HR1.out x7_3 p311 q311
            cases e311
            replace hx311_0 := (HB.out.cell (World.block_lt_of_cell? w _ hx311_0)).trans hx311_0
            replace hx311_1 := (HB.out.cell (World.block_lt_of_cell? w _ hx311_1)).trans hx311_1
            replace hx311_2 := (HB.out.cell (World.block_lt_of_cell? w _ hx311_2)).trans hx311_2
            replace hx311_3 := (HB.out.cell (World.block_lt_of_cell? w _ hx311_3)).trans hx311_3
            replace hx311_4 := (HB.out.cell (World.block_lt_of_cell? w _ hx311_4)).trans hx311_4
            replace hx311_5 := (HB.out.cell (World.block_lt_of_cell? w _ hx311_5)).trans hx311_5
            replace hx311_6 := (HB.out.cell (World.block_lt_of_cell? w _ hx311_6)).trans hx311_6
            replace hx311_7 := (HB.out.cell (World.block_lt_of_cell? w _ hx311_7)).trans hx311_7
            have HR311_2 := Aside0.mk hi311_2
            have HC311_2 := Aside0.mk hl311_2
            clear hi311_2 hl311_2
            have HR311_3 := Aside0.mk hi311_3
            have HC311_3 := Aside0.mk hl311_3
            clear hi311_3 hl311_3
            have HR311_4 := Aside0.mk hi311_4
            have HC311_4 := Aside0.mk hl311_4
            clear hi311_4 hl311_4
            have HR311_5 := Aside0.mk hi311_5
            have HC311_5 := Aside0.mk hl311_5
            clear hi311_5 hl311_5
            replace p311 := eq_true p311
            replace q311 := eq_true q311
            go_wp2_with (first|((with_reducible refine qal (f := 35) rfl ?_);refine goesL_ (some 41) rfl rfl Tryz.func35 (by kernel_rfl) rfl #[.agg #[.string ((rd_T39 l1 x7_3).f0.f0),.string ((rd_T39 l1 x7_3).f0.f1),.slice A311_2 ((rd_T39 l1 x7_3).f0.f2).length c311_2,.slice A311_3 ((rd_T39 l1 x7_3).f0.f3).length c311_3,.slice A311_4 ((rd_T39 l1 x7_3).f0.f4).length c311_4,.slice A311_5 ((rd_T39 l1 x7_3).f0.f5).length c311_5]] rfl (by first|rfl|(simp only [List.map_toArray,List.map_cons,List.map_nil,List.length_drop,List.length_take];rfl)|simp only [List.map_toArray,List.map_cons,List.map_nil]) ?_;(with_reducible refine (keelsonlaw22_fine.calls k3 ((rd_T39 l1 x7_3).f0.f0) ((rd_T39 l1 x7_3).f0.f1) _ _ ((rd_T39 l1 x7_3).f0.f2) _ _ ((rd_T39 l1 x7_3).f0.f3) _ _ ((rd_T39 l1 x7_3).f0.f4) _ _ ((rd_T39 l1 x7_3).f0.f5) true _ (by first|exact hG|exact GL.below hG (by repeat (with_reducible first|exact HB.out|apply qab|apply qaa|apply qac)))  ?side1 ?side2 ?side3 ?side4 ?side5 ?side6 ?side7 ?side8 A14.out).mono ?_);(case side1 => repeat (first|exact (Kd.C_below HR311_2.out HB.out)|(with_reducible refine Kd.C_alloc ?_ _)|(with_reducible refine Kd.C_drewN ?_ _)|(with_reducible refine Kd.C_drew ?_)));(case side2 => exact HC311_2.out);(case side3 => repeat (first|exact (Kd.C_below HR311_3.out HB.out)|(with_reducible refine Kd.C_alloc ?_ _)|(with_reducible refine Kd.C_drewN ?_ _)|(with_reducible refine Kd.C_drew ?_)));(case side4 => exact HC311_3.out);(case side5 => repeat (first|exact (Kd.C_below HR311_4.out HB.out)|(with_reducible refine Kd.C_alloc ?_ _)|(with_reducible refine Kd.C_drewN ?_ _)|(with_reducible refine Kd.C_drew ?_)));(case side6 => exact HC311_4.out);(case side7 => repeat (first|exact (Kd.C_below HR311_5.out HB.out)|(with_reducible refine Kd.C_alloc ?_ _)|(with_reducible refine Kd.C_drewN ?_ _)|(with_reducible refine Kd.C_drew ?_)));(case side8 => exact HC311_5.out);rintro e w16 ⟨rfl,hb⟩;refine ⟨_,rfl,?_⟩;have n0_ := Aside0.mk (qan (by repeat (with_reducible first|exact HB.out|apply qab|apply qaa|apply qac)) hb);clear HB;have HB := n0_;clear n0_;(try clear hb);(try clear hb2);(try clear hk);(try clear hi)))
            go_roundg k3
            case measure => have := HJ2.out;have := HK2.out;have := HK3.out;omega
            case rel => exact ⟨(wrap64 (x7_3 + 1)),(by first|rfl|(simp;done)|(simp [*];done)|(simp [qam];done)),H',⟨by have := HJ2.out;have := HK2.out;have := HK3.out;omega⟩,⟨by repeat (with_reducible first|exact HB.out|apply qab|apply qaa|apply qac)⟩⟩
           ·replace c15 := Bool.eq_false_iff.mpr c15
            subst c15
            have H1 : (some false) = some r := by rw [if_neg (show ¬ (false = true) by decide)] at H;exact H
            clear H
            have H := H1
            clear H1
            obtain rfl := Option.some.inj H
            have p311 : 0 ≤ (x7_3 : Int) := of_decide_eq_true (by assumption)
            have q311 : x7_3 < (l1.length : Int) := of_decide_eq_true (by assumption)
            obtain ⟨ad311,A311_2,c311_2,A311_3,c311_3,A311_4,c311_4,A311_5,c311_5,e311,hx311_0,hx311_1,hx311_2,hx311_3,hx311_4,hx311_5,hx311_6,hx311_7,hl311_2,hi311_2,hl311_3,hi311_3,hl311_4,hi311_4,hl311_5,hi311_5⟩ := at_T39 HR1.out x7_3 p311 q311
            cases e311
            replace hx311_0 := (HB.out.cell (World.block_lt_of_cell? w _ hx311_0)).trans hx311_0
            replace hx311_1 := (HB.out.cell (World.block_lt_of_cell? w _ hx311_1)).trans hx311_1
            replace hx311_2 := (HB.out.cell (World.block_lt_of_cell? w _ hx311_2)).trans hx311_2
            replace hx311_3 := (HB.out.cell (World.block_lt_of_cell? w _ hx311_3)).trans hx311_3
            replace hx311_4 := (HB.out.cell (World.block_lt_of_cell? w _ hx311_4)).trans hx311_4
            replace hx311_5 := (HB.out.cell (World.block_lt_of_cell? w _ hx311_5)).trans hx311_5
            replace hx311_6 := (HB.out.cell (World.block_lt_of_cell? w _ hx311_6)).trans hx311_6
            replace hx311_7 := (HB.out.cell (World.block_lt_of_cell? w _ hx311_7)).trans hx311_7
            have HR311_2 := Aside0.mk hi311_2
            have HC311_2 := Aside0.mk hl311_2
            clear hi311_2 hl311_2
            have HR311_3 := Aside0.mk hi311_3
            have HC311_3 := Aside0.mk hl311_3
            clear hi311_3 hl311_3
            have HR311_4 := Aside0.mk hi311_4
            have HC311_4 := Aside0.mk hl311_4
            clear hi311_4 hl311_4
            have HR311_5 := Aside0.mk hi311_5
            have HC311_5 := Aside0.mk hl311_5
            clear hi311_5 hl311_5
            replace p311 := eq_true p311
            replace q311 := eq_true q311
            go_wp2_with (first|((with_reducible refine qal (f := 35) rfl ?_);refine goesL_ (some 41) rfl rfl Tryz.func35 (by kernel_rfl) rfl #[.agg #[.string ((rd_T39 l1 x7_3).f0.f0),.string ((rd_T39 l1 x7_3).f0.f1),.slice A311_2 ((rd_T39 l1 x7_3).f0.f2).length c311_2,.slice A311_3 ((rd_T39 l1 x7_3).f0.f3).length c311_3,.slice A311_4 ((rd_T39 l1 x7_3).f0.f4).length c311_4,.slice A311_5 ((rd_T39 l1 x7_3).f0.f5).length c311_5]] rfl (by first|rfl|(simp only [List.map_toArray,List.map_cons,List.map_nil,List.length_drop,List.length_take];rfl)|simp only [List.map_toArray,List.map_cons,List.map_nil]) ?_;(with_reducible refine (keelsonlaw22_fine.calls k3 ((rd_T39 l1 x7_3).f0.f0) ((rd_T39 l1 x7_3).f0.f1) _ _ ((rd_T39 l1 x7_3).f0.f2) _ _ ((rd_T39 l1 x7_3).f0.f3) _ _ ((rd_T39 l1 x7_3).f0.f4) _ _ ((rd_T39 l1 x7_3).f0.f5) false _ (by first|exact hG|exact GL.below hG (by repeat (with_reducible first|exact HB.out|apply qab|apply qaa|apply qac)))  ?side1 ?side2 ?side3 ?side4 ?side5 ?side6 ?side7 ?side8 A14.out).mono ?_);(case side1 => repeat (first|exact (Kd.C_below HR311_2.out HB.out)|(with_reducible refine Kd.C_alloc ?_ _)|(with_reducible refine Kd.C_drewN ?_ _)|(with_reducible refine Kd.C_drew ?_)));(case side2 => exact HC311_2.out);(case side3 => repeat (first|exact (Kd.C_below HR311_3.out HB.out)|(with_reducible refine Kd.C_alloc ?_ _)|(with_reducible refine Kd.C_drewN ?_ _)|(with_reducible refine Kd.C_drew ?_)));(case side4 => exact HC311_3.out);(case side5 => repeat (first|exact (Kd.C_below HR311_4.out HB.out)|(with_reducible refine Kd.C_alloc ?_ _)|(with_reducible refine Kd.C_drewN ?_ _)|(with_reducible refine Kd.C_drew ?_)));(case side6 => exact HC311_4.out);(case side7 => repeat (first|exact (Kd.C_below HR311_5.out HB.out)|(with_reducible refine Kd.C_alloc ?_ _)|(with_reducible refine Kd.C_drewN ?_ _)|(with_reducible refine Kd.C_drew ?_)));(case side8 => exact HC311_5.out);rintro e w17 ⟨rfl,hb⟩;refine ⟨_,rfl,?_⟩;have n0_ := Aside0.mk (qan (by repeat (with_reducible first|exact HB.out|apply qab|apply qaa|apply qac)) hb);clear HB;have HB := n0_;clear n0_;(try clear hb);(try clear hb2);(try clear hk);(try clear hi)))
            go_ret
            exact ⟨by first|rfl|(simp [qaj,qak]<;>rfl)|(simp [*,qaj,qak]<;>rfl),by repeat (with_reducible first|exact HB.out|apply qab|apply qaa|apply qac)⟩
          ·rw [if_neg c13] at H
           exact absurd H (by simp)
         ·rw [if_neg c12] at H
          have c12b0 : decide (x7_3 < (l1.length : Int)) = false := decide_eq_false c12
          clear c12
          obtain rfl := Option.some.inj H
          go_wp2
          go_ret
          exact ⟨by first|rfl|(simp [qaj,qak]<;>rfl)|(simp [*,qaj,qak]<;>rfl),by repeat (with_reducible first|exact HB.out|apply qab|apply qaa|apply qac)⟩
def keelsonlaw22_few.f (k : Nat) (l0 : List (S39)) (l1 : List (S39)) : Option (Bool) := (keelsonlaw22_small.f k ([] : List (S37)) l0).bind fun t313 => ((keelsonlaw22_small.f k ([] : List (S37)) l1).bind fun t314 => (if t313 = true then (some t314) else (some false)))
theorem keelsonlaw22_few.mono : ∀ a0 a1 k,LeO (keelsonlaw22_few.f k a0 a1) (keelsonlaw22_few.f (k + 1) a0 a1) := by
 intro a0 a1 k
 unfold keelsonlaw22_few.f
 repeat' first
   | (with_reducible exact keelsonlaw22_small.mono _ _ _)
   | (with_reducible exact LeO.refl _)
   | (with_reducible exact LeO.none _)
   | (with_reducible refine LeO.ite ?_ ?_)
   | (with_reducible refine LeO.bind ?_ (fun _ => ?_))
theorem keelsonlaw22_few.calls (k : Nat) (A0 : Option Addr) (c0 : Nat) (l0 : List (S39)) (A1 : Option Addr) (c1 : Nat) (l1 : List (S39)) (r : Bool) (w : World) (hG : GL w) (hr0 : Kd.C k39 w A0 l0.length l0) (hc0 : l0.length ≤ c0) (hr1 : Kd.C k39 w A1 l1.length l1) (hc1 : l1.length ≤ c1) (h : keelsonlaw22_few.f k l0 l1 = some r) :
  Calls Tryz.prog 7 #[.slice A0 l0.length c0,.slice A1 l1.length c1] w fun e w' => e = .returned (.bool r) ∧ Below w.heap.size w w' := by
 have HR0 := Aside0.mk hr0
 have HC0 := Aside0.mk hc0
 clear hr0 hc0
 have HR1 := Aside0.mk hr1
 have HC1 := Aside0.mk hc1
 clear hr1 hc1
 have HB := Aside0.mk (Below.refl w.heap.size w)
 have H : ((keelsonlaw22_small.f k ([] : List (S37)) l0).bind fun t313 => ((keelsonlaw22_small.f k ([] : List (S37)) l1).bind fun t314 => (if t313 = true then (some t314) else (some false)))) = some r := h
 clear h
 replace H := Option.bind_eq_some_iff.mp H
 obtain ⟨t313,A30,H⟩ := H
 replace H : ((keelsonlaw22_small.f k ([] : List (S37)) l1).bind fun t314 => (if t313 = true then (some t314) else (some false))) = some r := H
 have A3 := Aside0.mk A30
 clear A30
 replace H := Option.bind_eq_some_iff.mp H
 obtain ⟨t314,A40,H⟩ := H
 replace H : (if t313 = true then (some t314) else (some false)) = some r := H
 have A4 := Aside0.mk A40
 clear A40
 by_cases c5 : t313 = true
 ·subst c5
  have H1 : (some t314) = some r := by rw [if_pos rfl] at H;exact H
  clear H
  have H := H1
  clear H1
  obtain rfl := Option.some.inj H
  go_enter Tryz.func7,Tryz.ntmps7
  go_wp2_with (first|((with_reducible refine qal (f := 18) rfl ?_);refine goesL_ (some 8) rfl rfl Tryz.func18 (by kernel_rfl) rfl #[.slice none 0 0,.slice A0 l0.length c0] rfl (by first|rfl|(simp only [List.map_toArray,List.map_cons,List.map_nil,List.length_drop,List.length_take];rfl)|simp only [List.map_toArray,List.map_cons,List.map_nil]) ?_;(refine (keelsonlaw22_small.calls k _ _ ([] : List (S37)) _ _ l0 true _ (by first|exact hG|exact GL.below hG (by repeat (with_reducible first|exact HB.out|apply qab|apply qaa|apply qac)))  ?side1 ?side2 ?side3 ?side4 A3.out).mono ?_);(case side1 => exact Kd.C_nil _ _);(case side2 => exact Nat.le_refl _);(case side3 => repeat (first|exact HR0.out|(with_reducible refine Kd.C_alloc ?_ _)|(with_reducible refine Kd.C_drewN ?_ _)|(with_reducible refine Kd.C_drew ?_)));(case side4 => exact HC0.out);rintro e w6 ⟨rfl,hb⟩;refine ⟨_,rfl,?_⟩;have n0_ := Aside0.mk (qan (by repeat (with_reducible first|exact HB.out|apply qab|apply qaa|apply qac)) hb);clear HB;have HB := n0_;clear n0_;(try clear hb);(try clear hb2);(try clear hk);(try clear hi))|((with_reducible refine qal (f := 18) rfl ?_);refine goesL_ (some 10) rfl rfl Tryz.func18 (by kernel_rfl) rfl #[.slice none 0 0,.slice A1 l1.length c1] rfl (by first|rfl|(simp only [List.map_toArray,List.map_cons,List.map_nil,List.length_drop,List.length_take];rfl)|simp only [List.map_toArray,List.map_cons,List.map_nil]) ?_;(refine (keelsonlaw22_small.calls k _ _ ([] : List (S37)) _ _ l1 t314 _ (by first|exact hG|exact GL.below hG (by repeat (with_reducible first|exact HB.out|apply qab|apply qaa|apply qac)))  ?side1 ?side2 ?side3 ?side4 A4.out).mono ?_);(case side1 => exact Kd.C_nil _ _);(case side2 => exact Nat.le_refl _);(case side3 => repeat (first|exact (Kd.C_below HR1.out HB.out)|(with_reducible refine Kd.C_alloc ?_ _)|(with_reducible refine Kd.C_drewN ?_ _)|(with_reducible refine Kd.C_drew ?_)));(case side4 => exact HC1.out);rintro e w7 ⟨rfl,hb⟩;refine ⟨_,rfl,?_⟩;have n0_ := Aside0.mk (qan (by repeat (with_reducible first|exact HB.out|apply qab|apply qaa|apply qac)) hb);clear HB;have HB := n0_;clear n0_;(try clear hb);(try clear hb2);(try clear hk);(try clear hi)))
  go_ret
  exact ⟨by first|rfl|(simp [qaj,qak]<;>rfl)|(simp [*,qaj,qak]<;>rfl),by repeat (with_reducible first|exact HB.out|apply qab|apply qaa|apply qac)⟩
 ·replace c5 := Bool.eq_false_iff.mpr c5
  subst c5
  have H1 : (some false) = some r := by rw [if_neg (show ¬ (false = true) by decide)] at H;exact H
  clear H
  have H := H1
  clear H1
  obtain rfl := Option.some.inj H
  go_enter Tryz.func7,Tryz.ntmps7
  go_wp2_with (first|((with_reducible refine qal (f := 18) rfl ?_);refine goesL_ (some 8) rfl rfl Tryz.func18 (by kernel_rfl) rfl #[.slice none 0 0,.slice A0 l0.length c0] rfl (by first|rfl|(simp only [List.map_toArray,List.map_cons,List.map_nil,List.length_drop,List.length_take];rfl)|simp only [List.map_toArray,List.map_cons,List.map_nil]) ?_;(refine (keelsonlaw22_small.calls k _ _ ([] : List (S37)) _ _ l0 false _ (by first|exact hG|exact GL.below hG (by repeat (with_reducible first|exact HB.out|apply qab|apply qaa|apply qac)))  ?side1 ?side2 ?side3 ?side4 A3.out).mono ?_);(case side1 => exact Kd.C_nil _ _);(case side2 => exact Nat.le_refl _);(case side3 => repeat (first|exact HR0.out|(with_reducible refine Kd.C_alloc ?_ _)|(with_reducible refine Kd.C_drewN ?_ _)|(with_reducible refine Kd.C_drew ?_)));(case side4 => exact HC0.out);rintro e w8 ⟨rfl,hb⟩;refine ⟨_,rfl,?_⟩;have n0_ := Aside0.mk (qan (by repeat (with_reducible first|exact HB.out|apply qab|apply qaa|apply qac)) hb);clear HB;have HB := n0_;clear n0_;(try clear hb);(try clear hb2);(try clear hk);(try clear hi))|((with_reducible refine qal (f := 18) rfl ?_);refine goesL_ (some 10) rfl rfl Tryz.func18 (by kernel_rfl) rfl #[.slice none 0 0,.slice A1 l1.length c1] rfl (by first|rfl|(simp only [List.map_toArray,List.map_cons,List.map_nil,List.length_drop,List.length_take];rfl)|simp only [List.map_toArray,List.map_cons,List.map_nil]) ?_;(refine (keelsonlaw22_small.calls k _ _ ([] : List (S37)) _ _ l1 t314 _ (by first|exact hG|exact GL.below hG (by repeat (with_reducible first|exact HB.out|apply qab|apply qaa|apply qac)))  ?side1 ?side2 ?side3 ?side4 A4.out).mono ?_);(case side1 => exact Kd.C_nil _ _);(case side2 => exact Nat.le_refl _);(case side3 => repeat (first|exact (Kd.C_below HR1.out HB.out)|(with_reducible refine Kd.C_alloc ?_ _)|(with_reducible refine Kd.C_drewN ?_ _)|(with_reducible refine Kd.C_drew ?_)));(case side4 => exact HC1.out);rintro e w9 ⟨rfl,hb⟩;refine ⟨_,rfl,?_⟩;have n0_ := Aside0.mk (qan (by repeat (with_reducible first|exact HB.out|apply qab|apply qaa|apply qac)) hb);clear HB;have HB := n0_;clear n0_;(try clear hb);(try clear hb2);(try clear hk);(try clear hi)))
  go_ret
  exact ⟨by first|rfl|(simp [qaj,qak]<;>rfl)|(simp [*,qaj,qak]<;>rfl),by repeat (with_reducible first|exact HB.out|apply qab|apply qaa|apply qac)⟩
section
def idxA (p : S46 → Option Bool) : List S46 → Nat → Option Int
 | [],_ => some (-1)
 | x :: r,i => (p x).bind fun t => if t = true then some (i : Int) else idxA p r (i + 1)
def anyA (p : S46 → Option Bool) : List S46 → Option Bool
 | [] => some false
 | x :: r => (p x).bind fun t => if t = true then some true else anyA p r
theorem anyA_mono {p q : S46 → Option Bool} (h : ∀ x,LeO (p x) (q x)) : ∀ l,LeO (anyA p l) (anyA q l)
 | [] => LeO.refl _
 | x :: r => LeO.bind (h x) (fun _ => LeO.ite (LeO.refl _) (anyA_mono h r))
theorem idxA_of_any {p : S46 → Option Bool} : ∀ (l : List S46) (i : Nat) (t : Bool),anyA p l = some t → ∃ r,idxA p l i = some r ∧ decide (r ≥ 0) = t
 | [],i,t,h => by
  obtain rfl : false = t := by simpa [anyA] using h
  exact ⟨-1,rfl,rfl⟩
 | x :: r,i,t,h => by
  obtain ⟨u,hu,h⟩ := Option.bind_eq_some_iff.1 (show (p x).bind _ = some t from h)
  cases u with
  | true =>
   obtain rfl : true = t := by simpa using h
   exact ⟨i,by simp [idxA,hu],by simp⟩
  | false =>
   obtain ⟨r',h1,h2⟩ := idxA_of_any r (i + 1) t (by simpa using h)
   exact ⟨r',by simp [idxA,hu,h1],h2⟩
def atomProv (k : Nat) (a b : S46) : Option Bool := relation_Provides.f k a.f0 a.f1 a.f2 b.f0 b.f1 b.f2
def groupMet (k : Nat) (have_ : List S46) (g : List S46) : Option Bool := if g.length < 1000000000000 then anyA (fun a => anyA (atomProv k a) have_) g else none
def openF (k : Nat) (have_ : List S46) : List (List S46) → Int → List Int → Option (List Int)
 | [],_,out => some out
 | g :: r,i,out => (groupMet k have_ g).bind fun t => if t = true then openF k have_ r (i + 1) out else openF k have_ r (i + 1) (out ++ [i])
def depends_Open.f (k : Nat) (l0 : List (List S46)) (l1 : List S46) : Option (List Int) := if l0.length < 1000000000000 ∧ l1.length < 1000000000000 then openF k l1 l0 0 [] else none
theorem atomProv_mono (k : Nat) (a b : S46) : LeO (atomProv k a b) (atomProv (k + 1) a b) := relation_Provides.mono _ _ _ _ _ _ _
theorem groupMet_mono (k : Nat) (hv : List S46) (l : List S46) : LeO (groupMet k hv l) (groupMet (k + 1) hv l) :=
 LeO.ite (anyA_mono (fun a => anyA_mono (fun b => atomProv_mono k a b) hv) l) (LeO.refl _)
theorem openF_mono (k : Nat) (hv : List S46) : ∀ l i out,LeO (openF k hv l i out) (openF (k + 1) hv l i out)
 | [],_,_ => LeO.refl _
 | g :: r,_,_ => LeO.bind (groupMet_mono k hv g) (fun _ => LeO.ite (openF_mono k hv r _ _) (openF_mono k hv r _ _))
theorem depends_Open.mono : ∀ k l0 l1,LeO (depends_Open.f k l0 l1) (depends_Open.f (k + 1) l0 l1) := fun k l0 l1 => LeO.ite (openF_mono k l1 l0 0 []) (LeO.refl _)
def PredO (p : S46 → Option Bool) (g : Nat) (lb : Array Value) (w : World) : Prop :=
 ∀ (W : World) (x : S46) (t : Bool),Below w.heap.size w W → p x = some t → Calls Tryz.prog g (#[.agg #[.string x.f0,.int .i64 x.f1,.string x.f2]] ++ lb) W fun e w' => e = .returned (.bool t) ∧ Below w.heap.size w w'
theorem indexRow (p : S46 → Option Bool) (g : Nat) (lb : Array Value) (eg : ∀ args w,(callFunc g args).run Tryz.prog w = .ok (.enter g args) w) (w : World) (hp : PredO p g lb w)
  (A0 : Option Addr) (c0 : Nat) (l0 : List S46) (hr0 : Kd.C k46 w A0 l0.length l0) (hl : l0.length < 1000000000000) (r : Int) (h : idxA p l0 0 = some r) :
  Calls Tryz.prog 68 #[.slice A0 l0.length c0,.func (.func g) #[] lb] w fun e w' => e = .returned (.int .i64 r) ∧ Below w.heap.size w w' := by
 have HR0 := Aside0.mk hr0
 have HL := Aside0.mk hl
 have HH := Aside0.mk h
 have HP := Aside0.mk hp
 clear hr0 hl h hp
 go_enter Tryz.func68,Tryz.ntmps68
 go_wp2
 go_loopg [5,8] l0.length (fun gg v5 v8 wr => ∃ i : Nat,i ≤ l0.length ∧ l0.length - i ≤ gg ∧ v8 = .int .i64 (i : Int) ∧ Aside0 (idxA p (l0.drop i) i = some r) ∧ Aside0 (Below w.heap.size w wr))
 case atStart => exact ⟨0,Nat.zero_le _,by omega,rfl,HH,⟨Below.refl _ _⟩⟩
 case round =>
  clear HH
  obtain ⟨i,hi,hg,rfl,HA,HB⟩ := hrel
  by_cases hlt : i < l0.length
  ·have b2 : decide ((i : Int) < (l0.length : Int)) = true := decide_eq_true (by omega)
   have p0 : (0 : Int) ≤ (i : Int) := by omega
   have p1 : (i : Int) < (l0.length : Int) := by omega
   obtain ⟨ad,rfl,hx0,hx1,hx2⟩ := at_T46 HR0.out (i : Int) p0 p1
   obtain ⟨x,hx,hrest⟩ : ∃ x,rd_T46 l0 (i : Int) = x ∧ l0.drop i = x :: l0.drop (i + 1) := ⟨_,rfl,by
    rw [List.drop_eq_getElem_cons hlt]
    congr 1
    rw [rd_T46,Int.toNat_natCast,List.getD_eq_getElem?_getD,List.getElem?_eq_getElem hlt]
    rfl⟩
   rw [hx,Int.toNat_natCast] at hx0 hx1 hx2
   replace hx0 := (HB.out.cell (World.block_lt_of_cell? _ _ hx0)).trans hx0
   replace hx1 := (HB.out.cell (World.block_lt_of_cell? _ _ hx1)).trans hx1
   replace hx2 := (HB.out.cell (World.block_lt_of_cell? _ _ hx2)).trans hx2
   have hA := HA.out
   rw [hrest] at hA
   obtain ⟨t,ht,hA⟩ := Option.bind_eq_some_iff.1 (show (p x).bind (fun t => if t = true then some (i : Int) else idxA p (l0.drop (i + 1)) (i + 1)) = some r from hA)
   have hcall := HP.out wr x t HB.out ht
   have bw : wrap64 ((i : Int) + 1) = ((i + 1 : Nat) : Int) := by have := HL.out;unfold wrap64;omega
   have HI := Aside0.mk hi
   have HG := Aside0.mk hg
   have HLT := Aside0.mk hlt
   have HT := Aside0.mk hA
   clear hA hrest hx ht hi hg hlt HA HP HL
   cases t with
   | true =>
    go_wp2_with (go_at_fn g;refine hcall.mono ?_;rintro e w' ⟨rfl,hb'⟩)
    go_ret
    have hr := HT.out
    rw [if_pos trivial] at hr
    obtain rfl := Option.some.inj hr
    exact ⟨rfl,hb'⟩
   | false =>
    go_wp2_with (go_at_fn g;refine hcall.mono ?_;rintro e w' ⟨rfl,hb'⟩)
    go_roundg (l0.length - (i + 1))
    case measure => have := HG.out;have := HLT.out;omega
    case rel => exact ⟨i + 1,HLT.out,Nat.le_refl _,by rw [bw],⟨by have hr := HT.out;rw [if_neg (by decide)] at hr;exact hr⟩,⟨hb'⟩⟩
  ·have b2 : decide ((i : Int) < (l0.length : Int)) = false := decide_eq_false (by omega)
   have hA := HA.out
   rw [List.drop_of_length_le (by omega)] at hA
   obtain rfl : (-1 : Int) = r := by simpa [idxA] using hA
   go_wp2
   go_ret
   exact ⟨rfl,HB.out⟩
theorem containsRow (p : S46 → Option Bool) (g : Nat) (lb : Array Value) (eg : ∀ args w,(callFunc g args).run Tryz.prog w = .ok (.enter g args) w) (w : World) (hp : PredO p g lb w)
  (A0 : Option Addr) (c0 : Nat) (l0 : List S46) (hr0 : Kd.C k46 w A0 l0.length l0) (hl : l0.length < 1000000000000) (t : Bool) (h : anyA p l0 = some t) :
  Calls Tryz.prog 49 #[.slice A0 l0.length c0,.func (.func g) #[] lb] w fun e w' => e = .returned (.bool t) ∧ Below w.heap.size w w' := by
 obtain ⟨r,hr,rfl⟩ := idxA_of_any l0 0 t h
 clear h
 have HI := Aside0.mk (indexRow p g lb eg w hp A0 c0 l0 hr0 hl r hr)
 clear hr0 hl hr hp
 go_enter Tryz.func49,Tryz.ntmps49
 go_wp2_with (go_at_call 68;refine HI.out.mono ?_;rintro e w' ⟨rfl,hb'⟩)
 go_ret
 exact ⟨rfl,hb'⟩
theorem indexGroup (p : S46 → Option Bool) (g : Nat) (lb : Array Value) (eg : ∀ args w,(callFunc g args).run Tryz.prog w = .ok (.enter g args) w) (w : World) (hp : PredO p g lb w)
  (A0 : Option Addr) (c0 : Nat) (l0 : List S46) (hr0 : Kd.C k46 w A0 l0.length l0) (hl : l0.length < 1000000000000) (r : Int) (h : idxA p l0 0 = some r) :
  Calls Tryz.prog 67 #[.slice A0 l0.length c0,.func (.func g) #[] lb] w fun e w' => e = .returned (.int .i64 r) ∧ Below w.heap.size w w' := by
 have HR0 := Aside0.mk hr0
 have HL := Aside0.mk hl
 have HH := Aside0.mk h
 have HP := Aside0.mk hp
 clear hr0 hl h hp
 go_enter Tryz.func67,Tryz.ntmps67
 go_wp2
 go_loopg [5,8] l0.length (fun gg v5 v8 wr => ∃ i : Nat,i ≤ l0.length ∧ l0.length - i ≤ gg ∧ v8 = .int .i64 (i : Int) ∧ Aside0 (idxA p (l0.drop i) i = some r) ∧ Aside0 (Below w.heap.size w wr))
 case atStart => exact ⟨0,Nat.zero_le _,by omega,rfl,HH,⟨Below.refl _ _⟩⟩
 case round =>
  clear HH
  obtain ⟨i,hi,hg,rfl,HA,HB⟩ := hrel
  by_cases hlt : i < l0.length
  ·have b2 : decide ((i : Int) < (l0.length : Int)) = true := decide_eq_true (by omega)
   have p0 : (0 : Int) ≤ (i : Int) := by omega
   have p1 : (i : Int) < (l0.length : Int) := by omega
   obtain ⟨ad,rfl,hx0,hx1,hx2⟩ := at_T46 HR0.out (i : Int) p0 p1
   obtain ⟨x,hx,hrest⟩ : ∃ x,rd_T46 l0 (i : Int) = x ∧ l0.drop i = x :: l0.drop (i + 1) := ⟨_,rfl,by
    rw [List.drop_eq_getElem_cons hlt]
    congr 1
    rw [rd_T46,Int.toNat_natCast,List.getD_eq_getElem?_getD,List.getElem?_eq_getElem hlt]
    rfl⟩
   rw [hx,Int.toNat_natCast] at hx0 hx1 hx2
   replace hx0 := (HB.out.cell (World.block_lt_of_cell? _ _ hx0)).trans hx0
   replace hx1 := (HB.out.cell (World.block_lt_of_cell? _ _ hx1)).trans hx1
   replace hx2 := (HB.out.cell (World.block_lt_of_cell? _ _ hx2)).trans hx2
   have hA := HA.out
   rw [hrest] at hA
   obtain ⟨t,ht,hA⟩ := Option.bind_eq_some_iff.1 (show (p x).bind (fun t => if t = true then some (i : Int) else idxA p (l0.drop (i + 1)) (i + 1)) = some r from hA)
   have hcall := HP.out wr x t HB.out ht
   have bw : wrap64 ((i : Int) + 1) = ((i + 1 : Nat) : Int) := by have := HL.out;unfold wrap64;omega
   have HI := Aside0.mk hi
   have HG := Aside0.mk hg
   have HLT := Aside0.mk hlt
   have HT := Aside0.mk hA
   clear hA hrest hx ht hi hg hlt HA HP HL
   cases t with
   | true =>
    go_wp2_with (go_at_fn g;refine hcall.mono ?_;rintro e w' ⟨rfl,hb'⟩)
    go_ret
    have hr := HT.out
    rw [if_pos trivial] at hr
    obtain rfl := Option.some.inj hr
    exact ⟨rfl,hb'⟩
   | false =>
    go_wp2_with (go_at_fn g;refine hcall.mono ?_;rintro e w' ⟨rfl,hb'⟩)
    go_roundg (l0.length - (i + 1))
    case measure => have := HG.out;have := HLT.out;omega
    case rel => exact ⟨i + 1,HLT.out,Nat.le_refl _,by rw [bw],⟨by have hr := HT.out;rw [if_neg (by decide)] at hr;exact hr⟩,⟨hb'⟩⟩
  ·have b2 : decide ((i : Int) < (l0.length : Int)) = false := decide_eq_false (by omega)
   have hA := HA.out
   rw [List.drop_of_length_le (by omega)] at hA
   obtain rfl : (-1 : Int) = r := by simpa [idxA] using hA
   go_wp2
   go_ret
   exact ⟨rfl,HB.out⟩
theorem containsGroup (p : S46 → Option Bool) (g : Nat) (lb : Array Value) (eg : ∀ args w,(callFunc g args).run Tryz.prog w = .ok (.enter g args) w) (w : World) (hp : PredO p g lb w)
  (A0 : Option Addr) (c0 : Nat) (l0 : List S46) (hr0 : Kd.C k46 w A0 l0.length l0) (hl : l0.length < 1000000000000) (t : Bool) (h : anyA p l0 = some t) :
  Calls Tryz.prog 47 #[.slice A0 l0.length c0,.func (.func g) #[] lb] w fun e w' => e = .returned (.bool t) ∧ Below w.heap.size w w' := by
 obtain ⟨r,hr,rfl⟩ := idxA_of_any l0 0 t h
 clear h
 have HI := Aside0.mk (indexGroup p g lb eg w hp A0 c0 l0 hr0 hl r hr)
 clear hr0 hl hr hp
 go_enter Tryz.func47,Tryz.ntmps47
 go_wp2_with (go_at_call 67;refine HI.out.mono ?_;rintro e w' ⟨rfl,hb'⟩)
 go_ret
 exact ⟨rfl,hb'⟩
theorem open11 (k : Nat) (a : S46) (B : Nat) (w : World) (hG : GL w) (h0 : w.cell? ⟨B,0,none⟩ = some (.string a.f0)) (h1 : w.cell? ⟨B,1,none⟩ = some (.int .i64 a.f1)) (h2 : w.cell? ⟨B,2,none⟩ = some (.string a.f2)) :
  PredO (atomProv k a) 103 #[.pointer (some ⟨B,0,none⟩)] w := by
 intro W x t hb ht
 have g0 := (hb.cell (World.block_lt_of_cell? _ _ h0)).trans h0
 have g1 := (hb.cell (World.block_lt_of_cell? _ _ h1)).trans h1
 have g2 := (hb.cell (World.block_lt_of_cell? _ _ h2)).trans h2
 have hBW : B < W.heap.size := World.block_lt_of_cell? _ _ g0
 have hne : B ≠ W.heap.size := by omega
 have HB := Aside0.mk hb
 have HT := Aside0.mk ht
 have HGW := Aside0.mk (hG.below hb)
 clear hb ht h0 h1 h2
 show Calls Tryz.prog 103 #[.agg #[.string x.f0,.int .i64 x.f1,.string x.f2],.pointer (some ⟨B,0,none⟩)] W _
 go_enter Tryz.func103,Tryz.ntmps103
 go_wp2_with (go_at_call 51;refine (relation_Provides.calls k a.f0 a.f1 a.f2 x.f0 x.f1 x.f2 t _ (HGW.out.below ((Below.refl _ W).alloc (Nat.le_refl _) _)) HT.out).mono ?_;rintro e w' ⟨rfl,hb'⟩)
 go_ret
 exact ⟨rfl,(HB.out.alloc HB.out.size _).trans (hb'.mono (by have := HB.out.size;simp;omega))⟩
theorem open1 (k : Nat) (hv : List S46) (A1 : Option Addr) (c1 : Nat) (D : Nat) (w : World) (hG : GL w) (hD : w.cell? ⟨D,0,none⟩ = some (.slice A1 hv.length c1)) (hC : Kd.C k46 w A1 hv.length hv) (hl : hv.length < 1000000000000) :
  PredO (fun a => anyA (atomProv k a) hv) 102 #[.pointer (some ⟨D,0,none⟩)] w := by
 intro W a t hb ht
 have gD := (hb.cell (World.block_lt_of_cell? _ _ hD)).trans hD
 have hDW : D < W.heap.size := World.block_lt_of_cell? _ _ gD
 have hne : D ≠ W.heap.size := by omega
 obtain ⟨W1,hW1⟩ : ∃ W1,W.alloc (.cells #[.string a.f0,.int .i64 a.f1,.string a.f2] 46) = W1 := ⟨_,rfl⟩
 have hb1 : Below W.heap.size W W1 := by rw [← hW1];exact (Below.refl _ W).alloc (Nat.le_refl _) _
 have hnew : W1.heap[W.heap.size]? = some (.cells #[.string a.f0,.int .i64 a.f1,.string a.f2] 46 (0,0)) := by rw [← hW1];exact World.alloc_heap_new W _
 have hcall := containsRow (atomProv k a) 103 #[.pointer (some ⟨W.heap.size,0,none⟩)] (enters_of Tryz.func103 (by kernel_rfl) rfl) W1
  (open11 k a W.heap.size W1 ((hG.below hb).below hb1) (by simp [World.cell?,hnew]) (by simp [World.cell?,hnew]) (by simp [World.cell?,hnew]))
  A1 c1 hv (Kd.C_below (Kd.C_below hC hb) hb1) hl t ht
 rw [← hW1] at hcall hb1
 have HB := Aside0.mk hb
 have HB1 := Aside0.mk hb1
 have HC := Aside0.mk hcall
 clear hb ht hD hC hcall hnew hW1 hb1
 show Calls Tryz.prog 102 #[.agg #[.string a.f0,.int .i64 a.f1,.string a.f2],.pointer (some ⟨D,0,none⟩)] W _
 go_enter Tryz.func102,Tryz.ntmps102
 go_wp2_with (go_at_call 49;refine HC.out.mono ?_;rintro e w' ⟨rfl,hb'⟩)
 go_ret
 exact ⟨rfl,HB.out.trans ((HB1.out.trans (hb'.mono HB1.out.size)).mono HB.out.size)⟩
theorem depends_Open.calls (k : Nat) (A0 : Option Addr) (c0 : Nat) (l0 : List (List (S46))) (A1 : Option Addr) (c1 : Nat) (l1 : List (S46)) (r : List Int) (w : World) (hG : GL w) (hr0 : Kd.C (Kd.slice 46 k46) w A0 l0.length l0) (hc0 : l0.length ≤ c0) (hr1 : Kd.C k46 w A1 l1.length l1) (hc1 : l1.length ≤ c1) (h : depends_Open.f k l0 l1 = some r) :
  Calls Tryz.prog 74 #[.slice A0 l0.length c0,.slice A1 l1.length c1] w fun e w' => ∃ v0_ : Value,e = .returned (v0_) ∧ Kd.R (Kd.int .i64) 3 w' w.heap.size (fun _ => True) v0_ r ∧ Below w.heap.size w w' := by
 unfold depends_Open.f at h
 split at h
 case isFalse => cases h
 case isTrue hlen =>
 obtain ⟨hl0,hl1⟩ := hlen
 obtain ⟨wb,hwb⟩ : ∃ wb,w.alloc (.cells #[.slice A1 l1.length c1] 35) = wb := ⟨_,rfl⟩
 have hbb : Below w.heap.size w wb := by rw [← hwb];exact (Below.refl _ w).alloc (Nat.le_refl _) _
 have hszb : wb.heap.size = w.heap.size + 1 := by rw [← hwb];simp
 have hD : wb.cell? ⟨w.heap.size,0,none⟩ = some (.slice A1 l1.length c1) := by
  have : wb.heap[w.heap.size]? = some (.cells #[.slice A1 l1.length c1] 35 (0,0)) := by rw [← hwb];exact World.alloc_heap_new w _
  simp [World.cell?,this]
 have HC0 := Aside0.mk (Kd.C_below hr0 hbb)
 have HC1 := Aside0.mk (Kd.C_below hr1 hbb)
 have HD := Aside0.mk hD
 have HBB := Aside0.mk hbb
 have HSZ := Aside0.mk hszb
 have HH := Aside0.mk h
 have HL0 := Aside0.mk hl0
 have HL1 := Aside0.mk hl1
 have HGB := Aside0.mk (hG.below hbb)
 have HW := Aside0.mk hwb
 clear hr0 hr1 hc0 hc1 h hD hbb hszb hl0 hl1 hwb
 go_enter Tryz.func74,Tryz.ntmps74
 go_wp2
 rw [HW.out]
 go_loopg [5,11] l0.length (fun gg v5 v11 wr => ∃ (i : Nat) (out : List Int),i ≤ l0.length ∧ l0.length - i ≤ gg ∧ v11 = .int .i64 (i : Int) ∧ Aside0 (out.length ≤ i) ∧ Aside0 (openF k l1 (l0.drop i) (i : Int) out = some r) ∧ Aside0 (Kd.R (Kd.int .i64) 3 wr wb.heap.size (fun _ => True) v5 out) ∧ Aside0 (Below wb.heap.size wb wr))
 case atStart => exact ⟨0,[],Nat.zero_le _,by omega,rfl,⟨Nat.le_refl _⟩,HH,⟨Kd.R_nil _ _ _ _ _⟩,⟨Below.refl _ _⟩⟩
 case round =>
  clear HH
  obtain ⟨i,out,hi,hg,rfl,HO,HA,HR,HBW⟩ := hrel
  by_cases hlt : i < l0.length
  ·have b2 : decide ((i : Int) < (l0.length : Int)) = true := decide_eq_true (by omega)
   obtain ⟨ad,cx,rfl,_,hK,hcx⟩ := Kd.C_get HC0.out ([] : List S46) (i : Int) (by omega) (by omega)
   obtain ⟨Ag,cg,rfl,lg,g0⟩ := hK
   have hx := hcx 0 _ rfl
   rw [show (i : Int).toNat * (Kd.slice 46 k46).sz + 0 = i by simp [Kd.slice]] at hx
   have hx1 := (HBW.out.cell (World.block_lt_of_cell? _ _ hx)).trans hx
   obtain ⟨g,hgl,hrest⟩ : ∃ g,l0.getD (i : Int).toNat ([] : List S46) = g ∧ l0.drop i = g :: l0.drop (i + 1) := ⟨_,rfl,by
    rw [List.drop_eq_getElem_cons hlt]
    congr 1
    rw [Int.toNat_natCast,List.getD_eq_getElem?_getD,List.getElem?_eq_getElem hlt]
    rfl⟩
   rw [hgl] at hx1 g0
   have hA := HA.out
   rw [hrest] at hA
   obtain ⟨t,ht,hA⟩ := Option.bind_eq_some_iff.1 (show (groupMet k l1 g).bind (fun t => if t = true then openF k l1 (l0.drop (i + 1)) ((i : Int) + 1) out else openF k l1 (l0.drop (i + 1)) ((i : Int) + 1) (out ++ [(i : Int)])) = some r from hA)
   unfold groupMet at ht
   split at ht
   case isFalse => cases ht
   case isTrue hgl2 =>
   have p0 : (0 : Int) ≤ (i : Int) := by omega
   have p1 : (i : Int) < (l0.length : Int) := by omega
   have ic : (i : Int) + 1 = ((i + 1 : Nat) : Int) := by omega
   have bw : wrap64 ((i : Int) + 1) = ((i + 1 : Nat) : Int) := by have := HL0.out;unfold wrap64;omega
   rw [ic] at hA
   have hcall := containsGroup (fun a => anyA (atomProv k a) l1) 102 #[.pointer (some ⟨w.heap.size,0,none⟩)] (enters_of Tryz.func102 (by kernel_rfl) rfl) wr
    (open1 k l1 A1 c1 w.heap.size wr (HGB.out.below HBW.out) ((HBW.out.cell (World.block_lt_of_cell? _ _ HD.out)).trans HD.out) (Kd.C_below HC1.out HBW.out) HL1.out) Ag cg g (Kd.C_below g0 HBW.out) hgl2 t ht
   have HCALL := Aside0.mk hcall
   have HT := Aside0.mk hA
   have HLT := Aside0.mk hlt
   have HI := Aside0.mk hi
   have HGG := Aside0.mk hg
   clear hgl hrest hx hcx lg g0 hlt hi hg hcall hA ht hgl2 HA ic
   obtain ⟨Ao,co,hv⟩ := Kd.R_slice HR.out
   subst hv
   cases t with
   | true =>
    go_wp2_with (go_at_call 47;refine HCALL.out.mono ?_;rintro e w' ⟨rfl,hb'⟩;have HB' := Aside0.mk hb';clear hb' HCALL)
    go_roundg (l0.length - (i + 1))
    case measure => have := HGG.out;have := HLT.out;omega
    case rel => exact ⟨i + 1,out,HLT.out,Nat.le_refl _,by rw [bw],⟨Nat.le_succ_of_le HO.out⟩,⟨by have hr := HT.out;rw [if_pos trivial] at hr;exact hr⟩,⟨Kd.R_below HR.out HB'.out⟩,⟨HBW.out.trans (HB'.out.mono HBW.out.size)⟩⟩
   | false =>
    go_wp2_with (first|(go_at_call 47;refine HCALL.out.mono ?_;rintro e w' ⟨rfl,hb'⟩;have HB' := Aside0.mk hb';clear hb' HCALL;have HR2 := Aside0.mk (Kd.R_below HR.out HB'.out);have HB2 := Aside0.mk (HBW.out.trans (HB'.out.mono HBW.out.size)))|(at_builtin;refine Kd.R_append (Kd.int .i64) (w0 := wb) wb.heap.size rfl _ _ 94 3 (.int .i64 0) 8 rfl Tryz.underlying94 info3 rfl (by decide) (by decide) (.slice Ao out.length co) out (i : Int) [.int .i64 (i : Int)] (fun _ => True) (fun _ => False) rfl rfl rfl (fun _ hq => hq.elim) (fun _ _ => trivial) HR2.out HB2.out HB2.out.size (by have := HO.out;have := HL0.out;have := HLT.out;omega) ?_;intro v1 wz hR1 hB1 hg1 hat1;have HR1 := Aside0.mk hR1;have HB1 := Aside0.mk hB1;clear hR1 hB1 hg1 hat1))
    go_roundg (l0.length - (i + 1))
    case measure => have := HGG.out;have := HLT.out;omega
    case rel => exact ⟨i + 1,out ++ [(i : Int)],HLT.out,Nat.le_refl _,by rw [bw],⟨by have := HO.out;simp;omega⟩,⟨by have hr := HT.out;rw [if_neg (by decide)] at hr;exact hr⟩,HR1,HB1⟩
  ·have b2 : decide ((i : Int) < (l0.length : Int)) = false := decide_eq_false (by omega)
   have hA := HA.out
   rw [List.drop_of_length_le (by omega)] at hA
   obtain rfl : out = r := by simpa [openF] using hA
   obtain ⟨Ao,co,hv⟩ := Kd.R_slice HR.out
   subst hv
   go_wp2
   go_ret
   exact ⟨_,rfl,Kd.R_lower HR.out (by have := HSZ.out;omega),HBB.out.trans (HBW.out.mono (by have := HSZ.out;omega))⟩
end
end Go.Proofs.YtiidmjmkgjfaeaaGreatDoor.PA
