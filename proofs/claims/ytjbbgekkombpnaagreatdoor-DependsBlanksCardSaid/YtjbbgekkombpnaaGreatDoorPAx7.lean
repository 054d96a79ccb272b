
import Derived.Test.YtjbbgekkombpnaaGreatDoorPAx0
import Derived.Test.YtjbbgekkombpnaaGreatDoorPAx2
import Derived.Test.YtjbbgekkombpnaaGreatDoorPAx4
import Derived.Test.YtjbbgekkombpnaaGreatDoorPAx6
noncomputable section
namespace Go.Proofs.YtjbbgekkombpnaaGreatDoor.PA
open Go.RowKit Go.Proofs.YtjbbgekkombpnaaGreatDoorW.PrintWords Go.Proofs.YtjbbgekkombpnaaGreatDoorW.PrintLast Go.Proofs.YtjbbgekkombpnaaGreatDoorW.PrintMore
attribute [local go_sem] max2_int min2_int max_two min_two max_three min_three max_four min_four
set_option maxHeartbeats 8000000
set_option maxRecDepth 100000
set_option linter.unusedVariables false
set_option linter.unusedSimpArgs false
def keelsonlaw4_same.l0 : Nat → List (List (S39)) → List (List (S39)) → Int → Option (Bool)
 | 0,_,_,_ => none
 | k + 1,x0,x1,x5 => if x5 < (x0.length : Int) then (if 0 ≤ x5 then (if x5 < (x1.length : Int) then ((keelsonlaw4_sameAtoms.f k (rd_L4 x0 x5) (rd_L4 x1 x5)).bind fun t159 => (if t159 = true then (keelsonlaw4_same.l0 k x0 x1 (wrap64 (x5 + 1))) else (some false))) else (none)) else (none)) else (some true)
def keelsonlaw4_same.f (k : Nat) (l0 : List (List (S39))) (l1 : List (List (S39))) : Option (Bool) := if (l0.length : Int) = (l1.length : Int) then (keelsonlaw4_same.l0 k l0 l1 0) else (some false)
theorem keelsonlaw4_same.mono_l : ∀ k,(∀ y0 y1 y2,LeO (keelsonlaw4_same.l0 k y0 y1 y2) (keelsonlaw4_same.l0 (k + 1) y0 y1 y2))
 | 0 => fun _ _ _ r h => by simp [keelsonlaw4_same.l0] at h
 | k + 1 => by
  have ih0 := keelsonlaw4_same.mono_l k
  ·intro y0 y1 y2
   unfold keelsonlaw4_same.l0
   repeat' first
   | (with_reducible exact ih0 _ _ _)
   | (with_reducible exact keelsonlaw4_sameAtoms.mono _ _ _)
   | (with_reducible exact LeO.refl _)
   | (with_reducible exact LeO.none _)
   | (with_reducible refine LeO.ite ?_ ?_)
   | (with_reducible refine LeO.bind ?_ (fun _ => ?_))
   | exact ih0 _ _ _
   | exact keelsonlaw4_sameAtoms.mono _ _ _
   | exact LeO.none _
   | refine LeO.ite ?_ ?_
   | refine LeO.bind ?_ (fun _ => ?_)
theorem keelsonlaw4_same.mono : ∀ a0 a1 k,LeO (keelsonlaw4_same.f k a0 a1) (keelsonlaw4_same.f (k + 1) a0 a1) := by
 intro a0 a1 k
 have ih0 := keelsonlaw4_same.mono_l k
 unfold keelsonlaw4_same.f
 repeat' first
   | (with_reducible exact ih0 _ _ _)
   | (with_reducible exact keelsonlaw4_sameAtoms.mono _ _ _)
   | (with_reducible exact LeO.refl _)
   | (with_reducible exact LeO.none _)
   | (with_reducible refine LeO.ite ?_ ?_)
   | (with_reducible refine LeO.bind ?_ (fun _ => ?_))
   | exact ih0 _ _ _
   | exact keelsonlaw4_sameAtoms.mono _ _ _
   | exact LeO.none _
   | refine LeO.ite ?_ ?_
   | refine LeO.bind ?_ (fun _ => ?_)
theorem keelsonlaw4_same.calls (k : Nat) (A0 : Option Addr) (c0 : Nat) (l0 : List (List (S39))) (A1 : Option Addr) (c1 : Nat) (l1 : List (List (S39))) (r : Bool) (w : World) (hG : GL w) (hr0 : Kd.C (Kd.slice 39 k39) w A0 l0.length l0) (hc0 : l0.length ≤ c0) (hr1 : Kd.C (Kd.slice 39 k39) w A1 l1.length l1) (hc1 : l1.length ≤ c1) (h : keelsonlaw4_same.f k l0 l1 = some r) :
  Calls Tryz.prog 14 #[.slice A0 l0.length c0,.slice A1 l1.length c1] w fun e w' => e = .returned (.bool r) ∧ Drawn0 w w' := by
 have HR0 := Aside0.mk hr0
 have HC0 := Aside0.mk hc0
 clear hr0 hc0
 have HR1 := Aside0.mk hr1
 have HC1 := Aside0.mk hc1
 clear hr1 hc1
 have H : (if (l0.length : Int) = (l1.length : Int) then (keelsonlaw4_same.l0 k l0 l1 0) else (some false)) = some r := h
 clear h
 by_cases c3 : (l0.length : Int) = (l1.length : Int)
 ·rw [if_pos c3] at H
  have c3b0 : ((l0.length : Int) == (l1.length : Int)) = true := beq_iff_eq.mpr c3
  have c3b1 : ((l0.length : Int) != (l1.length : Int)) = false := bne_eq_false_iff_eq.mpr c3
  have c3b2 : (l0.length == l1.length) = true := by first|simpa using c3|(simp at c3 ⊢;omega)
  clear c3
  have H' := Aside0.mk H
  clear H
  go_enter Tryz.func14,Tryz.ntmps14
  go_wp2
  repeat (go_quiet (fail);try go_wp2)
  go_loopg [5] k (fun kq v5 w' => ∃ (x5_1 : Int),v5 = .int .i64 x5_1 ∧ Aside0 (keelsonlaw4_same.l0 kq l0 l1 x5_1 = some r) ∧ Aside0 (kq ≤ k) ∧ Drawn0 w w')
  case atStart => exact ⟨(0),(by first|rfl|(simp;done)|(simp [*];done)|(simp [qaj];done)),H',⟨Nat.le_refl _⟩,by repeat (first|exact Drawn0.refl _|apply Drawn0.step)⟩
  case round =>
   clear H'
   try clear c1
   try clear p2
   try clear c3
   try clear c3b0
   try clear c3b1
   try clear c3b2
   obtain ⟨x5_1,rfl,HA,HK1,⟨m1,rfl⟩⟩ := hrel
   cases gk with
   | zero => exact absurd HA.out (by simp [keelsonlaw4_same.l0])
   | succ k1 =>
    have H := HA.out
    clear HA
    simp only [keelsonlaw4_same.l0] at H
    by_cases c4 : x5_1 < (l0.length : Int)
    ·rw [if_pos c4] at H
     have c4b0 : decide (x5_1 < (l0.length : Int)) = true := decide_eq_true c4
     clear c4
     by_cases c5 : 0 ≤ x5_1
     ·rw [if_pos c5] at H
      have c5b0 : decide (0 ≤ x5_1) = true := decide_eq_true c5
      clear c5
      by_cases c6 : x5_1 < (l1.length : Int)
      ·rw [if_pos c6] at H
       have c6b0 : decide (x5_1 < (l1.length : Int)) = true := decide_eq_true c6
       clear c6
       replace H := Option.bind_eq_some_iff.mp H
       obtain ⟨t159,A70,H⟩ := H
       replace H : (if t159 = true then (keelsonlaw4_same.l0 k1 l0 l1 (wrap64 (x5_1 + 1))) else (some false)) = some r := H
       have A7 := Aside0.mk A70
       clear A70
       by_cases c8 : t159 = true
       ·subst c8
        have H1 : (keelsonlaw4_same.l0 k1 l0 l1 (wrap64 (x5_1 + 1))) = some r := by rw [if_pos rfl] at H;exact H
        clear H
        have H := H1
        clear H1
        have H' := Aside0.mk H
        clear H
        have p157 : 0 ≤ (x5_1 : Int) := of_decide_eq_true (by assumption)
        have q157 : x5_1 < (l0.length : Int) := of_decide_eq_true (by assumption)
        obtain ⟨ad157,A157_0,c157_0,e157,hx157_0,hl157_0,hi157_0⟩ := at_L4 HR0.out x5_1 p157 q157
        cases e157
        have HR157_0 := Aside0.mk hi157_0
        have HC157_0 := Aside0.mk hl157_0
        clear hi157_0 hl157_0
        replace p157 := eq_true p157
        replace q157 := eq_true q157
        have p158 : 0 ≤ (x5_1 : Int) := of_decide_eq_true (by assumption)
        have q158 : x5_1 < (l1.length : Int) := of_decide_eq_true (by assumption)
        obtain ⟨ad158,A158_0,c158_0,e158,hx158_0,hl158_0,hi158_0⟩ := at_L4 HR1.out x5_1 p158 q158
        cases e158
        have HR158_0 := Aside0.mk hi158_0
        have HC158_0 := Aside0.mk hl158_0
        clear hi158_0 hl158_0
        replace p158 := eq_true p158
        replace q158 := eq_true q158
        go_wp2_with (first|(go_at_call 15;(with_reducible refine (keelsonlaw4_sameAtoms.calls k1 _ _ (rd_L4 l0 x5_1) _ _ (rd_L4 l1 x5_1) true _ (by first|exact hG|(repeat (first|exact hG|apply GL.drewN|apply GL.drew)))  ?side1 ?side2 ?side3 ?side4 A7.out).mono ?_);(case side1 => repeat (first|exact HR157_0.out|(with_reducible refine Kd.C_alloc ?_ _)|(with_reducible refine Kd.C_drewN ?_ _)|(with_reducible refine Kd.C_drew ?_)));(case side2 => exact HC157_0.out);(case side3 => repeat (first|exact HR158_0.out|(with_reducible refine Kd.C_alloc ?_ _)|(with_reducible refine Kd.C_drewN ?_ _)|(with_reducible refine Kd.C_drew ?_)));(case side4 => exact HC158_0.out);rintro e w' ⟨rfl,⟨nd,rfl⟩⟩;(try first|exact ⟨rfl,_,World.drewN_drewN _ _ _⟩|exact ⟨rfl,_,Eq.trans (World.drewN_drewN _ _ _) (congrArg (World.drewN _) (Nat.add_assoc _ _ _))⟩)))
        repeat (go_quiet (first|(go_at_call 15;(with_reducible refine (keelsonlaw4_sameAtoms.calls k1 _ _ (rd_L4 l0 x5_1) _ _ (rd_L4 l1 x5_1) true _ (by first|exact hG|(repeat (first|exact hG|apply GL.drewN|apply GL.drew)))  ?side1 ?side2 ?side3 ?side4 A7.out).mono ?_);(case side1 => repeat (first|exact HR157_0.out|(with_reducible refine Kd.C_alloc ?_ _)|(with_reducible refine Kd.C_drewN ?_ _)|(with_reducible refine Kd.C_drew ?_)));(case side2 => exact HC157_0.out);(case side3 => repeat (first|exact HR158_0.out|(with_reducible refine Kd.C_alloc ?_ _)|(with_reducible refine Kd.C_drewN ?_ _)|(with_reducible refine Kd.C_drew ?_)));(case side4 => exact HC158_0.out);rintro e w' ⟨rfl,⟨nd,rfl⟩⟩;(try first|exact ⟨rfl,_,World.drewN_drewN _ _ _⟩|exact ⟨rfl,_,Eq.trans (World.drewN_drewN _ _ _) (congrArg (World.drewN _) (Nat.add_assoc _ _ _))⟩)));try go_wp2_with (first|(go_at_call 15;(with_reducible refine (keelsonlaw4_sameAtoms.calls k1 _ _ (rd_L4 l0 x5_1) _ _ (rd_L4 l1 x5_1) true _ (by first|exact hG|(repeat (first|exact hG|apply GL.drewN|apply GL.drew)))  ?side1 ?side2 ?side3 ?side4 A7.out).mono ?_);(case side1 => repeat (first|exact HR157_0.out|(with_reducible refine Kd.C_alloc ?_ _)|(with_reducible refine Kd.C_drewN ?_ _)|(with_reducible refine Kd.C_drew ?_)));(case side2 => exact HC157_0.out);(case side3 => repeat (first|exact HR158_0.out|(with_reducible refine Kd.C_alloc ?_ _)|(with_reducible refine Kd.C_drewN ?_ _)|(with_reducible refine Kd.C_drew ?_)));(case side4 => exact HC158_0.out);rintro e w' ⟨rfl,⟨nd,rfl⟩⟩;(try first|exact ⟨rfl,_,World.drewN_drewN _ _ _⟩|exact ⟨rfl,_,Eq.trans (World.drewN_drewN _ _ _) (congrArg (World.drewN _) (Nat.add_assoc _ _ _))⟩))))
        go_roundg k1
        case measure => have := HK1.out;omega
        case rel => exact ⟨(wrap64 (x5_1 + 1)),(by first|rfl|(simp;done)|(simp [*];done)|(simp [qaj];done)),H',⟨by have := HK1.out;omega⟩,by repeat (first|exact Drawn0.refl _|apply Drawn0.step)⟩
       ·replace c8 := Bool.eq_false_iff.mpr c8
        subst c8
        have H1 : (some false) = some r := by rw [if_neg (show ¬ (false = true) by decide)] at H;exact H
        clear H
        have H := H1
        clear H1
        obtain rfl := Option.some.inj H
        have p157 : 0 ≤ (x5_1 : Int) := of_decide_eq_true (by assumption)
        have q157 : x5_1 < (l0.length : Int) := of_decide_eq_true (by assumption)
        obtain ⟨ad157,A157_0,c157_0,e157,hx157_0,hl157_0,hi157_0⟩ := at_L4 HR0.out x5_1 p157 q157
        cases e157
        have HR157_0 := Aside0.mk hi157_0
        have HC157_0 := Aside0.mk hl157_0
        clear hi157_0 hl157_0
        replace p157 := eq_true p157
        replace q157 := eq_true q157
        have p158 : 0 ≤ (x5_1 : Int) := of_decide_eq_true (by assumption)
        have q158 : x5_1 < (l1.length : Int) := of_decide_eq_true (by assumption)
        obtain ⟨ad158,A158_0,c158_0,e158,hx158_0,hl158_0,hi158_0⟩ := at_L4 HR1.out x5_1 p158 q158
        cases e158
        have HR158_0 := Aside0.mk hi158_0
        have HC158_0 := Aside0.mk hl158_0
        clear hi158_0 hl158_0
        replace p158 := eq_true p158
        replace q158 := eq_true q158
        go_wp2_with (first|(go_at_call 15;(with_reducible refine (keelsonlaw4_sameAtoms.calls k1 _ _ (rd_L4 l0 x5_1) _ _ (rd_L4 l1 x5_1) false _ (by first|exact hG|(repeat (first|exact hG|apply GL.drewN|apply GL.drew)))  ?side1 ?side2 ?side3 ?side4 A7.out).mono ?_);(case side1 => repeat (first|exact HR157_0.out|(with_reducible refine Kd.C_alloc ?_ _)|(with_reducible refine Kd.C_drewN ?_ _)|(with_reducible refine Kd.C_drew ?_)));(case side2 => exact HC157_0.out);(case side3 => repeat (first|exact HR158_0.out|(with_reducible refine Kd.C_alloc ?_ _)|(with_reducible refine Kd.C_drewN ?_ _)|(with_reducible refine Kd.C_drew ?_)));(case side4 => exact HC158_0.out);rintro e w' ⟨rfl,⟨nd,rfl⟩⟩;(try first|exact ⟨rfl,_,World.drewN_drewN _ _ _⟩|exact ⟨rfl,_,Eq.trans (World.drewN_drewN _ _ _) (congrArg (World.drewN _) (Nat.add_assoc _ _ _))⟩)))
        repeat (go_quiet (first|(go_at_call 15;(with_reducible refine (keelsonlaw4_sameAtoms.calls k1 _ _ (rd_L4 l0 x5_1) _ _ (rd_L4 l1 x5_1) false _ (by first|exact hG|(repeat (first|exact hG|apply GL.drewN|apply GL.drew)))  ?side1 ?side2 ?side3 ?side4 A7.out).mono ?_);(case side1 => repeat (first|exact HR157_0.out|(with_reducible refine Kd.C_alloc ?_ _)|(with_reducible refine Kd.C_drewN ?_ _)|(with_reducible refine Kd.C_drew ?_)));(case side2 => exact HC157_0.out);(case side3 => repeat (first|exact HR158_0.out|(with_reducible refine Kd.C_alloc ?_ _)|(with_reducible refine Kd.C_drewN ?_ _)|(with_reducible refine Kd.C_drew ?_)));(case side4 => exact HC158_0.out);rintro e w' ⟨rfl,⟨nd,rfl⟩⟩;(try first|exact ⟨rfl,_,World.drewN_drewN _ _ _⟩|exact ⟨rfl,_,Eq.trans (World.drewN_drewN _ _ _) (congrArg (World.drewN _) (Nat.add_assoc _ _ _))⟩)));try go_wp2_with (first|(go_at_call 15;(with_reducible refine (keelsonlaw4_sameAtoms.calls k1 _ _ (rd_L4 l0 x5_1) _ _ (rd_L4 l1 x5_1) false _ (by first|exact hG|(repeat (first|exact hG|apply GL.drewN|apply GL.drew)))  ?side1 ?side2 ?side3 ?side4 A7.out).mono ?_);(case side1 => repeat (first|exact HR157_0.out|(with_reducible refine Kd.C_alloc ?_ _)|(with_reducible refine Kd.C_drewN ?_ _)|(with_reducible refine Kd.C_drew ?_)));(case side2 => exact HC157_0.out);(case side3 => repeat (first|exact HR158_0.out|(with_reducible refine Kd.C_alloc ?_ _)|(with_reducible refine Kd.C_drewN ?_ _)|(with_reducible refine Kd.C_drew ?_)));(case side4 => exact HC158_0.out);rintro e w' ⟨rfl,⟨nd,rfl⟩⟩;(try first|exact ⟨rfl,_,World.drewN_drewN _ _ _⟩|exact ⟨rfl,_,Eq.trans (World.drewN_drewN _ _ _) (congrArg (World.drewN _) (Nat.add_assoc _ _ _))⟩))))
        go_ret
        exact ⟨by first|rfl|(simp;done)|(simp [*];done)|(simp [qaj];done),by repeat (first|exact Drawn0.refl _|apply Drawn0.step)⟩
      ·rw [if_neg c6] at H
       exact absurd H (by simp)
     ·rw [if_neg c5] at H
      exact absurd H (by simp)
    ·rw [if_neg c4] at H
     have c4b0 : decide (x5_1 < (l0.length : Int)) = false := decide_eq_false c4
     clear c4
     obtain rfl := Option.some.inj H
     go_wp2
     repeat (go_quiet (fail);try go_wp2)
     go_ret
     exact ⟨by first|rfl|(simp;done)|(simp [*];done)|(simp [qaj];done),by repeat (first|exact Drawn0.refl _|apply Drawn0.step)⟩
 ·rw [if_neg c3] at H
  have c3b0 : ((l0.length : Int) == (l1.length : Int)) = false := beq_eq_false_iff_ne.mpr c3
  have c3b1 : ((l0.length : Int) != (l1.length : Int)) = true := bne_iff_ne.mpr c3
  have c3b2 : (l0.length == l1.length) = false := by first|simpa using c3|(simp at c3 ⊢;omega)
  obtain rfl := Option.some.inj H
  go_enter Tryz.func14,Tryz.ntmps14
  go_wp2
  repeat (go_quiet (fail);try go_wp2)
  go_ret
  exact ⟨by first|rfl|(simp;done)|(simp [*];done)|(simp [qaj];done),by repeat (first|exact Drawn0.refl _|apply Drawn0.step)⟩
def relation_Right.j0 : Nat → Bool → ByteArray → Int → ByteArray → Option (Bool)
 | 0,_,_,_,_ => none
 | k + 1,x3,x161000,x161001,x161002 => if x3 = true then (some false) else (if x161001 = 0 then (some (x161002.toList == ([] : List UInt8))) else ((relation_plain.f k x161002).bind fun t162 => (some t162)))
def relation_Right.f (k : Nat) (a0_0 : ByteArray) (a0_1 : Int) (a0_2 : ByteArray) : Option (Bool) := (relation_Name.f k a0_0).bind fun t161 => (if t161 = true then (if a0_1 < 0 then (relation_Right.j0 k true a0_0 a0_1 a0_2) else (relation_Right.j0 k (decide (a0_1 > 5)) a0_0 a0_1 a0_2)) else (relation_Right.j0 k true a0_0 a0_1 a0_2))
theorem relation_Right.mono_l : ∀ k,(∀ y0 y1 y2 y3,LeO (relation_Right.j0 k y0 y1 y2 y3) (relation_Right.j0 (k + 1) y0 y1 y2 y3))
 | 0 => fun _ _ _ _ r h => by simp [relation_Right.j0] at h
 | k + 1 => by
  have ih0 := relation_Right.mono_l k
  ·intro y0 y1 y2 y3
   unfold relation_Right.j0
   repeat' first
   | (with_reducible exact ih0 _ _ _ _)
   | (with_reducible exact relation_Name.mono _ _)
   | (with_reducible exact relation_plain.mono _ _)
   | (with_reducible exact LeO.refl _)
   | (with_reducible exact LeO.none _)
   | (with_reducible refine LeO.ite ?_ ?_)
   | (with_reducible refine LeO.bind ?_ (fun _ => ?_))
   | exact ih0 _ _ _ _
   | exact relation_Name.mono _ _
   | exact relation_plain.mono _ _
   | exact LeO.none _
   | refine LeO.ite ?_ ?_
   | refine LeO.bind ?_ (fun _ => ?_)
theorem relation_Right.mono : ∀ a0 a1 a2 k,LeO (relation_Right.f k a0 a1 a2) (relation_Right.f (k + 1) a0 a1 a2) := by
 intro a0 a1 a2 k
 have ih0 := relation_Right.mono_l k
 unfold relation_Right.f
 repeat' first
   | (with_reducible exact ih0 _ _ _ _)
   | (with_reducible exact relation_Name.mono _ _)
   | (with_reducible exact relation_plain.mono _ _)
   | (with_reducible exact LeO.refl _)
   | (with_reducible exact LeO.none _)
   | (with_reducible refine LeO.ite ?_ ?_)
   | (with_reducible refine LeO.bind ?_ (fun _ => ?_))
   | exact ih0 _ _ _ _
   | exact relation_Name.mono _ _
   | exact relation_plain.mono _ _
   | exact LeO.none _
   | refine LeO.ite ?_ ?_
   | refine LeO.bind ?_ (fun _ => ?_)
theorem relation_Right.calls (k : Nat) (a0_0 : ByteArray) (a0_1 : Int) (a0_2 : ByteArray) (r : Bool) (w : World) (hG : GL w) (h : relation_Right.f k a0_0 a0_1 a0_2 = some r) :
  Calls Tryz.prog 39 #[.agg #[.string a0_0,.int .i64 a0_1,.string a0_2]] w fun e w' => e = .returned (.bool r) ∧ Below w.heap.size w w' := by
 have hu39 := Tryz.underlying39
 have HB := Aside0.mk (Below.refl w.heap.size w)
 have H : ((relation_Name.f k a0_0).bind fun t161 => (if t161 = true then (if a0_1 < 0 then (relation_Right.j0 k true a0_0 a0_1 a0_2) else (relation_Right.j0 k (decide (a0_1 > 5)) a0_0 a0_1 a0_2)) else (relation_Right.j0 k true a0_0 a0_1 a0_2))) = some r := h
 clear h
 have HC2 := Aside0.mk H
 clear H
 go_enter Tryz.func39,Tryz.ntmps39
 go_upto_region 1 with (first|((with_reducible refine gate_dst (N := 1) rfl ?_);refine box_event ?hg (N := 1) ?hd (cs := #[.string a0_0,.int .i64 a0_1,.string a0_2]) (t := 39) ?hr ?_;(case hd => rfl);(case hg => rfl);(case hr => first|(go_simp;done)|(go_simp;rfl));intro gb160 hg w3 hbox hb;have n0_ := Aside0.mk (qan (by repeat (with_reducible first|exact HB.out|apply qab|apply qaa|apply qac)) hb);have n1_ := Aside0.mk (hbox);have n2_ := Aside0.mk ((by rw [hg];exact (qao (by repeat (with_reducible first|exact HB.out|apply qab|apply qaa|apply qac))) : w.heap.size ≤ gb160));have n3_ := Aside0.mk ((by rw [hg];exact (qao (by repeat (with_reducible first|exact HB.out|apply qab|apply qaa|apply qac))) : w.heap.size ≤ gb160));clear HB;have HB := n0_;have BK160 := n1_;have GW160 := n2_;have GE160 := n3_;clear n0_ n1_ n2_ n3_;clear hb hbox hg))
 (try simp only [Act.put,List.setIfInBounds_toArray,List.set_cons_zero,List.set_cons_succ])
 go_cut [3] (fun v3 wc => ∃ (kq : Nat) (x3_1 : Bool),v3 = .bool x3_1 ∧ Aside0 (relation_Right.j0 kq x3_1 a0_0 a0_1 a0_2 = some r) ∧ Aside0 (kq ≤ k) ∧ Aside0 (wc.heap[gb160]? = some (.cells #[.string a0_0,.int .i64 a0_1,.string a0_2] 39 (0,0))) ∧ Aside0 (Below w.heap.size w wc))
 case first =>
  have H := HC2.out
  clear HC2
  replace H := Option.bind_eq_some_iff.mp H
  obtain ⟨t161,A40,H⟩ := H
  replace H : (if t161 = true then (if a0_1 < 0 then (relation_Right.j0 k true a0_0 a0_1 a0_2) else (relation_Right.j0 k (decide (a0_1 > 5)) a0_0 a0_1 a0_2)) else (relation_Right.j0 k true a0_0 a0_1 a0_2)) = some r := H
  have A4 := Aside0.mk A40
  clear A40
  by_cases c5 : t161 = true
  ·subst c5
   have H1 : (if a0_1 < 0 then (relation_Right.j0 k true a0_0 a0_1 a0_2) else (relation_Right.j0 k (decide (a0_1 > 5)) a0_0 a0_1 a0_2)) = some r := by rw [if_pos rfl] at H;exact H
   clear H
   have H := H1
   clear H1
   by_cases c6 : a0_1 < 0
   ·rw [if_pos c6] at H
    have c6b0 : decide (a0_1 < 0) = true := decide_eq_true c6
    clear c6
    (first|rw [c6b0]|(simp only [i64_w,i32_w];rw [c6b0]) | skip)
    have H' := Aside0.mk H
    clear H
    have hcz7_0 : w3.cell? ⟨gb160,0,none⟩ = some (.string a0_0) := (qaf BK160.out 0).trans rfl
    have hcz7_1 : w3.cell? ⟨gb160,1,none⟩ = some (.int .i64 a0_1) := (qaf BK160.out 1).trans rfl
    have hcz7_2 : w3.cell? ⟨gb160,2,none⟩ = some (.string a0_2) := (qaf BK160.out 2).trans rfl
    have hfz7_0 := qad BK160.out 0
    have hfz7_1 := qad BK160.out 1
    have hfz7_2 := qad BK160.out 2
    go_wp2_with (first|((with_reducible refine qam (f := 57) rfl ?_);refine goesL_ (some 6) rfl rfl Tryz.func57 (by kernel_rfl) rfl #[.string a0_0] rfl (by first|rfl|(simp only [List.map_toArray,List.map_cons,List.map_nil,List.length_drop,List.length_take];rfl)|simp only [List.map_toArray,List.map_cons,List.map_nil]) ?_;(with_reducible refine (relation_Name.calls k a0_0 true _ (by first|exact hG|exact GL.below hG (by repeat (first|(with_reducible first|exact HB.out|apply qab|apply qaa|apply qac|refine qae ?_ GE160.out)|exact HB.out)))  A4.out).mono ?_);rintro e w8 ⟨rfl,hb⟩;refine ⟨_,rfl,?_⟩;have n0_ := Aside0.mk (qap (g := gb160) (o := .cells #[.string a0_0,.int .i64 a0_1,.string a0_2] 39 (0,0)) (by (with_reducible repeat (first|refine qah ?_ _|refine qai ?_|refine qag ?_ _));exact BK160.out) hb);have n1_ := Aside0.mk (qan (by repeat (first|(with_reducible first|exact HB.out|apply qab|apply qaa|apply qac|refine qae ?_ GE160.out)|exact HB.out)) hb);clear BK160;clear HB;have BK160 := n0_;have HB := n1_;clear n0_ n1_;(try clear hb);(try clear hb2);(try clear hk);(try clear hi);have hcz9_0 : w8.cell? ⟨gb160,0,none⟩ = some (.string a0_0) := (qaf BK160.out 0).trans rfl;have hcz9_1 : w8.cell? ⟨gb160,1,none⟩ = some (.int .i64 a0_1) := (qaf BK160.out 1).trans rfl;have hcz9_2 : w8.cell? ⟨gb160,2,none⟩ = some (.string a0_2) := (qaf BK160.out 2).trans rfl;have hfz9_0 := qad BK160.out 0;have hfz9_1 := qad BK160.out 1;have hfz9_2 := qad BK160.out 2))
    go_meet
    case rel => exact ⟨_,(true),(by first|rfl|(simp;done)|(simp [*];done)|(simp [qaj];done)),H',⟨by first|omega|exact Nat.le_refl _⟩,⟨by (with_reducible repeat (first|refine qah ?_ _|refine qai ?_|refine qag ?_ _));exact BK160.out⟩,⟨by repeat (first|(with_reducible first|exact HB.out|apply qab|apply qaa|apply qac|refine qae ?_ GE160.out)|exact HB.out)⟩⟩
   ·rw [if_neg c6] at H
    have c6b0 : decide (a0_1 < 0) = false := decide_eq_false c6
    clear c6
    (first|rw [c6b0]|(simp only [i64_w,i32_w];rw [c6b0]) | skip)
    have H' := Aside0.mk H
    clear H
    have hcz10_0 : w3.cell? ⟨gb160,0,none⟩ = some (.string a0_0) := (qaf BK160.out 0).trans rfl
    have hcz10_1 : w3.cell? ⟨gb160,1,none⟩ = some (.int .i64 a0_1) := (qaf BK160.out 1).trans rfl
    have hcz10_2 : w3.cell? ⟨gb160,2,none⟩ = some (.string a0_2) := (qaf BK160.out 2).trans rfl
    have hfz10_0 := qad BK160.out 0
    have hfz10_1 := qad BK160.out 1
    have hfz10_2 := qad BK160.out 2
    go_wp2_with (first|((with_reducible refine qam (f := 57) rfl ?_);refine goesL_ (some 6) rfl rfl Tryz.func57 (by kernel_rfl) rfl #[.string a0_0] rfl (by first|rfl|(simp only [List.map_toArray,List.map_cons,List.map_nil,List.length_drop,List.length_take];rfl)|simp only [List.map_toArray,List.map_cons,List.map_nil]) ?_;(with_reducible refine (relation_Name.calls k a0_0 true _ (by first|exact hG|exact GL.below hG (by repeat (first|(with_reducible first|exact HB.out|apply qab|apply qaa|apply qac|refine qae ?_ GE160.out)|exact HB.out)))  A4.out).mono ?_);rintro e w11 ⟨rfl,hb⟩;refine ⟨_,rfl,?_⟩;have n0_ := Aside0.mk (qap (g := gb160) (o := .cells #[.string a0_0,.int .i64 a0_1,.string a0_2] 39 (0,0)) (by (with_reducible repeat (first|refine qah ?_ _|refine qai ?_|refine qag ?_ _));exact BK160.out) hb);have n1_ := Aside0.mk (qan (by repeat (first|(with_reducible first|exact HB.out|apply qab|apply qaa|apply qac|refine qae ?_ GE160.out)|exact HB.out)) hb);clear BK160;clear HB;have BK160 := n0_;have HB := n1_;clear n0_ n1_;(try clear hb);(try clear hb2);(try clear hk);(try clear hi);have hcz12_0 : w11.cell? ⟨gb160,0,none⟩ = some (.string a0_0) := (qaf BK160.out 0).trans rfl;have hcz12_1 : w11.cell? ⟨gb160,1,none⟩ = some (.int .i64 a0_1) := (qaf BK160.out 1).trans rfl;have hcz12_2 : w11.cell? ⟨gb160,2,none⟩ = some (.string a0_2) := (qaf BK160.out 2).trans rfl;have hfz12_0 := qad BK160.out 0;have hfz12_1 := qad BK160.out 1;have hfz12_2 := qad BK160.out 2))
    go_meet
    case rel => exact ⟨_,(decide (a0_1 > 5)),(by first|rfl|(simp;done)|(simp [*];done)|(simp [qaj];done)),H',⟨by first|omega|exact Nat.le_refl _⟩,⟨by (with_reducible repeat (first|refine qah ?_ _|refine qai ?_|refine qag ?_ _));exact BK160.out⟩,⟨by repeat (first|(with_reducible first|exact HB.out|apply qab|apply qaa|apply qac|refine qae ?_ GE160.out)|exact HB.out)⟩⟩
  ·replace c5 := Bool.eq_false_iff.mpr c5
   subst c5
   have H1 : (relation_Right.j0 k true a0_0 a0_1 a0_2) = some r := by rw [if_neg (show ¬ (false = true) by decide)] at H;exact H
   clear H
   have H := H1
   clear H1
   have H' := Aside0.mk H
   clear H
   have hcz13_0 : w3.cell? ⟨gb160,0,none⟩ = some (.string a0_0) := (qaf BK160.out 0).trans rfl
   have hcz13_1 : w3.cell? ⟨gb160,1,none⟩ = some (.int .i64 a0_1) := (qaf BK160.out 1).trans rfl
   have hcz13_2 : w3.cell? ⟨gb160,2,none⟩ = some (.string a0_2) := (qaf BK160.out 2).trans rfl
   have hfz13_0 := qad BK160.out 0
   have hfz13_1 := qad BK160.out 1
   have hfz13_2 := qad BK160.out 2
   go_wp2_with (first|((with_reducible refine qam (f := 57) rfl ?_);refine goesL_ (some 6) rfl rfl Tryz.func57 (by kernel_rfl) rfl #[.string a0_0] rfl (by first|rfl|(simp only [List.map_toArray,List.map_cons,List.map_nil,List.length_drop,List.length_take];rfl)|simp only [List.map_toArray,List.map_cons,List.map_nil]) ?_;(with_reducible refine (relation_Name.calls k a0_0 false _ (by first|exact hG|exact GL.below hG (by repeat (first|(with_reducible first|exact HB.out|apply qab|apply qaa|apply qac|refine qae ?_ GE160.out)|exact HB.out)))  A4.out).mono ?_);rintro e w14 ⟨rfl,hb⟩;refine ⟨_,rfl,?_⟩;have n0_ := Aside0.mk (qap (g := gb160) (o := .cells #[.string a0_0,.int .i64 a0_1,.string a0_2] 39 (0,0)) (by (with_reducible repeat (first|refine qah ?_ _|refine qai ?_|refine qag ?_ _));exact BK160.out) hb);have n1_ := Aside0.mk (qan (by repeat (first|(with_reducible first|exact HB.out|apply qab|apply qaa|apply qac|refine qae ?_ GE160.out)|exact HB.out)) hb);clear BK160;clear HB;have BK160 := n0_;have HB := n1_;clear n0_ n1_;(try clear hb);(try clear hb2);(try clear hk);(try clear hi)))
   go_meet
   case rel => exact ⟨_,(true),(by first|rfl|(simp;done)|(simp [*];done)|(simp [qaj];done)),H',⟨by first|omega|exact Nat.le_refl _⟩,⟨by (with_reducible repeat (first|refine qah ?_ _|refine qai ?_|refine qag ?_ _));exact BK160.out⟩,⟨by repeat (first|(with_reducible first|exact HB.out|apply qab|apply qaa|apply qac|refine qae ?_ GE160.out)|exact HB.out)⟩⟩
 case rest =>
  clear HC2
  try clear p2
  try clear c3
  try clear c5
  try clear c6
  try clear c6b0
  try clear hcz10_0
  try clear hcz10_1
  try clear hcz10_2
  try clear hcz12_0
  try clear hcz12_1
  try clear hcz12_2
  try clear hcz13_0
  try clear hcz13_1
  try clear hcz13_2
  try clear hcz7_0
  try clear hcz7_1
  try clear hcz7_2
  try clear hcz9_0
  try clear hcz9_1
  try clear hcz9_2
  try clear hfz10_0
  try clear hfz10_1
  try clear hfz10_2
  try clear hfz12_0
  try clear hfz12_1
  try clear hfz12_2
  try clear hfz13_0
  try clear hfz13_1
  try clear hfz13_2
  try clear hfz7_0
  try clear hfz7_1
  try clear hfz7_2
  try clear hfz9_0
  try clear hfz9_1
  try clear hfz9_2
  obtain ⟨kq,x3_1,rfl,HA,HJ1,BK160,HB⟩ := hcut
  cases kq with
  | zero => exact absurd HA.out (by simp [relation_Right.j0])
  | succ kj1 =>
   have H := HA.out
   clear HA
   simp only [relation_Right.j0] at H
   by_cases c15 : x3_1 = true
   ·subst c15
    have H1 : (some false) = some r := by rw [if_pos rfl] at H;exact H
    clear H
    have H := H1
    clear H1
    obtain rfl := Option.some.inj H
    go_wp2
    go_ret
    exact ⟨by first|rfl|(simp [qak,qal]<;>rfl)|(simp [*,qak,qal]<;>rfl),by repeat (first|(with_reducible first|exact HB.out|apply qab|apply qaa|apply qac|refine qae ?_ GE160.out)|exact HB.out)⟩
   ·replace c15 := Bool.eq_false_iff.mpr c15
    subst c15
    have H1 : (if a0_1 = 0 then (some (a0_2.toList == ([] : List UInt8))) else ((relation_plain.f kj1 a0_2).bind fun t162 => (some t162))) = some r := by rw [if_neg (show ¬ (false = true) by decide)] at H;exact H
    clear H
    have H := H1
    clear H1
    by_cases c16 : a0_1 = 0
    ·rw [if_pos c16] at H
     have c16b0 : (a0_1 == 0) = true := beq_iff_eq.mpr c16
     have c16b1 : (a0_1 != 0) = false := bne_eq_false_iff_eq.mpr c16
     clear c16
     obtain rfl := Option.some.inj H
     have hcz17_0 : wc.cell? ⟨gb160,0,none⟩ = some (.string a0_0) := (qaf BK160.out 0).trans rfl
     have hcz17_1 : wc.cell? ⟨gb160,1,none⟩ = some (.int .i64 a0_1) := (qaf BK160.out 1).trans rfl
     have hcz17_2 : wc.cell? ⟨gb160,2,none⟩ = some (.string a0_2) := (qaf BK160.out 2).trans rfl
     have hfz17_0 := qad BK160.out 0
     have hfz17_1 := qad BK160.out 1
     have hfz17_2 := qad BK160.out 2
     go_wp2
     go_ret
     exact ⟨by first|rfl|(simp [qak,qal]<;>rfl)|(simp [*,qak,qal]<;>rfl),by repeat (first|(with_reducible first|exact HB.out|apply qab|apply qaa|apply qac|refine qae ?_ GE160.out)|exact HB.out)⟩
    ·rw [if_neg c16] at H
     have c16b0 : (a0_1 == 0) = false := beq_eq_false_iff_ne.mpr c16
     have c16b1 : (a0_1 != 0) = true := bne_iff_ne.mpr c16
     replace H := Option.bind_eq_some_iff.mp H
     obtain ⟨t162,A180,H⟩ := H
     replace H : (some t162) = some r := H
     have A18 := Aside0.mk A180
     clear A180
     obtain rfl := Option.some.inj H
     have hcz19_0 : wc.cell? ⟨gb160,0,none⟩ = some (.string a0_0) := (qaf BK160.out 0).trans rfl
     have hcz19_1 : wc.cell? ⟨gb160,1,none⟩ = some (.int .i64 a0_1) := (qaf BK160.out 1).trans rfl
     have hcz19_2 : wc.cell? ⟨gb160,2,none⟩ = some (.string a0_2) := (qaf BK160.out 2).trans rfl
     have hfz19_0 := qad BK160.out 0
     have hfz19_1 := qad BK160.out 1
     have hfz19_2 := qad BK160.out 2
     go_wp2_with (first|((with_reducible refine qam (f := 61) rfl ?_);refine goesL_ (some 27) rfl rfl Tryz.func61 (by kernel_rfl) rfl #[.string a0_2] rfl (by first|rfl|(simp only [List.map_toArray,List.map_cons,List.map_nil,List.length_drop,List.length_take];rfl)|simp only [List.map_toArray,List.map_cons,List.map_nil]) ?_;(with_reducible refine (relation_plain.calls kj1 a0_2 t162 _ (by first|exact hG|exact GL.below hG (by repeat (first|(with_reducible first|exact HB.out|apply qab|apply qaa|apply qac|refine qae ?_ GE160.out)|exact HB.out)))  A18.out).mono ?_);rintro e w20 ⟨rfl,hb⟩;refine ⟨_,rfl,?_⟩;have n0_ := Aside0.mk (qap (g := gb160) (o := .cells #[.string a0_0,.int .i64 a0_1,.string a0_2] 39 (0,0)) (by (with_reducible repeat (first|refine qah ?_ _|refine qai ?_|refine qag ?_ _));exact BK160.out) hb);have n1_ := Aside0.mk (qan (by repeat (first|(with_reducible first|exact HB.out|apply qab|apply qaa|apply qac|refine qae ?_ GE160.out)|exact HB.out)) hb);clear BK160;clear HB;have BK160 := n0_;have HB := n1_;clear n0_ n1_;(try clear hb);(try clear hb2);(try clear hk);(try clear hi)))
     go_ret
     exact ⟨by first|rfl|(simp [qak,qal]<;>rfl)|(simp [*,qak,qal]<;>rfl),by repeat (first|(with_reducible first|exact HB.out|apply qab|apply qaa|apply qac|refine qae ?_ GE160.out)|exact HB.out)⟩
def depends_Right_1.f (k : Nat) (a0_0 : ByteArray) (a0_1 : Int) (a0_2 : ByteArray) : Option (Bool) := (relation_Right.f k a0_0 a0_1 a0_2).bind fun t164 => (some (!t164))
theorem depends_Right_1.mono : ∀ a0 a1 a2 k,LeO (depends_Right_1.f k a0 a1 a2) (depends_Right_1.f (k + 1) a0 a1 a2) := by
 intro a0 a1 a2 k
 unfold depends_Right_1.f
 repeat' first
   | (with_reducible exact relation_Right.mono _ _ _ _)
   | (with_reducible exact LeO.refl _)
   | (with_reducible exact LeO.none _)
   | (with_reducible refine LeO.ite ?_ ?_)
   | (with_reducible refine LeO.bind ?_ (fun _ => ?_))
   | exact relation_Right.mono _ _ _ _
   | exact LeO.none _
   | refine LeO.ite ?_ ?_
   | refine LeO.bind ?_ (fun _ => ?_)
theorem depends_Right_1.calls (k : Nat) (a0_0 : ByteArray) (a0_1 : Int) (a0_2 : ByteArray) (r : Bool) (w : World) (hG : GL w) (h : depends_Right_1.f k a0_0 a0_1 a0_2 = some r) :
  Calls Tryz.prog 38 #[.agg #[.string a0_0,.int .i64 a0_1,.string a0_2]] w fun e w' => e = .returned (.bool r) ∧ Below w.heap.size w w' := by
 have hu39 := Tryz.underlying39
 have HB := Aside0.mk (Below.refl w.heap.size w)
 have H : ((relation_Right.f k a0_0 a0_1 a0_2).bind fun t164 => (some (!t164))) = some r := h
 clear h
 replace H := Option.bind_eq_some_iff.mp H
 obtain ⟨t164,A20,H⟩ := H
 replace H : (some (!t164)) = some r := H
 have A2 := Aside0.mk A20
 clear A20
 obtain rfl := Option.some.inj H
 go_enter Tryz.func38,Tryz.ntmps38
 go_wp2_with (first|((with_reducible refine gate_dst (N := 1) rfl ?_);refine box_event ?hg (N := 1) ?hd (cs := #[.string a0_0,.int .i64 a0_1,.string a0_2]) (t := 39) ?hr ?_;(case hd => rfl);(case hg => rfl);(case hr => first|(go_simp;done)|(go_simp;rfl));intro gb163 hg w3 hbox hb;have n0_ := Aside0.mk (qan (by repeat (with_reducible first|exact HB.out|apply qab|apply qaa|apply qac)) hb);have n1_ := Aside0.mk (hbox);have n2_ := Aside0.mk ((by rw [hg];exact (qao (by repeat (with_reducible first|exact HB.out|apply qab|apply qaa|apply qac))) : w.heap.size ≤ gb163));have n3_ := Aside0.mk ((by rw [hg];exact (qao (by repeat (with_reducible first|exact HB.out|apply qab|apply qaa|apply qac))) : w.heap.size ≤ gb163));clear HB;have HB := n0_;have BK163 := n1_;have GW163 := n2_;have GE163 := n3_;clear n0_ n1_ n2_ n3_;clear hb hbox hg;have hcz4_0 : w3.cell? ⟨gb163,0,none⟩ = some (.string a0_0) := (qaf BK163.out 0).trans rfl;have hcz4_1 : w3.cell? ⟨gb163,1,none⟩ = some (.int .i64 a0_1) := (qaf BK163.out 1).trans rfl;have hcz4_2 : w3.cell? ⟨gb163,2,none⟩ = some (.string a0_2) := (qaf BK163.out 2).trans rfl;have hfz4_0 := qad BK163.out 0;have hfz4_1 := qad BK163.out 1;have hfz4_2 := qad BK163.out 2)|((with_reducible refine qam (f := 39) rfl ?_);refine goesL_ (some 4) rfl rfl Tryz.func39 (by kernel_rfl) rfl #[.agg #[.string a0_0,.int .i64 a0_1,.string a0_2]] rfl (by first|rfl|(simp only [List.map_toArray,List.map_cons,List.map_nil,List.length_drop,List.length_take];rfl)|simp only [List.map_toArray,List.map_cons,List.map_nil]) ?_;(with_reducible refine (relation_Right.calls k a0_0 a0_1 a0_2 t164 _ (by first|exact hG|exact GL.below hG (by repeat (first|(with_reducible first|exact HB.out|apply qab|apply qaa|apply qac|refine qae ?_ GE163.out)|exact HB.out)))  A2.out).mono ?_);rintro e w5 ⟨rfl,hb⟩;refine ⟨_,rfl,?_⟩;have n0_ := Aside0.mk (qap (g := gb163) (o := .cells #[.string a0_0,.int .i64 a0_1,.string a0_2] 39 (0,0)) (by (with_reducible repeat (first|refine qah ?_ _|refine qai ?_|refine qag ?_ _));exact BK163.out) hb);have n1_ := Aside0.mk (qan (by repeat (first|(with_reducible first|exact HB.out|apply qab|apply qaa|apply qac|refine qae ?_ GE163.out)|exact HB.out)) hb);clear BK163;clear HB;have BK163 := n0_;have HB := n1_;clear n0_ n1_;(try clear hb);(try clear hb2);(try clear hk);(try clear hi)))
 go_ret
 exact ⟨by first|rfl|(simp [qak,qal]<;>rfl)|(simp [*,qak,qal]<;>rfl),by repeat (first|(with_reducible first|exact HB.out|apply qab|apply qaa|apply qac|refine qae ?_ GE163.out)|exact HB.out)⟩
def api_Atom_64_38.l0 : Nat → List (S39) → Int → Int → Option (Int)
 | 0,_,_,_ => none
 | k + 1,x0,x7,x8 => if x8 < x7 then (if 0 ≤ x8 then (if x8 < (x0.length : Int) then ((depends_Right_1.f k ((rd_T39 x0 x8).f0) ((rd_T39 x0 x8).f1) ((rd_T39 x0 x8).f2)).bind fun t166 => (if t166 = true then (some x8) else (api_Atom_64_38.l0 k x0 x7 (wrap64 (x8 + 1))))) else (none)) else (none)) else (some (-1))
def api_Atom_64_38.f (k : Nat) (l0 : List (S39)) (a1 : Nat) : Option (Int) := api_Atom_64_38.l0 k l0 (l0.length : Int) 0
theorem api_Atom_64_38.mono_l : ∀ k,(∀ y0 y1 y2,LeO (api_Atom_64_38.l0 k y0 y1 y2) (api_Atom_64_38.l0 (k + 1) y0 y1 y2))
 | 0 => fun _ _ _ r h => by simp [api_Atom_64_38.l0] at h
 | k + 1 => by
  have ih0 := api_Atom_64_38.mono_l k
  ·intro y0 y1 y2
   unfold api_Atom_64_38.l0
   repeat' first
   | (with_reducible exact ih0 _ _ _)
   | (with_reducible exact depends_Right_1.mono _ _ _ _)
   | (with_reducible exact LeO.refl _)
   | (with_reducible exact LeO.none _)
   | (with_reducible refine LeO.ite ?_ ?_)
   | (with_reducible refine LeO.bind ?_ (fun _ => ?_))
   | exact ih0 _ _ _
   | exact depends_Right_1.mono _ _ _ _
   | exact LeO.none _
   | refine LeO.ite ?_ ?_
   | refine LeO.bind ?_ (fun _ => ?_)
theorem api_Atom_64_38.mono : ∀ a0 a1 k,LeO (api_Atom_64_38.f k a0 a1) (api_Atom_64_38.f (k + 1) a0 a1) := by
 intro a0 a1 k
 have ih0 := api_Atom_64_38.mono_l k
 unfold api_Atom_64_38.f
 repeat' first
   | (with_reducible exact ih0 _ _ _)
   | (with_reducible exact depends_Right_1.mono _ _ _ _)
   | (with_reducible exact LeO.refl _)
   | (with_reducible exact LeO.none _)
   | (with_reducible refine LeO.ite ?_ ?_)
   | (with_reducible refine LeO.bind ?_ (fun _ => ?_))
   | exact ih0 _ _ _
   | exact depends_Right_1.mono _ _ _ _
   | exact LeO.none _
   | refine LeO.ite ?_ ?_
   | refine LeO.bind ?_ (fun _ => ?_)
theorem api_Atom_64_38.calls (k : Nat) (A0 : Option Addr) (c0 : Nat) (l0 : List (S39)) (a1 : Nat) (r : Int) (w : World) (hG : GL w) (hr0 : Kd.C k39 w A0 l0.length l0) (hc0 : l0.length ≤ c0) (h : api_Atom_64_38.f k l0 a1 = some r) :
  Calls Tryz.prog 64 #[.slice A0 l0.length c0,.func (.func 38) #[] #[]] w fun e w' => e = .returned (.int .i64 r) ∧ Below w.heap.size w w' := by
 have hu39 := Tryz.underlying39
 have HR0 := Aside0.mk hr0
 have HC0 := Aside0.mk hc0
 clear hr0 hc0
 have HB := Aside0.mk (Below.refl w.heap.size w)
 have H : (api_Atom_64_38.l0 k l0 (l0.length : Int) 0) = some r := h
 clear h
 have H' := Aside0.mk H
 clear H
 go_enter Tryz.func64,Tryz.ntmps64
 go_wp2
 go_loopg [8] k (fun kq v8 w' => ∃ (x8_1 : Int),v8 = .int .i64 x8_1 ∧ Aside0 (api_Atom_64_38.l0 kq l0 (l0.length : Int) x8_1 = some r) ∧ Aside0 (kq ≤ k) ∧ Aside0 (Below w.heap.size w w'))
 case atStart => exact ⟨(0),(by first|rfl|(simp;done)|(simp [*];done)|(simp [qaj];done)),H',⟨Nat.le_refl _⟩,⟨by repeat (with_reducible first|exact HB.out|apply qab|apply qaa|apply qac)⟩⟩
 case round =>
  clear H'
  try clear p2
  obtain ⟨x8_1,rfl,HA,HK1,HB⟩ := hrel
  cases gk with
  | zero => exact absurd HA.out (by simp [api_Atom_64_38.l0])
  | succ k1 =>
   have H := HA.out
   clear HA
   simp only [api_Atom_64_38.l0] at H
   by_cases c3 : x8_1 < (l0.length : Int)
   ·rw [if_pos c3] at H
    have c3b0 : decide (x8_1 < (l0.length : Int)) = true := decide_eq_true c3
    clear c3
    by_cases c4 : 0 ≤ x8_1
    ·rw [if_pos c4] at H
     have c4b0 : decide (0 ≤ x8_1) = true := decide_eq_true c4
     clear c4
     by_cases c5 : x8_1 < (l0.length : Int)
     ·rw [if_pos c5] at H
      have c5b0 : decide (x8_1 < (l0.length : Int)) = true := decide_eq_true c5
      clear c5
      replace H := Option.bind_eq_some_iff.mp H
      obtain ⟨t166,A60,H⟩ := H
      replace H : (if t166 = true then (some x8_1) else (api_Atom_64_38.l0 k1 l0 (l0.length : Int) (wrap64 (x8_1 + 1)))) = some r := H
      have A6 := Aside0.mk A60
      clear A60
      by_cases c7 : t166 = true
      ·subst c7
       have H1 : (some x8_1) = some r := by rw [if_pos rfl] at H;exact H
       clear H
       have H := H1
       clear H1
       obtain rfl := Option.some.inj H
       have p165 : 0 ≤ (x8_1 : Int) := of_decide_eq_true (by assumption)
       have q165 : x8_1 < (l0.length : Int) := of_decide_eq_true (by assumption)
       obtain ⟨ad165,e165,hx165_0,hx165_1,hx165_2⟩ := at_T39 HR0.out x8_1 p165 q165
       cases e165
       replace hx165_0 := (HB.out.cell (World.block_lt_of_cell? w _ hx165_0)).trans hx165_0
       replace hx165_1 := (HB.out.cell (World.block_lt_of_cell? w _ hx165_1)).trans hx165_1
       replace hx165_2 := (HB.out.cell (World.block_lt_of_cell? w _ hx165_2)).trans hx165_2
       replace p165 := eq_true p165
       replace q165 := eq_true q165
       go_wp2_with (first|(go_at_call 38;(with_reducible refine (depends_Right_1.calls k1 ((rd_T39 l0 x8_1).f0) ((rd_T39 l0 x8_1).f1) ((rd_T39 l0 x8_1).f2) true _ (by first|exact hG|exact GL.below hG (by repeat (with_reducible first|exact HB.out|apply qab|apply qaa|apply qac)))  A6.out).mono ?_);rintro e w8 ⟨rfl,hb⟩;have n0_ := Aside0.mk (qan (by repeat (with_reducible first|exact HB.out|apply qab|apply qaa|apply qac)) hb);clear HB;have HB := n0_;clear n0_;(try clear hb);(try clear hb2);(try clear hk);(try clear hi)))
       go_ret
       exact ⟨by first|rfl|(simp [qak,qal]<;>rfl)|(simp [*,qak,qal]<;>rfl),by repeat (with_reducible first|exact HB.out|apply qab|apply qaa|apply qac)⟩
      ·replace c7 := Bool.eq_false_iff.mpr c7
       subst c7
       have H1 : (api_Atom_64_38.l0 k1 l0 (l0.length : Int) (wrap64 (x8_1 + 1))) = some r := by rw [if_neg (show ¬ (false = true) by decide)] at H;exact H
       clear H
       have H := H1
       clear H1
       have H' := Aside0.mk H
       clear H
       have p165 : 0 ≤ (x8_1 : Int) := of_decide_eq_true (by assumption)
       have q165 : x8_1 < (l0.length : Int) := of_decide_eq_true (by assumption)
       obtain ⟨ad165,e165,hx165_0,hx165_1,hx165_2⟩ := at_T39 HR0.out x8_1 p165 q165
       cases e165
       replace hx165_0 := (HB.out.cell (World.block_lt_of_cell? w _ hx165_0)).trans hx165_0
       replace hx165_1 := (HB.out.cell (World.block_lt_of_cell? w _ hx165_1)).trans hx165_1
       replace hx165_2 := (HB.out.cell (World.block_lt_of_cell? w _ hx165_2)).trans hx165_2
       replace p165 := eq_true p165
       replace q165 := eq_true q165
       go_wp2_with (first|(go_at_call 38;(with_reducible refine (depends_Right_1.calls k1 ((rd_T39 l0 x8_1).f0) ((rd_T39 l0 x8_1).f1) ((rd_T39 l0 x8_1).f2) false _ (by first|exact hG|exact GL.below hG (by repeat (with_reducible first|exact HB.out|apply qab|apply qaa|apply qac)))  A6.out).mono ?_);rintro e w9 ⟨rfl,hb⟩;have n0_ := Aside0.mk (qan (by repeat (with_reducible first|exact HB.out|apply qab|apply qaa|apply qac)) hb);clear HB;have HB := n0_;clear n0_;(try clear hb);(try clear hb2);(try clear hk);(try clear hi)))
       go_roundg k1
       case measure => have := HK1.out;omega
       case rel => exact ⟨(wrap64 (x8_1 + 1)),(by first|rfl|(simp;done)|(simp [*];done)|(simp [qaj];done)),H',⟨by have := HK1.out;omega⟩,⟨by repeat (with_reducible first|exact HB.out|apply qab|apply qaa|apply qac)⟩⟩
     ·rw [if_neg c5] at H
      exact absurd H (by simp)
    ·rw [if_neg c4] at H
     exact absurd H (by simp)
   ·rw [if_neg c3] at H
    have c3b0 : decide (x8_1 < (l0.length : Int)) = false := decide_eq_false c3
    clear c3
    obtain rfl := Option.some.inj H
    go_wp2
    go_ret
    exact ⟨by first|rfl|(simp [qak,qal]<;>rfl)|(simp [*,qak,qal]<;>rfl),by repeat (with_reducible first|exact HB.out|apply qab|apply qaa|apply qac)⟩
def api_Atom_37_38.f (k : Nat) (l0 : List (S39)) (a1 : Nat) : Option (Bool) := (api_Atom_64_38.f k l0 a1).bind fun t167 => (some (decide (t167 ≥ 0)))
theorem api_Atom_37_38.mono : ∀ a0 a1 k,LeO (api_Atom_37_38.f k a0 a1) (api_Atom_37_38.f (k + 1) a0 a1) := by
 intro a0 a1 k
 unfold api_Atom_37_38.f
 repeat' first
   | (with_reducible exact api_Atom_64_38.mono _ _ _)
   | (with_reducible exact LeO.refl _)
   | (with_reducible exact LeO.none _)
   | (with_reducible refine LeO.ite ?_ ?_)
   | (with_reducible refine LeO.bind ?_ (fun _ => ?_))
   | exact api_Atom_64_38.mono _ _ _
   | exact LeO.none _
   | refine LeO.ite ?_ ?_
   | refine LeO.bind ?_ (fun _ => ?_)
theorem api_Atom_37_38.calls (k : Nat) (A0 : Option Addr) (c0 : Nat) (l0 : List (S39)) (a1 : Nat) (r : Bool) (w : World) (hG : GL w) (hr0 : Kd.C k39 w A0 l0.length l0) (hc0 : l0.length ≤ c0) (h : api_Atom_37_38.f k l0 a1 = some r) :
  Calls Tryz.prog 37 #[.slice A0 l0.length c0,.func (.func 38) #[] #[]] w fun e w' => e = .returned (.bool r) ∧ Below w.heap.size w w' := by
 have HR0 := Aside0.mk hr0
 have HC0 := Aside0.mk hc0
 clear hr0 hc0
 have HB := Aside0.mk (Below.refl w.heap.size w)
 have H : ((api_Atom_64_38.f k l0 a1).bind fun t167 => (some (decide (t167 ≥ 0)))) = some r := h
 clear h
 replace H := Option.bind_eq_some_iff.mp H
 obtain ⟨t167,A30,H⟩ := H
 replace H : (some (decide (t167 ≥ 0))) = some r := H
 have A3 := Aside0.mk A30
 clear A30
 obtain rfl := Option.some.inj H
 go_enter Tryz.func37,Tryz.ntmps37
 go_wp2_with (first|((with_reducible refine qam (f := 64) rfl ?_);refine goesL_ (some 7) rfl rfl Tryz.func64 (by kernel_rfl) rfl #[.slice A0 l0.length c0,.func (.func 38) #[] #[]] rfl (by first|rfl|(simp only [List.map_toArray,List.map_cons,List.map_nil,List.length_drop,List.length_take];rfl)|simp only [List.map_toArray,List.map_cons,List.map_nil]) ?_;(with_reducible refine (api_Atom_64_38.calls k _ _ l0 a1 t167 _ (by first|exact hG|exact GL.below hG (by repeat (with_reducible first|exact HB.out|apply qab|apply qaa|apply qac)))  ?side1 ?side2 A3.out).mono ?_);(case side1 => repeat (first|exact HR0.out|(with_reducible refine Kd.C_alloc ?_ _)|(with_reducible refine Kd.C_drewN ?_ _)|(with_reducible refine Kd.C_drew ?_)));(case side2 => exact HC0.out);rintro e w4 ⟨rfl,hb⟩;refine ⟨_,rfl,?_⟩;have n0_ := Aside0.mk (qan (by repeat (with_reducible first|exact HB.out|apply qab|apply qaa|apply qac)) hb);clear HB;have HB := n0_;clear n0_;(try clear hb);(try clear hb2);(try clear hk);(try clear hi)))
 go_ret
 exact ⟨by first|rfl|(simp [qak,qal]<;>rfl)|(simp [*,qak,qal]<;>rfl),by repeat (with_reducible first|exact HB.out|apply qab|apply qaa|apply qac)⟩
def depends_Right.l0 : Nat → List (List (S39)) → List (List (S39)) → Int → Int → Option (Bool)
 | 0,_,_,_,_ => none
 | k + 1,x0,x5,x6,x7 => if x7 < x6 then (if 0 ≤ x7 then (if x7 < (x5.length : Int) then (if ((rd_L4 x5 x7).length : Int) = 0 then (some false) else (if ((rd_L4 x5 x7).length : Int) > 6 then (some false) else ((api_Atom_37_38.f k (rd_L4 x5 x7) 0).bind fun t169 => (if t169 = true then (some false) else (depends_Right.l0 k x0 x5 x6 (wrap64 (x7 + 1))))))) else (none)) else (none)) else (some (decide ((x0.length : Int) ≤ 12)))
def depends_Right.f (k : Nat) (l0 : List (List (S39))) : Option (Bool) := depends_Right.l0 k l0 l0 (l0.length : Int) 0
theorem depends_Right.mono_l : ∀ k,(∀ y0 y1 y2 y3,LeO (depends_Right.l0 k y0 y1 y2 y3) (depends_Right.l0 (k + 1) y0 y1 y2 y3))
 | 0 => fun _ _ _ _ r h => by simp [depends_Right.l0] at h
 | k + 1 => by
  have ih0 := depends_Right.mono_l k
  ·intro y0 y1 y2 y3
   unfold depends_Right.l0
   repeat' first
   | (with_reducible exact ih0 _ _ _ _)
   | (with_reducible exact api_Atom_37_38.mono _ _ _)
   | (with_reducible exact LeO.refl _)
   | (with_reducible exact LeO.none _)
   | (with_reducible refine LeO.ite ?_ ?_)
   | (with_reducible refine LeO.bind ?_ (fun _ => ?_))
   | exact ih0 _ _ _ _
   | exact api_Atom_37_38.mono _ _ _
   | exact LeO.none _
   | refine LeO.ite ?_ ?_
   | refine LeO.bind ?_ (fun _ => ?_)
theorem depends_Right.mono : ∀ a0 k,LeO (depends_Right.f k a0) (depends_Right.f (k + 1) a0) := by
 intro a0 k
 have ih0 := depends_Right.mono_l k
 unfold depends_Right.f
 repeat' first
   | (with_reducible exact ih0 _ _ _ _)
   | (with_reducible exact api_Atom_37_38.mono _ _ _)
   | (with_reducible exact LeO.refl _)
   | (with_reducible exact LeO.none _)
   | (with_reducible refine LeO.ite ?_ ?_)
   | (with_reducible refine LeO.bind ?_ (fun _ => ?_))
   | exact ih0 _ _ _ _
   | exact api_Atom_37_38.mono _ _ _
   | exact LeO.none _
   | refine LeO.ite ?_ ?_
   | refine LeO.bind ?_ (fun _ => ?_)
theorem depends_Right.calls (k : Nat) (A0 : Option Addr) (c0 : Nat) (l0 : List (List (S39))) (r : Bool) (w : World) (hG : GL w) (hr0 : Kd.C (Kd.slice 39 k39) w A0 l0.length l0) (hc0 : l0.length ≤ c0) (h : depends_Right.f k l0 = some r) :
  Calls Tryz.prog 17 #[.slice A0 l0.length c0] w fun e w' => e = .returned (.bool r) ∧ Below w.heap.size w w' := by
 have HR0 := Aside0.mk hr0
 have HC0 := Aside0.mk hc0
 clear hr0 hc0
 have HB := Aside0.mk (Below.refl w.heap.size w)
 have H : (depends_Right.l0 k l0 l0 (l0.length : Int) 0) = some r := h
 clear h
 have H' := Aside0.mk H
 clear H
 go_enter Tryz.func17,Tryz.ntmps17
 go_wp2
 go_loopg [7] k (fun kq v7 w' => ∃ (x7_1 : Int),v7 = .int .i64 x7_1 ∧ Aside0 (depends_Right.l0 kq l0 l0 (l0.length : Int) x7_1 = some r) ∧ Aside0 (kq ≤ k) ∧ Aside0 (Below w.heap.size w w'))
 case atStart => exact ⟨(0),(by first|rfl|(simp;done)|(simp [*];done)|(simp [qaj];done)),H',⟨Nat.le_refl _⟩,⟨by repeat (with_reducible first|exact HB.out|apply qab|apply qaa|apply qac)⟩⟩
 case round =>
  clear H'
  try clear c1
  obtain ⟨x7_1,rfl,HA,HK1,HB⟩ := hrel
  cases gk with
  | zero => exact absurd HA.out (by simp [depends_Right.l0])
  | succ k1 =>
   have H := HA.out
   clear HA
   simp only [depends_Right.l0] at H
   by_cases c2 : x7_1 < (l0.length : Int)
   ·rw [if_pos c2] at H
    have c2b0 : decide (x7_1 < (l0.length : Int)) = true := decide_eq_true c2
    clear c2
    by_cases c3 : 0 ≤ x7_1
    ·rw [if_pos c3] at H
     have c3b0 : decide (0 ≤ x7_1) = true := decide_eq_true c3
     clear c3
     by_cases c4 : x7_1 < (l0.length : Int)
     ·rw [if_pos c4] at H
      have c4b0 : decide (x7_1 < (l0.length : Int)) = true := decide_eq_true c4
      clear c4
      by_cases c5 : ((rd_L4 l0 x7_1).length : Int) = 0
      ·rw [if_pos c5] at H
       have c5b0 : (((rd_L4 l0 x7_1).length : Int) == 0) = true := beq_iff_eq.mpr c5
       have c5b1 : (((rd_L4 l0 x7_1).length : Int) != 0) = false := bne_eq_false_iff_eq.mpr c5
       clear c5
       obtain rfl := Option.some.inj H
       have p168 : 0 ≤ (x7_1 : Int) := of_decide_eq_true (by assumption)
       have q168 : x7_1 < (l0.length : Int) := of_decide_eq_true (by assumption)
       obtain ⟨ad168,A168_0,c168_0,e168,hx168_0,hl168_0,hi168_0⟩ := at_L4 HR0.out x7_1 p168 q168
       cases e168
       replace hx168_0 := (HB.out.cell (World.block_lt_of_cell? w _ hx168_0)).trans hx168_0
       have HR168_0 := Aside0.mk hi168_0
       have HC168_0 := Aside0.mk hl168_0
       clear hi168_0 hl168_0
       replace p168 := eq_true p168
       replace q168 := eq_true q168
       go_wp2
       go_ret
       exact ⟨by first|rfl|(simp [qak,qal]<;>rfl)|(simp [*,qak,qal]<;>rfl),by repeat (with_reducible first|exact HB.out|apply qab|apply qaa|apply qac)⟩
      ·rw [if_neg c5] at H
       have c5b0 : (((rd_L4 l0 x7_1).length : Int) == 0) = false := beq_eq_false_iff_ne.mpr c5
       have c5b1 : (((rd_L4 l0 x7_1).length : Int) != 0) = true := bne_iff_ne.mpr c5
       have c5b2 : ¬ ((rd_L4 l0 x7_1) = []) := fun h_ => c5 (by rw [h_];rfl)
       by_cases c6 : ((rd_L4 l0 x7_1).length : Int) > 6
       ·rw [if_pos c6] at H
        have c6b0 : decide (6 < ((rd_L4 l0 x7_1).length : Int)) = true := decide_eq_true c6
        have c6b1 : decide (6 < (rd_L4 l0 x7_1).length) = true := decide_eq_true (by omega)
        clear c6
        obtain rfl := Option.some.inj H
        have p168 : 0 ≤ (x7_1 : Int) := of_decide_eq_true (by assumption)
        have q168 : x7_1 < (l0.length : Int) := of_decide_eq_true (by assumption)
        obtain ⟨ad168,A168_0,c168_0,e168,hx168_0,hl168_0,hi168_0⟩ := at_L4 HR0.out x7_1 p168 q168
        cases e168
        replace hx168_0 := (HB.out.cell (World.block_lt_of_cell? w _ hx168_0)).trans hx168_0
        have HR168_0 := Aside0.mk hi168_0
        have HC168_0 := Aside0.mk hl168_0
        clear hi168_0 hl168_0
        replace p168 := eq_true p168
        replace q168 := eq_true q168
        go_wp2
        go_ret
        exact ⟨by first|rfl|(simp [qak,qal]<;>rfl)|(simp [*,qak,qal]<;>rfl),by repeat (with_reducible first|exact HB.out|apply qab|apply qaa|apply qac)⟩
       ·rw [if_neg c6] at H
        have c6b0 : decide (6 < ((rd_L4 l0 x7_1).length : Int)) = false := decide_eq_false c6
        have c6b1 : decide (6 < (rd_L4 l0 x7_1).length) = false := decide_eq_false (by omega)
        clear c6
        replace H := Option.bind_eq_some_iff.mp H
        obtain ⟨t169,A70,H⟩ := H
        replace H : (if t169 = true then (some false) else (depends_Right.l0 k1 l0 l0 (l0.length : Int) (wrap64 (x7_1 + 1)))) = some r := H
        have A7 := Aside0.mk A70
        clear A70
        by_cases c8 : t169 = true
        ·subst c8
         have H1 : (some false) = some r := by rw [if_pos rfl] at H;exact H
         clear H
         have H := H1
         clear H1
         obtain rfl := Option.some.inj H
         have p168 : 0 ≤ (x7_1 : Int) := of_decide_eq_true (by assumption)
         have q168 : x7_1 < (l0.length : Int) := of_decide_eq_true (by assumption)
         obtain ⟨ad168,A168_0,c168_0,e168,hx168_0,hl168_0,hi168_0⟩ := at_L4 HR0.out x7_1 p168 q168
         cases e168
         replace hx168_0 := (HB.out.cell (World.block_lt_of_cell? w _ hx168_0)).trans hx168_0
         have HR168_0 := Aside0.mk hi168_0
         have HC168_0 := Aside0.mk hl168_0
         clear hi168_0 hl168_0
         replace p168 := eq_true p168
         replace q168 := eq_true q168
         go_wp2_with (first|(go_at_call 37;(with_reducible refine (api_Atom_37_38.calls k1 _ _ (rd_L4 l0 x7_1) 0 true _ (by first|exact hG|exact GL.below hG (by repeat (with_reducible first|exact HB.out|apply qab|apply qaa|apply qac)))  ?side1 ?side2 A7.out).mono ?_);(case side1 => repeat (first|exact (Kd.C_below HR168_0.out HB.out)|(with_reducible refine Kd.C_alloc ?_ _)|(with_reducible refine Kd.C_drewN ?_ _)|(with_reducible refine Kd.C_drew ?_)));(case side2 => exact HC168_0.out);rintro e w9 ⟨rfl,hb⟩;have n0_ := Aside0.mk (qan (by repeat (with_reducible first|exact HB.out|apply qab|apply qaa|apply qac)) hb);clear HB;have HB := n0_;clear n0_;(try clear hb);(try clear hb2);(try clear hk);(try clear hi)))
         go_ret
         exact ⟨by first|rfl|(simp [qak,qal]<;>rfl)|(simp [*,qak,qal]<;>rfl),by repeat (with_reducible first|exact HB.out|apply qab|apply qaa|apply qac)⟩
        ·replace c8 := Bool.eq_false_iff.mpr c8
         subst c8
         have H1 : (depends_Right.l0 k1 l0 l0 (l0.length : Int) (wrap64 (x7_1 + 1))) = some r := by rw [if_neg (show ¬ (false = true) by decide)] at H;exact H
         clear H
         have H := H1
         clear H1
         have H' := Aside0.mk H
         clear H
         have p168 : 0 ≤ (x7_1 : Int) := of_decide_eq_true (by assumption)
         have q168 : x7_1 < (l0.length : Int) := of_decide_eq_true (by assumption)
         obtain ⟨ad168,A168_0,c168_0,e168,hx168_0,hl168_0,hi168_0⟩ := at_L4 HR0.out x7_1 p168 q168
         cases e168
         replace hx168_0 := (HB.out.cell (World.block_lt_of_cell? w _ hx168_0)).trans hx168_0
         have HR168_0 := Aside0.mk hi168_0
         have HC168_0 := Aside0.mk hl168_0
         clear hi168_0 hl168_0
         replace p168 := eq_true p168
         replace q168 := eq_true q168
         go_wp2_with (first|(go_at_call 37;(with_reducible refine (api_Atom_37_38.calls k1 _ _ (rd_L4 l0 x7_1) 0 false _ (by first|exact hG|exact GL.below hG (by repeat (with_reducible first|exact HB.out|apply qab|apply qaa|apply qac)))  ?side1 ?side2 A7.out).mono ?_);(case side1 => repeat (first|exact (Kd.C_below HR168_0.out HB.out)|(with_reducible refine Kd.C_alloc ?_ _)|(with_reducible refine Kd.C_drewN ?_ _)|(with_reducible refine Kd.C_drew ?_)));(case side2 => exact HC168_0.out);rintro e w10 ⟨rfl,hb⟩;have n0_ := Aside0.mk (qan (by repeat (with_reducible first|exact HB.out|apply qab|apply qaa|apply qac)) hb);clear HB;have HB := n0_;clear n0_;(try clear hb);(try clear hb2);(try clear hk);(try clear hi)))
         go_roundg k1
         case measure => have := HK1.out;omega
         case rel => exact ⟨(wrap64 (x7_1 + 1)),(by first|rfl|(simp;done)|(simp [*];done)|(simp [qaj];done)),H',⟨by have := HK1.out;omega⟩,⟨by repeat (with_reducible first|exact HB.out|apply qab|apply qaa|apply qac)⟩⟩
     ·rw [if_neg c4] at H
      exact absurd H (by simp)
    ·rw [if_neg c3] at H
     exact absurd H (by simp)
   ·rw [if_neg c2] at H
    have c2b0 : decide (x7_1 < (l0.length : Int)) = false := decide_eq_false c2
    clear c2
    obtain rfl := Option.some.inj H
    go_wp2
    go_ret
    exact ⟨by first|rfl|(simp [qak,qal]<;>rfl)|(simp [*,qak,qal]<;>rfl),by repeat (with_reducible first|exact HB.out|apply qab|apply qaa|apply qac)⟩
end Go.Proofs.YtjbbgekkombpnaaGreatDoor.PA
