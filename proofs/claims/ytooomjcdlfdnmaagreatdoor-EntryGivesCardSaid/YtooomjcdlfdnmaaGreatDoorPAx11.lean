
import Derived.Test.YtooomjcdlfdnmaaGreatDoorPAx0
import Derived.Test.YtooomjcdlfdnmaaGreatDoorPAx10
namespace Go.Proofs.YtooomjcdlfdnmaaGreatDoor.PA
open Go.RowKit Go.Proofs.YtooomjcdlfdnmaaGreatDoorW.PrintWords Go.Proofs.YtooomjcdlfdnmaaGreatDoorW.PrintLast Go.Proofs.YtooomjcdlfdnmaaGreatDoorW.PrintMore
attribute [local go_sem] max2_int min2_int max_two min_two max_three min_three max_four min_four
set_option maxHeartbeats 8000000
set_option maxRecDepth 100000
set_option linter.unusedVariables false
set_option linter.unusedSimpArgs false
def keelsonlaw6_sameGroups.l0 : Nat → List (List (S27)) → List (List (S27)) → Int → Option (Bool)
 | 0,_,_,_ => none
 | k + 1,x0,x1,x5 => if x5 < (x0.length : Int) then (if 0 ≤ x5 then (if x5 < (x1.length : Int) then ((keelsonlaw6_sameAtoms.f k (rd_L3 x0 x5) (rd_L3 x1 x5)).bind fun t298 => (if t298 = true then (keelsonlaw6_sameGroups.l0 k x0 x1 (wrap64 (x5 + 1))) else (some false))) else (none)) else (none)) else (some true)
def keelsonlaw6_sameGroups.f (k : Nat) (l0 : List (List (S27))) (l1 : List (List (S27))) : Option (Bool) := if (l0.length : Int) = (l1.length : Int) then (keelsonlaw6_sameGroups.l0 k l0 l1 0) else (some false)
theorem keelsonlaw6_sameGroups.mono_l : ∀ k,(∀ y0 y1 y2,LeO (keelsonlaw6_sameGroups.l0 k y0 y1 y2) (keelsonlaw6_sameGroups.l0 (k + 1) y0 y1 y2))
 | 0 => fun _ _ _ r h => by simp [keelsonlaw6_sameGroups.l0] at h
 | k + 1 => by
  have ih0 := keelsonlaw6_sameGroups.mono_l k
  ·intro y0 y1 y2
   unfold keelsonlaw6_sameGroups.l0
   repeat' first
   | (with_reducible exact ih0 _ _ _)
   | (with_reducible exact keelsonlaw6_sameAtoms.mono _ _ _)
   | (with_reducible exact LeO.refl _)
   | (with_reducible exact LeO.none _)
   | (with_reducible refine LeO.ite ?_ ?_)
   | (with_reducible refine LeO.bind ?_ (fun _ => ?_))
   | exact ih0 _ _ _
   | exact keelsonlaw6_sameAtoms.mono _ _ _
   | exact LeO.none _
   | refine LeO.ite ?_ ?_
   | refine LeO.bind ?_ (fun _ => ?_)
theorem keelsonlaw6_sameGroups.mono : ∀ a0 a1 k,LeO (keelsonlaw6_sameGroups.f k a0 a1) (keelsonlaw6_sameGroups.f (k + 1) a0 a1) := by
 intro a0 a1 k
 have ih0 := keelsonlaw6_sameGroups.mono_l k
 unfold keelsonlaw6_sameGroups.f
 repeat' first
   | (with_reducible exact ih0 _ _ _)
   | (with_reducible exact keelsonlaw6_sameAtoms.mono _ _ _)
   | (with_reducible exact LeO.refl _)
   | (with_reducible exact LeO.none _)
   | (with_reducible refine LeO.ite ?_ ?_)
   | (with_reducible refine LeO.bind ?_ (fun _ => ?_))
   | exact ih0 _ _ _
   | exact keelsonlaw6_sameAtoms.mono _ _ _
   | exact LeO.none _
   | refine LeO.ite ?_ ?_
   | refine LeO.bind ?_ (fun _ => ?_)
theorem keelsonlaw6_sameGroups.calls (k : Nat) (A0 : Option Addr) (c0 : Nat) (l0 : List (List (S27))) (A1 : Option Addr) (c1 : Nat) (l1 : List (List (S27))) (r : Bool) (w : World) (hG : GL w) (hr0 : Kd.C (Kd.slice 27 k27) w A0 l0.length l0) (hc0 : l0.length ≤ c0) (hr1 : Kd.C (Kd.slice 27 k27) w A1 l1.length l1) (hc1 : l1.length ≤ c1) (h : keelsonlaw6_sameGroups.f k l0 l1 = some r) :
  Calls Tryz.prog 88 #[.slice A0 l0.length c0,.slice A1 l1.length c1] w fun e w' => e = .returned (.bool r) ∧ Drawn0 w w' := by
 have HR0 := Aside0.mk hr0
 have HC0 := Aside0.mk hc0
 clear hr0 hc0
 have HR1 := Aside0.mk hr1
 have HC1 := Aside0.mk hc1
 clear hr1 hc1
 have H : (if (l0.length : Int) = (l1.length : Int) then (keelsonlaw6_sameGroups.l0 k l0 l1 0) else (some false)) = some r := h
 clear h
 by_cases c3 : (l0.length : Int) = (l1.length : Int)
 ·rw [if_pos c3] at H
  have c3b0 : ((l0.length : Int) == (l1.length : Int)) = true := beq_iff_eq.mpr c3
  have c3b1 : ((l0.length : Int) != (l1.length : Int)) = false := bne_eq_false_iff_eq.mpr c3
  have c3b2 : (l0.length == l1.length) = true := by first|simpa using c3|(simp at c3 ⊢;omega)
  clear c3
  have H' := Aside0.mk H
  clear H
  go_enter Tryz.func88,Tryz.ntmps88
  go_wp2
  repeat (go_quiet (fail);try go_wp2)
  go_loopg [5] k (fun kq v5 w' => ∃ (x5_1 : Int),v5 = .int .i64 x5_1 ∧ Aside0 (keelsonlaw6_sameGroups.l0 kq l0 l1 x5_1 = some r) ∧ Aside0 (kq ≤ k) ∧ Drawn0 w w')
  case atStart => exact ⟨(0),(by first|rfl|(simp;done)|(simp [*];done)|(simp [qam];done)),H',⟨Nat.le_refl _⟩,by repeat (first|exact Drawn0.refl _|apply Drawn0.step)⟩
  case round =>
   clear H'
   try clear c1
   try clear p2
   try clear c3
   try clear c3b0
   try clear c3b1
   try clear c3b2
   obtain ⟨x5_1,rfl,HA,HK1,⟨m1,rfl⟩⟩ := hrel
   cases gk with
   | zero => exact absurd HA.out (by simp [keelsonlaw6_sameGroups.l0])
   | succ k1 =>
    have H := HA.out
    clear HA
    simp only [keelsonlaw6_sameGroups.l0] at H
    by_cases c4 : x5_1 < (l0.length : Int)
    ·rw [if_pos c4] at H
     have c4b0 : decide (x5_1 < (l0.length : Int)) = true := decide_eq_true c4
     clear c4
     by_cases c5 : 0 ≤ x5_1
     ·rw [if_pos c5] at H
      have c5b0 : decide (0 ≤ x5_1) = true := decide_eq_true c5
      clear c5
      by_cases c6 : x5_1 < (l1.length : Int)
      ·rw [if_pos c6] at H
       have c6b0 : decide (x5_1 < (l1.length : Int)) = true := decide_eq_true c6
       clear c6
       replace H := Option.bind_eq_some_iff.mp H
       obtain ⟨t298,A70,H⟩ := H
       replace H : (if t298 = true then (keelsonlaw6_sameGroups.l0 k1 l0 l1 (wrap64 (x5_1 + 1))) else (some false)) = some r := H
       have A7 := Aside0.mk A70
       clear A70
       by_cases c8 : t298 = true
       ·subst c8
        have H1 : (keelsonlaw6_sameGroups.l0 k1 l0 l1 (wrap64 (x5_1 + 1))) = some r := by rw [if_pos rfl] at H;exact H
        clear H
        have H := H1
        clear H1
        have H' := Aside0.mk H
        clear H
        have p296 : 0 ≤ (x5_1 : Int) := of_decide_eq_true (by assumption)
        have q296 : x5_1 < (l0.length : Int) := of_decide_eq_true (by assumption)
        obtain ⟨ad296,A296_0,c296_0,e296,hx296_0,hl296_0,hi296_0⟩ := at_L3 HR0.out x5_1 p296 q296
        cases e296
        have HR296_0 := Aside0.mk hi296_0
        have HC296_0 := Aside0.mk hl296_0
        clear hi296_0 hl296_0
        replace p296 := eq_true p296
        replace q296 := eq_true q296
        have p297 : 0 ≤ (x5_1 : Int) := of_decide_eq_true (by assumption)
        have q297 : x5_1 < (l1.length : Int) := of_decide_eq_true (by assumption)
        obtain ⟨ad297,A297_0,c297_0,e297,hx297_0,hl297_0,hi297_0⟩ := at_L3 HR1.out x5_1 p297 q297
        cases e297
        have HR297_0 := Aside0.mk hi297_0
        have HC297_0 := Aside0.mk hl297_0
        clear hi297_0 hl297_0
        replace p297 := eq_true p297
        replace q297 := eq_true q297
        go_wp2_with (first|(go_at_call 17;(with_reducible refine (keelsonlaw6_sameAtoms.calls k1 _ _ (rd_L3 l0 x5_1) _ _ (rd_L3 l1 x5_1) true _ (by first|exact hG|(repeat (first|exact hG|apply GL.drewN|apply GL.drew)))  ?side1 ?side2 ?side3 ?side4 A7.out).mono ?_);(case side1 => repeat (first|exact HR296_0.out|(with_reducible refine Kd.C_alloc ?_ _)|(with_reducible refine Kd.C_drewN ?_ _)|(with_reducible refine Kd.C_drew ?_)));(case side2 => exact HC296_0.out);(case side3 => repeat (first|exact HR297_0.out|(with_reducible refine Kd.C_alloc ?_ _)|(with_reducible refine Kd.C_drewN ?_ _)|(with_reducible refine Kd.C_drew ?_)));(case side4 => exact HC297_0.out);rintro e w' ⟨rfl,⟨nd,rfl⟩⟩;(try first|exact ⟨rfl,_,World.drewN_drewN _ _ _⟩|exact ⟨rfl,_,Eq.trans (World.drewN_drewN _ _ _) (congrArg (World.drewN _) (Nat.add_assoc _ _ _))⟩)))
        repeat (go_quiet (first|(go_at_call 17;(with_reducible refine (keelsonlaw6_sameAtoms.calls k1 _ _ (rd_L3 l0 x5_1) _ _ (rd_L3 l1 x5_1) true _ (by first|exact hG|(repeat (first|exact hG|apply GL.drewN|apply GL.drew)))  ?side1 ?side2 ?side3 ?side4 A7.out).mono ?_);(case side1 => repeat (first|exact HR296_0.out|(with_reducible refine Kd.C_alloc ?_ _)|(with_reducible refine Kd.C_drewN ?_ _)|(with_reducible refine Kd.C_drew ?_)));(case side2 => exact HC296_0.out);(case side3 => repeat (first|exact HR297_0.out|(with_reducible refine Kd.C_alloc ?_ _)|(with_reducible refine Kd.C_drewN ?_ _)|(with_reducible refine Kd.C_drew ?_)));(case side4 => exact HC297_0.out);rintro e w' ⟨rfl,⟨nd,rfl⟩⟩;(try first|exact ⟨rfl,_,World.drewN_drewN _ _ _⟩|exact ⟨rfl,_,Eq.trans (World.drewN_drewN _ _ _) (congrArg (World.drewN _) (Nat.add_assoc _ _ _))⟩)));try go_wp2_with (first|(go_at_call 17;(with_reducible refine (keelsonlaw6_sameAtoms.calls k1 _ _ (rd_L3 l0 x5_1) _ _ (rd_L3 l1 x5_1) true _ (by first|exact hG|(repeat (first|exact hG|apply GL.drewN|apply GL.drew)))  ?side1 ?side2 ?side3 ?side4 A7.out).mono ?_);(case side1 => repeat (first|exact HR296_0.out|(with_reducible refine Kd.C_alloc ?_ _)|(with_reducible refine Kd.C_drewN ?_ _)|(with_reducible refine Kd.C_drew ?_)));(case side2 => exact HC296_0.out);(case side3 => repeat (first|exact HR297_0.out|(with_reducible refine Kd.C_alloc ?_ _)|(with_reducible refine Kd.C_drewN ?_ _)|(with_reducible refine Kd.C_drew ?_)));(case side4 => exact HC297_0.out);rintro e w' ⟨rfl,⟨nd,rfl⟩⟩;(try first|exact ⟨rfl,_,World.drewN_drewN _ _ _⟩|exact ⟨rfl,_,Eq.trans (World.drewN_drewN _ _ _) (congrArg (World.drewN _) (Nat.add_assoc _ _ _))⟩))))
        go_roundg k1
        case measure => have := HK1.out;omega
        case rel => exact ⟨(wrap64 (x5_1 + 1)),(by first|rfl|(simp;done)|(simp [*];done)|(simp [qam];done)),H',⟨by have := HK1.out;omega⟩,by repeat (first|exact Drawn0.refl _|apply Drawn0.step)⟩
       ·replace c8 := Bool.eq_false_iff.mpr c8
        subst c8
        have H1 : (some false) = some r := by rw [if_neg (show ¬ (false = true) by decide)] at H;exact H
        clear H
        have H := H1
        clear H1
        obtain rfl := Option.some.inj H
        have p296 : 0 ≤ (x5_1 : Int) := of_decide_eq_true (by assumption)
        have q296 : x5_1 < (l0.length : Int) := of_decide_eq_true (by assumption)
        obtain ⟨ad296,A296_0,c296_0,e296,hx296_0,hl296_0,hi296_0⟩ := at_L3 HR0.out x5_1 p296 q296
        cases e296
        have HR296_0 := Aside0.mk hi296_0
        have HC296_0 := Aside0.mk hl296_0
        clear hi296_0 hl296_0
        replace p296 := eq_true p296
        replace q296 := eq_true q296
        have p297 : 0 ≤ (x5_1 : Int) := of_decide_eq_true (by assumption)
        have q297 : x5_1 < (l1.length : Int) := of_decide_eq_true (by assumption)
        obtain ⟨ad297,A297_0,c297_0,e297,hx297_0,hl297_0,hi297_0⟩ := at_L3 HR1.out x5_1 p297 q297
        cases e297
        have HR297_0 := Aside0.mk hi297_0
        have HC297_0 := Aside0.mk hl297_0
        clear hi297_0 hl297_0
        replace p297 := eq_true p297
        replace q297 := eq_true q297
        go_wp2_with (first|(go_at_call 17;(with_reducible refine (keelsonlaw6_sameAtoms.calls k1 _ _ (rd_L3 l0 x5_1) _ _ (rd_L3 l1 x5_1) false _ (by first|exact hG|(repeat (first|exact hG|apply GL.drewN|apply GL.drew)))  ?side1 ?side2 ?side3 ?side4 A7.out).mono ?_);(case side1 => repeat (first|exact HR296_0.out|(with_reducible refine Kd.C_alloc ?_ _)|(with_reducible refine Kd.C_drewN ?_ _)|(with_reducible refine Kd.C_drew ?_)));(case side2 => exact HC296_0.out);(case side3 => repeat (first|exact HR297_0.out|(with_reducible refine Kd.C_alloc ?_ _)|(with_reducible refine Kd.C_drewN ?_ _)|(with_reducible refine Kd.C_drew ?_)));(case side4 => exact HC297_0.out);rintro e w' ⟨rfl,⟨nd,rfl⟩⟩;(try first|exact ⟨rfl,_,World.drewN_drewN _ _ _⟩|exact ⟨rfl,_,Eq.trans (World.drewN_drewN _ _ _) (congrArg (World.drewN _) (Nat.add_assoc _ _ _))⟩)))
        repeat (go_quiet (first|(go_at_call 17;(with_reducible refine (keelsonlaw6_sameAtoms.calls k1 _ _ (rd_L3 l0 x5_1) _ _ (rd_L3 l1 x5_1) false _ (by first|exact hG|(repeat (first|exact hG|apply GL.drewN|apply GL.drew)))  ?side1 ?side2 ?side3 ?side4 A7.out).mono ?_);(case side1 => repeat (first|exact HR296_0.out|(with_reducible refine Kd.C_alloc ?_ _)|(with_reducible refine Kd.C_drewN ?_ _)|(with_reducible refine Kd.C_drew ?_)));(case side2 => exact HC296_0.out);(case side3 => repeat (first|exact HR297_0.out|(with_reducible refine Kd.C_alloc ?_ _)|(with_reducible refine Kd.C_drewN ?_ _)|(with_reducible refine Kd.C_drew ?_)));(case side4 => exact HC297_0.out);rintro e w' ⟨rfl,⟨nd,rfl⟩⟩;(try first|exact ⟨rfl,_,World.drewN_drewN _ _ _⟩|exact ⟨rfl,_,Eq.trans (World.drewN_drewN _ _ _) (congrArg (World.drewN _) (Nat.add_assoc _ _ _))⟩)));try go_wp2_with (first|(go_at_call 17;(with_reducible refine (keelsonlaw6_sameAtoms.calls k1 _ _ (rd_L3 l0 x5_1) _ _ (rd_L3 l1 x5_1) false _ (by first|exact hG|(repeat (first|exact hG|apply GL.drewN|apply GL.drew)))  ?side1 ?side2 ?side3 ?side4 A7.out).mono ?_);(case side1 => repeat (first|exact HR296_0.out|(with_reducible refine Kd.C_alloc ?_ _)|(with_reducible refine Kd.C_drewN ?_ _)|(with_reducible refine Kd.C_drew ?_)));(case side2 => exact HC296_0.out);(case side3 => repeat (first|exact HR297_0.out|(with_reducible refine Kd.C_alloc ?_ _)|(with_reducible refine Kd.C_drewN ?_ _)|(with_reducible refine Kd.C_drew ?_)));(case side4 => exact HC297_0.out);rintro e w' ⟨rfl,⟨nd,rfl⟩⟩;(try first|exact ⟨rfl,_,World.drewN_drewN _ _ _⟩|exact ⟨rfl,_,Eq.trans (World.drewN_drewN _ _ _) (congrArg (World.drewN _) (Nat.add_assoc _ _ _))⟩))))
        go_ret
        exact ⟨by first|rfl|(simp;done)|(simp [*];done)|(simp [qam];done),by repeat (first|exact Drawn0.refl _|apply Drawn0.step)⟩
      ·rw [if_neg c6] at H
       exact absurd H (by simp)
     ·rw [if_neg c5] at H
      exact absurd H (by simp)
    ·rw [if_neg c4] at H
     have c4b0 : decide (x5_1 < (l0.length : Int)) = false := decide_eq_false c4
     clear c4
     obtain rfl := Option.some.inj H
     go_wp2
     repeat (go_quiet (fail);try go_wp2)
     go_ret
     exact ⟨by first|rfl|(simp;done)|(simp [*];done)|(simp [qam];done),by repeat (first|exact Drawn0.refl _|apply Drawn0.step)⟩
 ·rw [if_neg c3] at H
  have c3b0 : ((l0.length : Int) == (l1.length : Int)) = false := beq_eq_false_iff_ne.mpr c3
  have c3b1 : ((l0.length : Int) != (l1.length : Int)) = true := bne_iff_ne.mpr c3
  have c3b2 : (l0.length == l1.length) = false := by first|simpa using c3|(simp at c3 ⊢;omega)
  obtain rfl := Option.some.inj H
  go_enter Tryz.func88,Tryz.ntmps88
  go_wp2
  repeat (go_quiet (fail);try go_wp2)
  go_ret
  exact ⟨by first|rfl|(simp;done)|(simp [*];done)|(simp [qam];done),by repeat (first|exact Drawn0.refl _|apply Drawn0.step)⟩
def keelsonlaw6_same.f (k : Nat) (a0_0 : ByteArray) (a0_1 : ByteArray) (l0_2 : List (List (S27))) (l0_3 : List (List (S27))) (l0_4 : List (S27)) (l0_5 : List (S27)) (a1_0 : ByteArray) (a1_1 : ByteArray) (l1_2 : List (List (S27))) (l1_3 : List (List (S27))) (l1_4 : List (S27)) (l1_5 : List (S27)) : Option (Bool) := if a0_0.toList = a1_0.toList then (if a0_1.toList = a1_1.toList then ((keelsonlaw6_sameGroups.f k l0_2 l1_2).bind fun t301 => (if t301 = true then ((keelsonlaw6_sameGroups.f k l0_3 l1_3).bind fun t302 => (if t302 = true then ((keelsonlaw6_sameAtoms.f k l0_4 l1_4).bind fun t303 => (if t303 = true then ((keelsonlaw6_sameAtoms.f k l0_5 l1_5).bind fun t304 => (some t304)) else (some false))) else (some false))) else (some false))) else (some false)) else (some false)
theorem keelsonlaw6_same.mono : ∀ a0 a1 a2 a3 a4 a5 a6 a7 a8 a9 a10 a11 k,LeO (keelsonlaw6_same.f k a0 a1 a2 a3 a4 a5 a6 a7 a8 a9 a10 a11) (keelsonlaw6_same.f (k + 1) a0 a1 a2 a3 a4 a5 a6 a7 a8 a9 a10 a11) := by
 intro a0 a1 a2 a3 a4 a5 a6 a7 a8 a9 a10 a11 k
 unfold keelsonlaw6_same.f
 repeat' first
   | (with_reducible exact keelsonlaw6_sameAtoms.mono _ _ _)
   | (with_reducible exact keelsonlaw6_sameGroups.mono _ _ _)
   | (with_reducible exact LeO.refl _)
   | (with_reducible exact LeO.none _)
   | (with_reducible refine LeO.ite ?_ ?_)
   | (with_reducible refine LeO.bind ?_ (fun _ => ?_))
   | exact keelsonlaw6_sameAtoms.mono _ _ _
   | exact keelsonlaw6_sameGroups.mono _ _ _
   | exact LeO.none _
   | refine LeO.ite ?_ ?_
   | refine LeO.bind ?_ (fun _ => ?_)
theorem keelsonlaw6_same.calls (k : Nat) (a0_0 : ByteArray) (a0_1 : ByteArray) (A0_2 : Option Addr) (c0_2 : Nat) (l0_2 : List (List (S27))) (A0_3 : Option Addr) (c0_3 : Nat) (l0_3 : List (List (S27))) (A0_4 : Option Addr) (c0_4 : Nat) (l0_4 : List (S27)) (A0_5 : Option Addr) (c0_5 : Nat) (l0_5 : List (S27)) (a1_0 : ByteArray) (a1_1 : ByteArray) (A1_2 : Option Addr) (c1_2 : Nat) (l1_2 : List (List (S27))) (A1_3 : Option Addr) (c1_3 : Nat) (l1_3 : List (List (S27))) (A1_4 : Option Addr) (c1_4 : Nat) (l1_4 : List (S27)) (A1_5 : Option Addr) (c1_5 : Nat) (l1_5 : List (S27)) (r : Bool) (w : World) (hG : GL w) (hr0_2 : Kd.C (Kd.slice 27 k27) w A0_2 l0_2.length l0_2) (hc0_2 : l0_2.length ≤ c0_2) (hr0_3 : Kd.C (Kd.slice 27 k27) w A0_3 l0_3.length l0_3) (hc0_3 : l0_3.length ≤ c0_3) (hr0_4 : Kd.C k27 w A0_4 l0_4.length l0_4) (hc0_4 : l0_4.length ≤ c0_4) (hr0_5 : Kd.C k27 w A0_5 l0_5.length l0_5) (hc0_5 : l0_5.length ≤ c0_5) (hr1_2 : Kd.C (Kd.slice 27 k27) w A1_2 l1_2.length l1_2) (hc1_2 : l1_2.length ≤ c1_2) (hr1_3 : Kd.C (Kd.slice 27 k27) w A1_3 l1_3.length l1_3) (hc1_3 : l1_3.length ≤ c1_3) (hr1_4 : Kd.C k27 w A1_4 l1_4.length l1_4) (hc1_4 : l1_4.length ≤ c1_4) (hr1_5 : Kd.C k27 w A1_5 l1_5.length l1_5) (hc1_5 : l1_5.length ≤ c1_5) (h : keelsonlaw6_same.f k a0_0 a0_1 l0_2 l0_3 l0_4 l0_5 a1_0 a1_1 l1_2 l1_3 l1_4 l1_5 = some r) :
  Calls Tryz.prog 29 #[.agg #[.string a0_0,.string a0_1,.slice A0_2 l0_2.length c0_2,.slice A0_3 l0_3.length c0_3,.slice A0_4 l0_4.length c0_4,.slice A0_5 l0_5.length c0_5],.agg #[.string a1_0,.string a1_1,.slice A1_2 l1_2.length c1_2,.slice A1_3 l1_3.length c1_3,.slice A1_4 l1_4.length c1_4,.slice A1_5 l1_5.length c1_5]] w fun e w' => e = .returned (.bool r) ∧ Below w.heap.size w w' := by
 have hu25 := Tryz.underlying25
 have HR0_2 := Aside0.mk hr0_2
 have HC0_2 := Aside0.mk hc0_2
 clear hr0_2 hc0_2
 have HR0_3 := Aside0.mk hr0_3
 have HC0_3 := Aside0.mk hc0_3
 clear hr0_3 hc0_3
 have HR0_4 := Aside0.mk hr0_4
 have HC0_4 := Aside0.mk hc0_4
 clear hr0_4 hc0_4
 have HR0_5 := Aside0.mk hr0_5
 have HC0_5 := Aside0.mk hc0_5
 clear hr0_5 hc0_5
 have HR1_2 := Aside0.mk hr1_2
 have HC1_2 := Aside0.mk hc1_2
 clear hr1_2 hc1_2
 have HR1_3 := Aside0.mk hr1_3
 have HC1_3 := Aside0.mk hc1_3
 clear hr1_3 hc1_3
 have HR1_4 := Aside0.mk hr1_4
 have HC1_4 := Aside0.mk hc1_4
 clear hr1_4 hc1_4
 have HR1_5 := Aside0.mk hr1_5
 have HC1_5 := Aside0.mk hc1_5
 clear hr1_5 hc1_5
 have HB := Aside0.mk (Below.refl w.heap.size w)
 have H : (if a0_0.toList = a1_0.toList then (if a0_1.toList = a1_1.toList then ((keelsonlaw6_sameGroups.f k l0_2 l1_2).bind fun t301 => (if t301 = true then ((keelsonlaw6_sameGroups.f k l0_3 l1_3).bind fun t302 => (if t302 = true then ((keelsonlaw6_sameAtoms.f k l0_4 l1_4).bind fun t303 => (if t303 = true then ((keelsonlaw6_sameAtoms.f k l0_5 l1_5).bind fun t304 => (some t304)) else (some false))) else (some false))) else (some false))) else (some false)) else (some false)) = some r := h
 clear h
 by_cases c3 : a0_0.toList = a1_0.toList
 ·rw [if_pos c3] at H
  have c3b0 : (a0_0.toList == a1_0.toList) = true := beq_iff_eq.mpr c3
  have c3b1 : (a0_0.toList != a1_0.toList) = false := bne_eq_false_iff_eq.mpr c3
  clear c3
  by_cases c4 : a0_1.toList = a1_1.toList
  ·rw [if_pos c4] at H
   have c4b0 : (a0_1.toList == a1_1.toList) = true := beq_iff_eq.mpr c4
   have c4b1 : (a0_1.toList != a1_1.toList) = false := bne_eq_false_iff_eq.mpr c4
   clear c4
   replace H := Option.bind_eq_some_iff.mp H
   obtain ⟨t301,A50,H⟩ := H
   replace H : (if t301 = true then ((keelsonlaw6_sameGroups.f k l0_3 l1_3).bind fun t302 => (if t302 = true then ((keelsonlaw6_sameAtoms.f k l0_4 l1_4).bind fun t303 => (if t303 = true then ((keelsonlaw6_sameAtoms.f k l0_5 l1_5).bind fun t304 => (some t304)) else (some false))) else (some false))) else (some false)) = some r := H
   have A5 := Aside0.mk A50
   clear A50
   by_cases c6 : t301 = true
   ·subst c6
    have H1 : ((keelsonlaw6_sameGroups.f k l0_3 l1_3).bind fun t302 => (if t302 = true then ((keelsonlaw6_sameAtoms.f k l0_4 l1_4).bind fun t303 => (if t303 = true then ((keelsonlaw6_sameAtoms.f k l0_5 l1_5).bind fun t304 => (some t304)) else (some false))) else (some false))) = some r := by rw [if_pos rfl] at H;exact H
    clear H
    have H := H1
    clear H1
    replace H := Option.bind_eq_some_iff.mp H
    obtain ⟨t302,A70,H⟩ := H
    replace H : (if t302 = true then ((keelsonlaw6_sameAtoms.f k l0_4 l1_4).bind fun t303 => (if t303 = true then ((keelsonlaw6_sameAtoms.f k l0_5 l1_5).bind fun t304 => (some t304)) else (some false))) else (some false)) = some r := H
    have A7 := Aside0.mk A70
    clear A70
    by_cases c8 : t302 = true
    ·subst c8
     have H1 : ((keelsonlaw6_sameAtoms.f k l0_4 l1_4).bind fun t303 => (if t303 = true then ((keelsonlaw6_sameAtoms.f k l0_5 l1_5).bind fun t304 => (some t304)) else (some false))) = some r := by rw [if_pos rfl] at H;exact H
     clear H
     have H := H1
     clear H1
     replace H := Option.bind_eq_some_iff.mp H
     obtain ⟨t303,A90,H⟩ := H
     replace H : (if t303 = true then ((keelsonlaw6_sameAtoms.f k l0_5 l1_5).bind fun t304 => (some t304)) else (some false)) = some r := H
     have A9 := Aside0.mk A90
     clear A90
     by_cases c10 : t303 = true
     ·subst c10
      have H1 : ((keelsonlaw6_sameAtoms.f k l0_5 l1_5).bind fun t304 => (some t304)) = some r := by rw [if_pos rfl] at H;exact H
      clear H
      have H := H1
      clear H1
      replace H := Option.bind_eq_some_iff.mp H
      obtain ⟨t304,A110,H⟩ := H
      replace H : (some t304) = some r := H
      have A11 := Aside0.mk A110
      clear A110
      obtain rfl := Option.some.inj H
      go_enter Tryz.func29,Tryz.ntmps29
      have tok17 : True := trivial
      have tok18 : True := trivial
      have tok19 : True := trivial
      have tok20 : True := trivial
      go_wp2_with (first|((with_reducible refine gate_dst (N := 2) rfl ?_);refine box_event ?hg (N := 2) ?hd (cs := #[.string a0_0,.string a0_1,.slice A0_2 l0_2.length c0_2,.slice A0_3 l0_3.length c0_3,.slice A0_4 l0_4.length c0_4,.slice A0_5 l0_5.length c0_5]) (t := 25) ?hr ?_;(case hd => rfl);(case hg => rfl);(case hr => first|(go_simp;done)|(go_simp;rfl));intro gb299 hg w12 hbox hb;have n0_ := Aside0.mk (qan (by repeat (with_reducible first|exact HB.out|apply qab|apply qaa|apply qac)) hb);have n1_ := Aside0.mk (hbox);have n2_ := Aside0.mk ((by rw [hg];exact (qao (by repeat (with_reducible first|exact HB.out|apply qab|apply qaa|apply qac))) : w.heap.size ≤ gb299));have n3_ := Aside0.mk ((by rw [hg];exact (qao (by repeat (with_reducible first|exact HB.out|apply qab|apply qaa|apply qac))) : w.heap.size ≤ gb299));clear HB;have HB := n0_;have BK299 := n1_;have GW299 := n2_;have GE299 := n3_;clear n0_ n1_ n2_ n3_;clear hb hbox hg)|((with_reducible refine gate_dst (N := 3) rfl ?_);refine box_event ?hg (N := 3) ?hd (cs := #[.string a1_0,.string a1_1,.slice A1_2 l1_2.length c1_2,.slice A1_3 l1_3.length c1_3,.slice A1_4 l1_4.length c1_4,.slice A1_5 l1_5.length c1_5]) (t := 25) ?hr ?_;(case hd => rfl);(case hg => rfl);(case hr => first|(go_simp;done)|(go_simp;rfl));intro gb300 hg w13 hbox hb;have n0_ := Aside0.mk (qaq (g := gb299) (o := .cells #[.string a0_0,.string a0_1,.slice A0_2 l0_2.length c0_2,.slice A0_3 l0_3.length c0_3,.slice A0_4 l0_4.length c0_4,.slice A0_5 l0_5.length c0_5] 25 (0,0)) (by (with_reducible repeat (first|refine qah ?_ _|refine qai ?_|refine qag ?_ _));exact BK299.out) hb);have n1_ := Aside0.mk (qan (by repeat (first|(with_reducible first|exact HB.out|apply qab|apply qaa|apply qac|refine qaf ?_ GE299.out)|exact HB.out)) hb);have n2_ := Aside0.mk (hbox);have n3_ := Aside0.mk ((by rw [hg];exact (qao (by repeat (first|(with_reducible first|exact HB.out|apply qab|apply qaa|apply qac|refine qaf ?_ GE299.out)|exact HB.out))) : w.heap.size ≤ gb300));have n4_ := Aside0.mk ((by rw [hg];exact (qao (by repeat (first|(with_reducible first|exact HB.out|apply qab|apply qaa|apply qac|refine qaf ?_ GE299.out)|exact HB.out))) : w.heap.size ≤ gb300));have n5_ := Aside0.mk ((by rw [hg];exact Nat.ne_of_lt (blk_lt (g := gb299) (o := .cells #[.string a0_0,.string a0_1,.slice A0_2 l0_2.length c0_2,.slice A0_3 l0_3.length c0_3,.slice A0_4 l0_4.length c0_4,.slice A0_5 l0_5.length c0_5] 25 (0,0)) (by (with_reducible repeat (first|refine qah ?_ _|refine qai ?_|refine qag ?_ _));exact BK299.out)) : gb299 ≠ gb300));have n6_ := Aside0.mk ((by rw [hg];exact Nat.ne_of_gt (blk_lt (g := gb299) (o := .cells #[.string a0_0,.string a0_1,.slice A0_2 l0_2.length c0_2,.slice A0_3 l0_3.length c0_3,.slice A0_4 l0_4.length c0_4,.slice A0_5 l0_5.length c0_5] 25 (0,0)) (by (with_reducible repeat (first|refine qah ?_ _|refine qai ?_|refine qag ?_ _));exact BK299.out)) : gb300 ≠ gb299));clear BK299;clear HB;have BK299 := n0_;have HB := n1_;have BK300 := n2_;have GW300 := n3_;have GE300 := n4_;have NB299_300 := n5_;have NB300_299 := n6_;clear n0_ n1_ n2_ n3_ n4_ n5_ n6_;clear hb hbox hg;have hnb14 := NB299_300.out;have hnc14 := NB300_299.out;have hcz15_0 : w13.cell? ⟨gb299,0,none⟩ = some (.string a0_0) := (qae BK299.out 0).trans rfl;have hcz15_1 : w13.cell? ⟨gb299,1,none⟩ = some (.string a0_1) := (qae BK299.out 1).trans rfl;have hcz15_2 : w13.cell? ⟨gb299,2,none⟩ = some (.slice A0_2 l0_2.length c0_2) := (qae BK299.out 2).trans rfl;have hcz15_3 : w13.cell? ⟨gb299,3,none⟩ = some (.slice A0_3 l0_3.length c0_3) := (qae BK299.out 3).trans rfl;have hcz15_4 : w13.cell? ⟨gb299,4,none⟩ = some (.slice A0_4 l0_4.length c0_4) := (qae BK299.out 4).trans rfl;have hcz15_5 : w13.cell? ⟨gb299,5,none⟩ = some (.slice A0_5 l0_5.length c0_5) := (qae BK299.out 5).trans rfl;have hfz15_0 := qad BK299.out 0;have hfz15_1 := qad BK299.out 1;have hfz15_2 := qad BK299.out 2;have hfz15_3 := qad BK299.out 3;have hfz15_4 := qad BK299.out 4;have hfz15_5 := qad BK299.out 5;have hcz16_0 : w13.cell? ⟨gb300,0,none⟩ = some (.string a1_0) := (qae BK300.out 0).trans rfl;have hcz16_1 : w13.cell? ⟨gb300,1,none⟩ = some (.string a1_1) := (qae BK300.out 1).trans rfl;have hcz16_2 : w13.cell? ⟨gb300,2,none⟩ = some (.slice A1_2 l1_2.length c1_2) := (qae BK300.out 2).trans rfl;have hcz16_3 : w13.cell? ⟨gb300,3,none⟩ = some (.slice A1_3 l1_3.length c1_3) := (qae BK300.out 3).trans rfl;have hcz16_4 : w13.cell? ⟨gb300,4,none⟩ = some (.slice A1_4 l1_4.length c1_4) := (qae BK300.out 4).trans rfl;have hcz16_5 : w13.cell? ⟨gb300,5,none⟩ = some (.slice A1_5 l1_5.length c1_5) := (qae BK300.out 5).trans rfl;have hfz16_0 := qad BK300.out 0;have hfz16_1 := qad BK300.out 1;have hfz16_2 := qad BK300.out 2;have hfz16_3 := qad BK300.out 3;have hfz16_4 := qad BK300.out 4;have hfz16_5 := qad BK300.out 5)|(go_at_call 88;have _t_ := tok17;clear _t_ tok17;(with_reducible refine (keelsonlaw6_sameGroups.calls k _ _ l0_2 _ _ l1_2 true _ (by first|exact hG|exact GL.below hG (by repeat (first|(with_reducible first|exact HB.out|apply qab|apply qaa|apply qac|refine qaf ?_ GE299.out|refine qaf ?_ GE300.out)|exact HB.out)))  ?side1 ?side2 ?side3 ?side4 A5.out).mono ?_);(case side1 => repeat (first|exact (Kd.C_below HR0_2.out HB.out)|(with_reducible refine Kd.C_alloc ?_ _)|(with_reducible refine Kd.C_drewN ?_ _)|(with_reducible refine Kd.C_drew ?_)));(case side2 => exact HC0_2.out);(case side3 => repeat (first|exact (Kd.C_below HR1_2.out HB.out)|(with_reducible refine Kd.C_alloc ?_ _)|(with_reducible refine Kd.C_drewN ?_ _)|(with_reducible refine Kd.C_drew ?_)));(case side4 => exact HC1_2.out);rintro e w' ⟨rfl,⟨nd,rfl⟩⟩)|(go_at_call 88;have _t_ := tok18;clear _t_ tok18;(with_reducible refine (keelsonlaw6_sameGroups.calls k _ _ l0_3 _ _ l1_3 true _ (by first|exact hG|exact GL.below hG (by repeat (first|(with_reducible first|exact HB.out|apply qab|apply qaa|apply qac|refine qaf ?_ GE299.out|refine qaf ?_ GE300.out)|exact HB.out)))  ?side1 ?side2 ?side3 ?side4 A7.out).mono ?_);(case side1 => repeat (first|exact (Kd.C_below HR0_3.out (by repeat (first|(with_reducible first|exact HB.out|apply qab|apply qaa|apply qac|refine qaf ?_ GE299.out|refine qaf ?_ GE300.out)|exact HB.out)))|(with_reducible refine Kd.C_alloc ?_ _)|(with_reducible refine Kd.C_drewN ?_ _)|(with_reducible refine Kd.C_drew ?_)));(case side2 => exact HC0_3.out);(case side3 => repeat (first|exact (Kd.C_below HR1_3.out (by repeat (first|(with_reducible first|exact HB.out|apply qab|apply qaa|apply qac|refine qaf ?_ GE299.out|refine qaf ?_ GE300.out)|exact HB.out)))|(with_reducible refine Kd.C_alloc ?_ _)|(with_reducible refine Kd.C_drewN ?_ _)|(with_reducible refine Kd.C_drew ?_)));(case side4 => exact HC1_3.out);rintro e w' ⟨rfl,⟨nd,rfl⟩⟩)|(go_at_call 17;have _t_ := tok19;clear _t_ tok19;(with_reducible refine (keelsonlaw6_sameAtoms.calls k _ _ l0_4 _ _ l1_4 true _ (by first|exact hG|exact GL.below hG (by repeat (first|(with_reducible first|exact HB.out|apply qab|apply qaa|apply qac|refine qaf ?_ GE299.out|refine qaf ?_ GE300.out)|exact HB.out)))  ?side1 ?side2 ?side3 ?side4 A9.out).mono ?_);(case side1 => repeat (first|exact (Kd.C_below HR0_4.out (by repeat (first|(with_reducible first|exact HB.out|apply qab|apply qaa|apply qac|refine qaf ?_ GE299.out|refine qaf ?_ GE300.out)|exact HB.out)))|(with_reducible refine Kd.C_alloc ?_ _)|(with_reducible refine Kd.C_drewN ?_ _)|(with_reducible refine Kd.C_drew ?_)));(case side2 => exact HC0_4.out);(case side3 => repeat (first|exact (Kd.C_below HR1_4.out (by repeat (first|(with_reducible first|exact HB.out|apply qab|apply qaa|apply qac|refine qaf ?_ GE299.out|refine qaf ?_ GE300.out)|exact HB.out)))|(with_reducible refine Kd.C_alloc ?_ _)|(with_reducible refine Kd.C_drewN ?_ _)|(with_reducible refine Kd.C_drew ?_)));(case side4 => exact HC1_4.out);rintro e w' ⟨rfl,⟨nd,rfl⟩⟩)|(go_at_call 17;have _t_ := tok20;clear _t_ tok20;(with_reducible refine (keelsonlaw6_sameAtoms.calls k _ _ l0_5 _ _ l1_5 t304 _ (by first|exact hG|exact GL.below hG (by repeat (first|(with_reducible first|exact HB.out|apply qab|apply qaa|apply qac|refine qaf ?_ GE299.out|refine qaf ?_ GE300.out)|exact HB.out)))  ?side1 ?side2 ?side3 ?side4 A11.out).mono ?_);(case side1 => repeat (first|exact (Kd.C_below HR0_5.out (by repeat (first|(with_reducible first|exact HB.out|apply qab|apply qaa|apply qac|refine qaf ?_ GE299.out|refine qaf ?_ GE300.out)|exact HB.out)))|(with_reducible refine Kd.C_alloc ?_ _)|(with_reducible refine Kd.C_drewN ?_ _)|(with_reducible refine Kd.C_drew ?_)));(case side2 => exact HC0_5.out);(case side3 => repeat (first|exact (Kd.C_below HR1_5.out (by repeat (first|(with_reducible first|exact HB.out|apply qab|apply qaa|apply qac|refine qaf ?_ GE299.out|refine qaf ?_ GE300.out)|exact HB.out)))|(with_reducible refine Kd.C_alloc ?_ _)|(with_reducible refine Kd.C_drewN ?_ _)|(with_reducible refine Kd.C_drew ?_)));(case side4 => exact HC1_5.out);rintro e w' ⟨rfl,⟨nd,rfl⟩⟩))
      go_ret
      exact ⟨by first|rfl|(simp [qaj,qak]<;>rfl)|(simp [*,qaj,qak]<;>rfl),by repeat (first|(with_reducible first|exact HB.out|apply qab|apply qaa|apply qac|refine qaf ?_ GE299.out|refine qaf ?_ GE300.out)|exact HB.out)⟩
     ·replace c10 := Bool.eq_false_iff.mpr c10
      subst c10
      have H1 : (some false) = some r := by rw [if_neg (show ¬ (false = true) by decide)] at H;exact H
      clear H
      have H := H1
      clear H1
      obtain rfl := Option.some.inj H
      go_enter Tryz.func29,Tryz.ntmps29
      have tok26 : True := trivial
      have tok27 : True := trivial
      go_wp2_with (first|((with_reducible refine gate_dst (N := 2) rfl ?_);refine box_event ?hg (N := 2) ?hd (cs := #[.string a0_0,.string a0_1,.slice A0_2 l0_2.length c0_2,.slice A0_3 l0_3.length c0_3,.slice A0_4 l0_4.length c0_4,.slice A0_5 l0_5.length c0_5]) (t := 25) ?hr ?_;(case hd => rfl);(case hg => rfl);(case hr => first|(go_simp;done)|(go_simp;rfl));intro gb299 hg w21 hbox hb;have n0_ := Aside0.mk (qan (by repeat (with_reducible first|exact HB.out|apply qab|apply qaa|apply qac)) hb);have n1_ := Aside0.mk (hbox);have n2_ := Aside0.mk ((by rw [hg];exact (qao (by repeat (with_reducible first|exact HB.out|apply qab|apply qaa|apply qac))) : w.heap.size ≤ gb299));have n3_ := Aside0.mk ((by rw [hg];exact (qao (by repeat (with_reducible first|exact HB.out|apply qab|apply qaa|apply qac))) : w.heap.size ≤ gb299));clear HB;have HB := n0_;have BK299 := n1_;have GW299 := n2_;have GE299 := n3_;clear n0_ n1_ n2_ n3_;clear hb hbox hg)|((with_reducible refine gate_dst (N := 3) rfl ?_);refine box_event ?hg (N := 3) ?hd (cs := #[.string a1_0,.string a1_1,.slice A1_2 l1_2.length c1_2,.slice A1_3 l1_3.length c1_3,.slice A1_4 l1_4.length c1_4,.slice A1_5 l1_5.length c1_5]) (t := 25) ?hr ?_;(case hd => rfl);(case hg => rfl);(case hr => first|(go_simp;done)|(go_simp;rfl));intro gb300 hg w22 hbox hb;have n0_ := Aside0.mk (qaq (g := gb299) (o := .cells #[.string a0_0,.string a0_1,.slice A0_2 l0_2.length c0_2,.slice A0_3 l0_3.length c0_3,.slice A0_4 l0_4.length c0_4,.slice A0_5 l0_5.length c0_5] 25 (0,0)) (by (with_reducible repeat (first|refine qah ?_ _|refine qai ?_|refine qag ?_ _));exact BK299.out) hb);have n1_ := Aside0.mk (qan (by repeat (first|(with_reducible first|exact HB.out|apply qab|apply qaa|apply qac|refine qaf ?_ GE299.out)|exact HB.out)) hb);have n2_ := Aside0.mk (hbox);have n3_ := Aside0.mk ((by rw [hg];exact (qao (by repeat (first|(with_reducible first|exact HB.out|apply qab|apply qaa|apply qac|refine qaf ?_ GE299.out)|exact HB.out))) : w.heap.size ≤ gb300));have n4_ := Aside0.mk ((by rw [hg];exact (qao (by repeat (first|(with_reducible first|exact HB.out|apply qab|apply qaa|apply qac|refine qaf ?_ GE299.out)|exact HB.out))) : w.heap.size ≤ gb300));have n5_ := Aside0.mk ((by rw [hg];exact Nat.ne_of_lt (blk_lt (g := gb299) (o := .cells #[.string a0_0,.string a0_1,.slice A0_2 l0_2.length c0_2,.slice A0_3 l0_3.length c0_3,.slice A0_4 l0_4.length c0_4,.slice A0_5 l0_5.length c0_5] 25 (0,0)) (by (with_reducible repeat (first|refine qah ?_ _|refine qai ?_|refine qag ?_ _));exact BK299.out)) : gb299 ≠ gb300));have n6_ := Aside0.mk ((by rw [hg];exact Nat.ne_of_gt (blk_lt (g := gb299) (o := .cells #[.string a0_0,.string a0_1,.slice A0_2 l0_2.length c0_2,.slice A0_3 l0_3.length c0_3,.slice A0_4 l0_4.length c0_4,.slice A0_5 l0_5.length c0_5] 25 (0,0)) (by (with_reducible repeat (first|refine qah ?_ _|refine qai ?_|refine qag ?_ _));exact BK299.out)) : gb300 ≠ gb299));clear BK299;clear HB;have BK299 := n0_;have HB := n1_;have BK300 := n2_;have GW300 := n3_;have GE300 := n4_;have NB299_300 := n5_;have NB300_299 := n6_;clear n0_ n1_ n2_ n3_ n4_ n5_ n6_;clear hb hbox hg;have hnb23 := NB299_300.out;have hnc23 := NB300_299.out;have hcz24_0 : w22.cell? ⟨gb299,0,none⟩ = some (.string a0_0) := (qae BK299.out 0).trans rfl;have hcz24_1 : w22.cell? ⟨gb299,1,none⟩ = some (.string a0_1) := (qae BK299.out 1).trans rfl;have hcz24_2 : w22.cell? ⟨gb299,2,none⟩ = some (.slice A0_2 l0_2.length c0_2) := (qae BK299.out 2).trans rfl;have hcz24_3 : w22.cell? ⟨gb299,3,none⟩ = some (.slice A0_3 l0_3.length c0_3) := (qae BK299.out 3).trans rfl;have hcz24_4 : w22.cell? ⟨gb299,4,none⟩ = some (.slice A0_4 l0_4.length c0_4) := (qae BK299.out 4).trans rfl;have hcz24_5 : w22.cell? ⟨gb299,5,none⟩ = some (.slice A0_5 l0_5.length c0_5) := (qae BK299.out 5).trans rfl;have hfz24_0 := qad BK299.out 0;have hfz24_1 := qad BK299.out 1;have hfz24_2 := qad BK299.out 2;have hfz24_3 := qad BK299.out 3;have hfz24_4 := qad BK299.out 4;have hfz24_5 := qad BK299.out 5;have hcz25_0 : w22.cell? ⟨gb300,0,none⟩ = some (.string a1_0) := (qae BK300.out 0).trans rfl;have hcz25_1 : w22.cell? ⟨gb300,1,none⟩ = some (.string a1_1) := (qae BK300.out 1).trans rfl;have hcz25_2 : w22.cell? ⟨gb300,2,none⟩ = some (.slice A1_2 l1_2.length c1_2) := (qae BK300.out 2).trans rfl;have hcz25_3 : w22.cell? ⟨gb300,3,none⟩ = some (.slice A1_3 l1_3.length c1_3) := (qae BK300.out 3).trans rfl;have hcz25_4 : w22.cell? ⟨gb300,4,none⟩ = some (.slice A1_4 l1_4.length c1_4) := (qae BK300.out 4).trans rfl;have hcz25_5 : w22.cell? ⟨gb300,5,none⟩ = some (.slice A1_5 l1_5.length c1_5) := (qae BK300.out 5).trans rfl;have hfz25_0 := qad BK300.out 0;have hfz25_1 := qad BK300.out 1;have hfz25_2 := qad BK300.out 2;have hfz25_3 := qad BK300.out 3;have hfz25_4 := qad BK300.out 4;have hfz25_5 := qad BK300.out 5)|(go_at_call 88;have _t_ := tok26;clear _t_ tok26;(with_reducible refine (keelsonlaw6_sameGroups.calls k _ _ l0_2 _ _ l1_2 true _ (by first|exact hG|exact GL.below hG (by repeat (first|(with_reducible first|exact HB.out|apply qab|apply qaa|apply qac|refine qaf ?_ GE299.out|refine qaf ?_ GE300.out)|exact HB.out)))  ?side1 ?side2 ?side3 ?side4 A5.out).mono ?_);(case side1 => repeat (first|exact (Kd.C_below HR0_2.out HB.out)|(with_reducible refine Kd.C_alloc ?_ _)|(with_reducible refine Kd.C_drewN ?_ _)|(with_reducible refine Kd.C_drew ?_)));(case side2 => exact HC0_2.out);(case side3 => repeat (first|exact (Kd.C_below HR1_2.out HB.out)|(with_reducible refine Kd.C_alloc ?_ _)|(with_reducible refine Kd.C_drewN ?_ _)|(with_reducible refine Kd.C_drew ?_)));(case side4 => exact HC1_2.out);rintro e w' ⟨rfl,⟨nd,rfl⟩⟩)|(go_at_call 88;have _t_ := tok27;clear _t_ tok27;(with_reducible refine (keelsonlaw6_sameGroups.calls k _ _ l0_3 _ _ l1_3 true _ (by first|exact hG|exact GL.below hG (by repeat (first|(with_reducible first|exact HB.out|apply qab|apply qaa|apply qac|refine qaf ?_ GE299.out|refine qaf ?_ GE300.out)|exact HB.out)))  ?side1 ?side2 ?side3 ?side4 A7.out).mono ?_);(case side1 => repeat (first|exact (Kd.C_below HR0_3.out (by repeat (first|(with_reducible first|exact HB.out|apply qab|apply qaa|apply qac|refine qaf ?_ GE299.out|refine qaf ?_ GE300.out)|exact HB.out)))|(with_reducible refine Kd.C_alloc ?_ _)|(with_reducible refine Kd.C_drewN ?_ _)|(with_reducible refine Kd.C_drew ?_)));(case side2 => exact HC0_3.out);(case side3 => repeat (first|exact (Kd.C_below HR1_3.out (by repeat (first|(with_reducible first|exact HB.out|apply qab|apply qaa|apply qac|refine qaf ?_ GE299.out|refine qaf ?_ GE300.out)|exact HB.out)))|(with_reducible refine Kd.C_alloc ?_ _)|(with_reducible refine Kd.C_drewN ?_ _)|(with_reducible refine Kd.C_drew ?_)));(case side4 => exact HC1_3.out);rintro e w' ⟨rfl,⟨nd,rfl⟩⟩)|(go_at_call 17;(with_reducible refine (keelsonlaw6_sameAtoms.calls k _ _ l0_4 _ _ l1_4 false _ (by first|exact hG|exact GL.below hG (by repeat (first|(with_reducible first|exact HB.out|apply qab|apply qaa|apply qac|refine qaf ?_ GE299.out|refine qaf ?_ GE300.out)|exact HB.out)))  ?side1 ?side2 ?side3 ?side4 A9.out).mono ?_);(case side1 => repeat (first|exact (Kd.C_below HR0_4.out (by repeat (first|(with_reducible first|exact HB.out|apply qab|apply qaa|apply qac|refine qaf ?_ GE299.out|refine qaf ?_ GE300.out)|exact HB.out)))|(with_reducible refine Kd.C_alloc ?_ _)|(with_reducible refine Kd.C_drewN ?_ _)|(with_reducible refine Kd.C_drew ?_)));(case side2 => exact HC0_4.out);(case side3 => repeat (first|exact (Kd.C_below HR1_4.out (by repeat (first|(with_reducible first|exact HB.out|apply qab|apply qaa|apply qac|refine qaf ?_ GE299.out|refine qaf ?_ GE300.out)|exact HB.out)))|(with_reducible refine Kd.C_alloc ?_ _)|(with_reducible refine Kd.C_drewN ?_ _)|(with_reducible refine Kd.C_drew ?_)));(case side4 => exact HC1_4.out);rintro e w' ⟨rfl,⟨nd,rfl⟩⟩))
      go_ret
      exact ⟨by first|rfl|(simp [qaj,qak]<;>rfl)|(simp [*,qaj,qak]<;>rfl),by repeat (first|(with_reducible first|exact HB.out|apply qab|apply qaa|apply qac|refine qaf ?_ GE299.out|refine qaf ?_ GE300.out)|exact HB.out)⟩
    ·replace c8 := Bool.eq_false_iff.mpr c8
     subst c8
     have H1 : (some false) = some r := by rw [if_neg (show ¬ (false = true) by decide)] at H;exact H
     clear H
     have H := H1
     clear H1
     obtain rfl := Option.some.inj H
     go_enter Tryz.func29,Tryz.ntmps29
     have tok33 : True := trivial
     have tok34 : True := trivial
     go_wp2_with (first|((with_reducible refine gate_dst (N := 2) rfl ?_);refine box_event ?hg (N := 2) ?hd (cs := #[.string a0_0,.string a0_1,.slice A0_2 l0_2.length c0_2,.slice A0_3 l0_3.length c0_3,.slice A0_4 l0_4.length c0_4,.slice A0_5 l0_5.length c0_5]) (t := 25) ?hr ?_;(case hd => rfl);(case hg => rfl);(case hr => first|(go_simp;done)|(go_simp;rfl));intro gb299 hg w28 hbox hb;have n0_ := Aside0.mk (qan (by repeat (with_reducible first|exact HB.out|apply qab|apply qaa|apply qac)) hb);have n1_ := Aside0.mk (hbox);have n2_ := Aside0.mk ((by rw [hg];exact (qao (by repeat (with_reducible first|exact HB.out|apply qab|apply qaa|apply qac))) : w.heap.size ≤ gb299));have n3_ := Aside0.mk ((by rw [hg];exact (qao (by repeat (with_reducible first|exact HB.out|apply qab|apply qaa|apply qac))) : w.heap.size ≤ gb299));clear HB;have HB := n0_;have BK299 := n1_;have GW299 := n2_;have GE299 := n3_;clear n0_ n1_ n2_ n3_;clear hb hbox hg)|((with_reducible refine gate_dst (N := 3) rfl ?_);refine box_event ?hg (N := 3) ?hd (cs := #[.string a1_0,.string a1_1,.slice A1_2 l1_2.length c1_2,.slice A1_3 l1_3.length c1_3,.slice A1_4 l1_4.length c1_4,.slice A1_5 l1_5.length c1_5]) (t := 25) ?hr ?_;(case hd => rfl);(case hg => rfl);(case hr => first|(go_simp;done)|(go_simp;rfl));intro gb300 hg w29 hbox hb;have n0_ := Aside0.mk (qaq (g := gb299) (o := .cells #[.string a0_0,.string a0_1,.slice A0_2 l0_2.length c0_2,.slice A0_3 l0_3.length c0_3,.slice A0_4 l0_4.length c0_4,.slice A0_5 l0_5.length c0_5] 25 (0,0)) (by (with_reducible repeat (first|refine qah ?_ _|refine qai ?_|refine qag ?_ _));exact BK299.out) hb);have n1_ := Aside0.mk (qan (by repeat (first|(with_reducible first|exact HB.out|apply qab|apply qaa|apply qac|refine qaf ?_ GE299.out)|exact HB.out)) hb);have n2_ := Aside0.mk (hbox);have n3_ := Aside0.mk ((by rw [hg];exact (qao (by repeat (first|(with_reducible first|exact HB.out|apply qab|apply qaa|apply qac|refine qaf ?_ GE299.out)|exact HB.out))) : w.heap.size ≤ gb300));have n4_ := Aside0.mk ((by rw [hg];exact (qao (by repeat (first|(with_reducible first|exact HB.out|apply qab|apply qaa|apply qac|refine qaf ?_ GE299.out)|exact HB.out))) : w.heap.size ≤ gb300));have n5_ := Aside0.mk ((by rw [hg];exact Nat.ne_of_lt (blk_lt (g := gb299) (o := .cells #[.string a0_0,.string a0_1,.slice A0_2 l0_2.length c0_2,.slice A0_3 l0_3.length c0_3,.slice A0_4 l0_4.length c0_4,.slice A0_5 l0_5.length c0_5] 25 (0,0)) (by (with_reducible repeat (first|refine qah ?_ _|refine qai ?_|refine qag ?_ _));exact BK299.out)) : gb299 ≠ gb300));have n6_ := Aside0.mk ((by rw [hg];exact Nat.ne_of_gt (blk_lt (g := gb299) (o := .cells #[.string a0_0,.string a0_1,.slice A0_2 l0_2.length c0_2,.slice A0_3 l0_3.length c0_3,.slice A0_4 l0_4.length c0_4,.slice A0_5 l0_5.length c0_5] 25 (0,0)) (by (with_reducible repeat (first|refine qah ?_ _|refine qai ?_|refine qag ?_ _));exact BK299.out)) : gb300 ≠ gb299));clear BK299;clear HB;have BK299 := n0_;have HB := n1_;have BK300 := n2_;have GW300 := n3_;have GE300 := n4_;have NB299_300 := n5_;have NB300_299 := n6_;clear n0_ n1_ n2_ n3_ n4_ n5_ n6_;clear hb hbox hg;have hnb30 := NB299_300.out;have hnc30 := NB300_299.out;have hcz31_0 : w29.cell? ⟨gb299,0,none⟩ = some (.string a0_0) := (qae BK299.out 0).trans rfl;have hcz31_1 : w29.cell? ⟨gb299,1,none⟩ = some (.string a0_1) := (qae BK299.out 1).trans rfl;have hcz31_2 : w29.cell? ⟨gb299,2,none⟩ = some (.slice A0_2 l0_2.length c0_2) := (qae BK299.out 2).trans rfl;have hcz31_3 : w29.cell? ⟨gb299,3,none⟩ = some (.slice A0_3 l0_3.length c0_3) := (qae BK299.out 3).trans rfl;have hcz31_4 : w29.cell? ⟨gb299,4,none⟩ = some (.slice A0_4 l0_4.length c0_4) := (qae BK299.out 4).trans rfl;have hcz31_5 : w29.cell? ⟨gb299,5,none⟩ = some (.slice A0_5 l0_5.length c0_5) := (qae BK299.out 5).trans rfl;have hfz31_0 := qad BK299.out 0;have hfz31_1 := qad BK299.out 1;have hfz31_2 := qad BK299.out 2;have hfz31_3 := qad BK299.out 3;have hfz31_4 := qad BK299.out 4;have hfz31_5 := qad BK299.out 5;have hcz32_0 : w29.cell? ⟨gb300,0,none⟩ = some (.string a1_0) := (qae BK300.out 0).trans rfl;have hcz32_1 : w29.cell? ⟨gb300,1,none⟩ = some (.string a1_1) := (qae BK300.out 1).trans rfl;have hcz32_2 : w29.cell? ⟨gb300,2,none⟩ = some (.slice A1_2 l1_2.length c1_2) := (qae BK300.out 2).trans rfl;have hcz32_3 : w29.cell? ⟨gb300,3,none⟩ = some (.slice A1_3 l1_3.length c1_3) := (qae BK300.out 3).trans rfl;have hcz32_4 : w29.cell? ⟨gb300,4,none⟩ = some (.slice A1_4 l1_4.length c1_4) := (qae BK300.out 4).trans rfl;have hcz32_5 : w29.cell? ⟨gb300,5,none⟩ = some (.slice A1_5 l1_5.length c1_5) := (qae BK300.out 5).trans rfl;have hfz32_0 := qad BK300.out 0;have hfz32_1 := qad BK300.out 1;have hfz32_2 := qad BK300.out 2;have hfz32_3 := qad BK300.out 3;have hfz32_4 := qad BK300.out 4;have hfz32_5 := qad BK300.out 5)|(go_at_call 88;have _t_ := tok33;clear _t_ tok33;(with_reducible refine (keelsonlaw6_sameGroups.calls k _ _ l0_2 _ _ l1_2 true _ (by first|exact hG|exact GL.below hG (by repeat (first|(with_reducible first|exact HB.out|apply qab|apply qaa|apply qac|refine qaf ?_ GE299.out|refine qaf ?_ GE300.out)|exact HB.out)))  ?side1 ?side2 ?side3 ?side4 A5.out).mono ?_);(case side1 => repeat (first|exact (Kd.C_below HR0_2.out HB.out)|(with_reducible refine Kd.C_alloc ?_ _)|(with_reducible refine Kd.C_drewN ?_ _)|(with_reducible refine Kd.C_drew ?_)));(case side2 => exact HC0_2.out);(case side3 => repeat (first|exact (Kd.C_below HR1_2.out HB.out)|(with_reducible refine Kd.C_alloc ?_ _)|(with_reducible refine Kd.C_drewN ?_ _)|(with_reducible refine Kd.C_drew ?_)));(case side4 => exact HC1_2.out);rintro e w' ⟨rfl,⟨nd,rfl⟩⟩)|(go_at_call 88;have _t_ := tok34;clear _t_ tok34;(with_reducible refine (keelsonlaw6_sameGroups.calls k _ _ l0_3 _ _ l1_3 false _ (by first|exact hG|exact GL.below hG (by repeat (first|(with_reducible first|exact HB.out|apply qab|apply qaa|apply qac|refine qaf ?_ GE299.out|refine qaf ?_ GE300.out)|exact HB.out)))  ?side1 ?side2 ?side3 ?side4 A7.out).mono ?_);(case side1 => repeat (first|exact (Kd.C_below HR0_3.out (by repeat (first|(with_reducible first|exact HB.out|apply qab|apply qaa|apply qac|refine qaf ?_ GE299.out|refine qaf ?_ GE300.out)|exact HB.out)))|(with_reducible refine Kd.C_alloc ?_ _)|(with_reducible refine Kd.C_drewN ?_ _)|(with_reducible refine Kd.C_drew ?_)));(case side2 => exact HC0_3.out);(case side3 => repeat (first|exact (Kd.C_below HR1_3.out (by repeat (first|(with_reducible first|exact HB.out|apply qab|apply qaa|apply qac|refine qaf ?_ GE299.out|refine qaf ?_ GE300.out)|exact HB.out)))|(with_reducible refine Kd.C_alloc ?_ _)|(with_reducible refine Kd.C_drewN ?_ _)|(with_reducible refine Kd.C_drew ?_)));(case side4 => exact HC1_3.out);rintro e w' ⟨rfl,⟨nd,rfl⟩⟩))
     go_ret
     exact ⟨by first|rfl|(simp [qaj,qak]<;>rfl)|(simp [*,qaj,qak]<;>rfl),by repeat (first|(with_reducible first|exact HB.out|apply qab|apply qaa|apply qac|refine qaf ?_ GE299.out|refine qaf ?_ GE300.out)|exact HB.out)⟩
   ·replace c6 := Bool.eq_false_iff.mpr c6
    subst c6
    have H1 : (some false) = some r := by rw [if_neg (show ¬ (false = true) by decide)] at H;exact H
    clear H
    have H := H1
    clear H1
    obtain rfl := Option.some.inj H
    go_enter Tryz.func29,Tryz.ntmps29
    go_wp2_with (first|((with_reducible refine gate_dst (N := 2) rfl ?_);refine box_event ?hg (N := 2) ?hd (cs := #[.string a0_0,.string a0_1,.slice A0_2 l0_2.length c0_2,.slice A0_3 l0_3.length c0_3,.slice A0_4 l0_4.length c0_4,.slice A0_5 l0_5.length c0_5]) (t := 25) ?hr ?_;(case hd => rfl);(case hg => rfl);(case hr => first|(go_simp;done)|(go_simp;rfl));intro gb299 hg w35 hbox hb;have n0_ := Aside0.mk (qan (by repeat (with_reducible first|exact HB.out|apply qab|apply qaa|apply qac)) hb);have n1_ := Aside0.mk (hbox);have n2_ := Aside0.mk ((by rw [hg];exact (qao (by repeat (with_reducible first|exact HB.out|apply qab|apply qaa|apply qac))) : w.heap.size ≤ gb299));have n3_ := Aside0.mk ((by rw [hg];exact (qao (by repeat (with_reducible first|exact HB.out|apply qab|apply qaa|apply qac))) : w.heap.size ≤ gb299));clear HB;have HB := n0_;have BK299 := n1_;have GW299 := n2_;have GE299 := n3_;clear n0_ n1_ n2_ n3_;clear hb hbox hg)|((with_reducible refine gate_dst (N := 3) rfl ?_);refine box_event ?hg (N := 3) ?hd (cs := #[.string a1_0,.string a1_1,.slice A1_2 l1_2.length c1_2,.slice A1_3 l1_3.length c1_3,.slice A1_4 l1_4.length c1_4,.slice A1_5 l1_5.length c1_5]) (t := 25) ?hr ?_;(case hd => rfl);(case hg => rfl);(case hr => first|(go_simp;done)|(go_simp;rfl));intro gb300 hg w36 hbox hb;have n0_ := Aside0.mk (qaq (g := gb299) (o := .cells #[.string a0_0,.string a0_1,.slice A0_2 l0_2.length c0_2,.slice A0_3 l0_3.length c0_3,.slice A0_4 l0_4.length c0_4,.slice A0_5 l0_5.length c0_5] 25 (0,0)) (by (with_reducible repeat (first|refine qah ?_ _|refine qai ?_|refine qag ?_ _));exact BK299.out) hb);have n1_ := Aside0.mk (qan (by repeat (first|(with_reducible first|exact HB.out|apply qab|apply qaa|apply qac|refine qaf ?_ GE299.out)|exact HB.out)) hb);have n2_ := Aside0.mk (hbox);have n3_ := Aside0.mk ((by rw [hg];exact (qao (by repeat (first|(with_reducible first|exact HB.out|apply qab|apply qaa|apply qac|refine qaf ?_ GE299.out)|exact HB.out))) : w.heap.size ≤ gb300));have n4_ := Aside0.mk ((by rw [hg];exact (qao (by repeat (first|(with_reducible first|exact HB.out|apply qab|apply qaa|apply qac|refine qaf ?_ GE299.out)|exact HB.out))) : w.heap.size ≤ gb300));have n5_ := Aside0.mk ((by rw [hg];exact Nat.ne_of_lt (blk_lt (g := gb299) (o := .cells #[.string a0_0,.string a0_1,.slice A0_2 l0_2.length c0_2,.slice A0_3 l0_3.length c0_3,.slice A0_4 l0_4.length c0_4,.slice A0_5 l0_5.length c0_5] 25 (0,0)) (by (with_reducible repeat (first|refine qah ?_ _|refine qai ?_|refine qag ?_ _));exact BK299.out)) : gb299 ≠ gb300));have n6_ := Aside0.mk ((by rw [hg];exact Nat.ne_of_gt (blk_lt (g := gb299) (o := .cells #[.string a0_0,.string a0_1,.slice A0_2 l0_2.length c0_2,.slice A0_3 l0_3.length c0_3,.slice A0_4 l0_4.length c0_4,.slice A0_5 l0_5.length c0_5] 25 (0,0)) (by (with_reducible repeat (first|refine qah ?_ _|refine qai ?_|refine qag ?_ _));exact BK299.out)) : gb300 ≠ gb299));clear BK299;clear HB;have BK299 := n0_;have HB := n1_;have BK300 := n2_;have GW300 := n3_;have GE300 := n4_;have NB299_300 := n5_;have NB300_299 := n6_;clear n0_ n1_ n2_ n3_ n4_ n5_ n6_;clear hb hbox hg;have hnb37 := NB299_300.out;have hnc37 := NB300_299.out;have hcz38_0 : w36.cell? ⟨gb299,0,none⟩ = some (.string a0_0) := (qae BK299.out 0).trans rfl;have hcz38_1 : w36.cell? ⟨gb299,1,none⟩ = some (.string a0_1) := (qae BK299.out 1).trans rfl;have hcz38_2 : w36.cell? ⟨gb299,2,none⟩ = some (.slice A0_2 l0_2.length c0_2) := (qae BK299.out 2).trans rfl;have hcz38_3 : w36.cell? ⟨gb299,3,none⟩ = some (.slice A0_3 l0_3.length c0_3) := (qae BK299.out 3).trans rfl;have hcz38_4 : w36.cell? ⟨gb299,4,none⟩ = some (.slice A0_4 l0_4.length c0_4) := (qae BK299.out 4).trans rfl;have hcz38_5 : w36.cell? ⟨gb299,5,none⟩ = some (.slice A0_5 l0_5.length c0_5) := (qae BK299.out 5).trans rfl;have hfz38_0 := qad BK299.out 0;have hfz38_1 := qad BK299.out 1;have hfz38_2 := qad BK299.out 2;have hfz38_3 := qad BK299.out 3;have hfz38_4 := qad BK299.out 4;have hfz38_5 := qad BK299.out 5;have hcz39_0 : w36.cell? ⟨gb300,0,none⟩ = some (.string a1_0) := (qae BK300.out 0).trans rfl;have hcz39_1 : w36.cell? ⟨gb300,1,none⟩ = some (.string a1_1) := (qae BK300.out 1).trans rfl;have hcz39_2 : w36.cell? ⟨gb300,2,none⟩ = some (.slice A1_2 l1_2.length c1_2) := (qae BK300.out 2).trans rfl;have hcz39_3 : w36.cell? ⟨gb300,3,none⟩ = some (.slice A1_3 l1_3.length c1_3) := (qae BK300.out 3).trans rfl;have hcz39_4 : w36.cell? ⟨gb300,4,none⟩ = some (.slice A1_4 l1_4.length c1_4) := (qae BK300.out 4).trans rfl;have hcz39_5 : w36.cell? ⟨gb300,5,none⟩ = some (.slice A1_5 l1_5.length c1_5) := (qae BK300.out 5).trans rfl;have hfz39_0 := qad BK300.out 0;have hfz39_1 := qad BK300.out 1;have hfz39_2 := qad BK300.out 2;have hfz39_3 := qad BK300.out 3;have hfz39_4 := qad BK300.out 4;have hfz39_5 := qad BK300.out 5)|(go_at_call 88;(with_reducible refine (keelsonlaw6_sameGroups.calls k _ _ l0_2 _ _ l1_2 false _ (by first|exact hG|exact GL.below hG (by repeat (first|(with_reducible first|exact HB.out|apply qab|apply qaa|apply qac|refine qaf ?_ GE299.out|refine qaf ?_ GE300.out)|exact HB.out)))  ?side1 ?side2 ?side3 ?side4 A5.out).mono ?_);(case side1 => repeat (first|exact (Kd.C_below HR0_2.out HB.out)|(with_reducible refine Kd.C_alloc ?_ _)|(with_reducible refine Kd.C_drewN ?_ _)|(with_reducible refine Kd.C_drew ?_)));(case side2 => exact HC0_2.out);(case side3 => repeat (first|exact (Kd.C_below HR1_2.out HB.out)|(with_reducible refine Kd.C_alloc ?_ _)|(with_reducible refine Kd.C_drewN ?_ _)|(with_reducible refine Kd.C_drew ?_)));(case side4 => exact HC1_2.out);rintro e w' ⟨rfl,⟨nd,rfl⟩⟩))
    go_ret
    exact ⟨by first|rfl|(simp [qaj,qak]<;>rfl)|(simp [*,qaj,qak]<;>rfl),by repeat (first|(with_reducible first|exact HB.out|apply qab|apply qaa|apply qac|refine qaf ?_ GE299.out|refine qaf ?_ GE300.out)|exact HB.out)⟩
  ·rw [if_neg c4] at H
   have c4b0 : (a0_1.toList == a1_1.toList) = false := beq_eq_false_iff_ne.mpr c4
   have c4b1 : (a0_1.toList != a1_1.toList) = true := bne_iff_ne.mpr c4
   obtain rfl := Option.some.inj H
   go_enter Tryz.func29,Tryz.ntmps29
   go_wp2_with (first|((with_reducible refine gate_dst (N := 2) rfl ?_);refine box_event ?hg (N := 2) ?hd (cs := #[.string a0_0,.string a0_1,.slice A0_2 l0_2.length c0_2,.slice A0_3 l0_3.length c0_3,.slice A0_4 l0_4.length c0_4,.slice A0_5 l0_5.length c0_5]) (t := 25) ?hr ?_;(case hd => rfl);(case hg => rfl);(case hr => first|(go_simp;done)|(go_simp;rfl));intro gb299 hg w40 hbox hb;have n0_ := Aside0.mk (qan (by repeat (with_reducible first|exact HB.out|apply qab|apply qaa|apply qac)) hb);have n1_ := Aside0.mk (hbox);have n2_ := Aside0.mk ((by rw [hg];exact (qao (by repeat (with_reducible first|exact HB.out|apply qab|apply qaa|apply qac))) : w.heap.size ≤ gb299));have n3_ := Aside0.mk ((by rw [hg];exact (qao (by repeat (with_reducible first|exact HB.out|apply qab|apply qaa|apply qac))) : w.heap.size ≤ gb299));clear HB;have HB := n0_;have BK299 := n1_;have GW299 := n2_;have GE299 := n3_;clear n0_ n1_ n2_ n3_;clear hb hbox hg)|((with_reducible refine gate_dst (N := 3) rfl ?_);refine box_event ?hg (N := 3) ?hd (cs := #[.string a1_0,.string a1_1,.slice A1_2 l1_2.length c1_2,.slice A1_3 l1_3.length c1_3,.slice A1_4 l1_4.length c1_4,.slice A1_5 l1_5.length c1_5]) (t := 25) ?hr ?_;(case hd => rfl);(case hg => rfl);(case hr => first|(go_simp;done)|(go_simp;rfl));intro gb300 hg w41 hbox hb;have n0_ := Aside0.mk (qaq (g := gb299) (o := .cells #[.string a0_0,.string a0_1,.slice A0_2 l0_2.length c0_2,.slice A0_3 l0_3.length c0_3,.slice A0_4 l0_4.length c0_4,.slice A0_5 l0_5.length c0_5] 25 (0,0)) (by (with_reducible repeat (first|refine qah ?_ _|refine qai ?_|refine qag ?_ _));exact BK299.out) hb);have n1_ := Aside0.mk (qan (by repeat (first|(with_reducible first|exact HB.out|apply qab|apply qaa|apply qac|refine qaf ?_ GE299.out)|exact HB.out)) hb);have n2_ := Aside0.mk (hbox);have n3_ := Aside0.mk ((by rw [hg];exact (qao (by repeat (first|(with_reducible first|exact HB.out|apply qab|apply qaa|apply qac|refine qaf ?_ GE299.out)|exact HB.out))) : w.heap.size ≤ gb300));have n4_ := Aside0.mk ((by rw [hg];exact (qao (by repeat (first|(with_reducible first|exact HB.out|apply qab|apply qaa|apply qac|refine qaf ?_ GE299.out)|exact HB.out))) : w.heap.size ≤ gb300));have n5_ := Aside0.mk ((by rw [hg];exact Nat.ne_of_lt (blk_lt (g := gb299) (o := .cells #[.string a0_0,.string a0_1,.slice A0_2 l0_2.length c0_2,.slice A0_3 l0_3.length c0_3,.slice A0_4 l0_4.length c0_4,.slice A0_5 l0_5.length c0_5] 25 (0,0)) (by (with_reducible repeat (first|refine qah ?_ _|refine qai ?_|refine qag ?_ _));exact BK299.out)) : gb299 ≠ gb300));have n6_ := Aside0.mk ((by rw [hg];exact Nat.ne_of_gt (blk_lt (g := gb299) (o := .cells #[.string a0_0,.string a0_1,.slice A0_2 l0_2.length c0_2,.slice A0_3 l0_3.length c0_3,.slice A0_4 l0_4.length c0_4,.slice A0_5 l0_5.length c0_5] 25 (0,0)) (by (with_reducible repeat (first|refine qah ?_ _|refine qai ?_|refine qag ?_ _));exact BK299.out)) : gb300 ≠ gb299));clear BK299;clear HB;have BK299 := n0_;have HB := n1_;have BK300 := n2_;have GW300 := n3_;have GE300 := n4_;have NB299_300 := n5_;have NB300_299 := n6_;clear n0_ n1_ n2_ n3_ n4_ n5_ n6_;clear hb hbox hg;have hnb42 := NB299_300.out;have hnc42 := NB300_299.out;have hcz43_0 : w41.cell? ⟨gb299,0,none⟩ = some (.string a0_0) := (qae BK299.out 0).trans rfl;have hcz43_1 : w41.cell? ⟨gb299,1,none⟩ = some (.string a0_1) := (qae BK299.out 1).trans rfl;have hcz43_2 : w41.cell? ⟨gb299,2,none⟩ = some (.slice A0_2 l0_2.length c0_2) := (qae BK299.out 2).trans rfl;have hcz43_3 : w41.cell? ⟨gb299,3,none⟩ = some (.slice A0_3 l0_3.length c0_3) := (qae BK299.out 3).trans rfl;have hcz43_4 : w41.cell? ⟨gb299,4,none⟩ = some (.slice A0_4 l0_4.length c0_4) := (qae BK299.out 4).trans rfl;have hcz43_5 : w41.cell? ⟨gb299,5,none⟩ = some (.slice A0_5 l0_5.length c0_5) := (qae BK299.out 5).trans rfl;have hfz43_0 := qad BK299.out 0;have hfz43_1 := qad BK299.out 1;have hfz43_2 := qad BK299.out 2;have hfz43_3 := qad BK299.out 3;have hfz43_4 := qad BK299.out 4;have hfz43_5 := qad BK299.out 5;have hcz44_0 : w41.cell? ⟨gb300,0,none⟩ = some (.string a1_0) := (qae BK300.out 0).trans rfl;have hcz44_1 : w41.cell? ⟨gb300,1,none⟩ = some (.string a1_1) := (qae BK300.out 1).trans rfl;have hcz44_2 : w41.cell? ⟨gb300,2,none⟩ = some (.slice A1_2 l1_2.length c1_2) := (qae BK300.out 2).trans rfl;have hcz44_3 : w41.cell? ⟨gb300,3,none⟩ = some (.slice A1_3 l1_3.length c1_3) := (qae BK300.out 3).trans rfl;have hcz44_4 : w41.cell? ⟨gb300,4,none⟩ = some (.slice A1_4 l1_4.length c1_4) := (qae BK300.out 4).trans rfl;have hcz44_5 : w41.cell? ⟨gb300,5,none⟩ = some (.slice A1_5 l1_5.length c1_5) := (qae BK300.out 5).trans rfl;have hfz44_0 := qad BK300.out 0;have hfz44_1 := qad BK300.out 1;have hfz44_2 := qad BK300.out 2;have hfz44_3 := qad BK300.out 3;have hfz44_4 := qad BK300.out 4;have hfz44_5 := qad BK300.out 5))
   go_ret
   exact ⟨by first|rfl|(simp [qaj,qak]<;>rfl)|(simp [*,qaj,qak]<;>rfl),by repeat (first|(with_reducible first|exact HB.out|apply qab|apply qaa|apply qac|refine qaf ?_ GE299.out|refine qaf ?_ GE300.out)|exact HB.out)⟩
 ·rw [if_neg c3] at H
  have c3b0 : (a0_0.toList == a1_0.toList) = false := beq_eq_false_iff_ne.mpr c3
  have c3b1 : (a0_0.toList != a1_0.toList) = true := bne_iff_ne.mpr c3
  obtain rfl := Option.some.inj H
  go_enter Tryz.func29,Tryz.ntmps29
  go_wp2_with (first|((with_reducible refine gate_dst (N := 2) rfl ?_);refine box_event ?hg (N := 2) ?hd (cs := #[.string a0_0,.string a0_1,.slice A0_2 l0_2.length c0_2,.slice A0_3 l0_3.length c0_3,.slice A0_4 l0_4.length c0_4,.slice A0_5 l0_5.length c0_5]) (t := 25) ?hr ?_;(case hd => rfl);(case hg => rfl);(case hr => first|(go_simp;done)|(go_simp;rfl));intro gb299 hg w45 hbox hb;have n0_ := Aside0.mk (qan (by repeat (with_reducible first|exact HB.out|apply qab|apply qaa|apply qac)) hb);have n1_ := Aside0.mk (hbox);have n2_ := Aside0.mk ((by rw [hg];exact (qao (by repeat (with_reducible first|exact HB.out|apply qab|apply qaa|apply qac))) : w.heap.size ≤ gb299));have n3_ := Aside0.mk ((by rw [hg];exact (qao (by repeat (with_reducible first|exact HB.out|apply qab|apply qaa|apply qac))) : w.heap.size ≤ gb299));clear HB;have HB := n0_;have BK299 := n1_;have GW299 := n2_;have GE299 := n3_;clear n0_ n1_ n2_ n3_;clear hb hbox hg)|((with_reducible refine gate_dst (N := 3) rfl ?_);refine box_event ?hg (N := 3) ?hd (cs := #[.string a1_0,.string a1_1,.slice A1_2 l1_2.length c1_2,.slice A1_3 l1_3.length c1_3,.slice A1_4 l1_4.length c1_4,.slice A1_5 l1_5.length c1_5]) (t := 25) ?hr ?_;(case hd => rfl);(case hg => rfl);(case hr => first|(go_simp;done)|(go_simp;rfl));intro gb300 hg w46 hbox hb;have n0_ := Aside0.mk (qaq (g := gb299) (o := .cells #[.string a0_0,.string a0_1,.slice A0_2 l0_2.length c0_2,.slice A0_3 l0_3.length c0_3,.slice A0_4 l0_4.length c0_4,.slice A0_5 l0_5.length c0_5] 25 (0,0)) (by (with_reducible repeat (first|refine qah ?_ _|refine qai ?_|refine qag ?_ _));exact BK299.out) hb);have n1_ := Aside0.mk (qan (by repeat (first|(with_reducible first|exact HB.out|apply qab|apply qaa|apply qac|refine qaf ?_ GE299.out)|exact HB.out)) hb);have n2_ := Aside0.mk (hbox);have n3_ := Aside0.mk ((by rw [hg];exact (qao (by repeat (first|(with_reducible first|exact HB.out|apply qab|apply qaa|apply qac|refine qaf ?_ GE299.out)|exact HB.out))) : w.heap.size ≤ gb300));have n4_ := Aside0.mk ((by rw [hg];exact (qao (by repeat (first|(with_reducible first|exact HB.out|apply qab|apply qaa|apply qac|refine qaf ?_ GE299.out)|exact HB.out))) : w.heap.size ≤ gb300));have n5_ := Aside0.mk ((by rw [hg];exact Nat.ne_of_lt (blk_lt (g := gb299) (o := .cells #[.string a0_0,.string a0_1,.slice A0_2 l0_2.length c0_2,.slice A0_3 l0_3.length c0_3,.slice A0_4 l0_4.length c0_4,.slice A0_5 l0_5.length c0_5] 25 (0,0)) (by (with_reducible repeat (first|refine qah ?_ _|refine qai ?_|refine qag ?_ _));exact BK299.out)) : gb299 ≠ gb300));have n6_ := Aside0.mk ((by rw [hg];exact Nat.ne_of_gt (blk_lt (g := gb299) (o := .cells #[.string a0_0,.string a0_1,.slice A0_2 l0_2.length c0_2,.slice A0_3 l0_3.length c0_3,.slice A0_4 l0_4.length c0_4,.slice A0_5 l0_5.length c0_5] 25 (0,0)) (by (with_reducible repeat (first|refine qah ?_ _|refine qai ?_|refine qag ?_ _));exact BK299.out)) : gb300 ≠ gb299));clear BK299;clear HB;have BK299 := n0_;have HB := n1_;have BK300 := n2_;have GW300 := n3_;have GE300 := n4_;have NB299_300 := n5_;have NB300_299 := n6_;clear n0_ n1_ n2_ n3_ n4_ n5_ n6_;clear hb hbox hg;have hnb47 := NB299_300.out;have hnc47 := NB300_299.out;have hcz48_0 : w46.cell? ⟨gb299,0,none⟩ = some (.string a0_0) := (qae BK299.out 0).trans rfl;have hcz48_1 : w46.cell? ⟨gb299,1,none⟩ = some (.string a0_1) := (qae BK299.out 1).trans rfl;have hcz48_2 : w46.cell? ⟨gb299,2,none⟩ = some (.slice A0_2 l0_2.length c0_2) := (qae BK299.out 2).trans rfl;have hcz48_3 : w46.cell? ⟨gb299,3,none⟩ = some (.slice A0_3 l0_3.length c0_3) := (qae BK299.out 3).trans rfl;have hcz48_4 : w46.cell? ⟨gb299,4,none⟩ = some (.slice A0_4 l0_4.length c0_4) := (qae BK299.out 4).trans rfl;have hcz48_5 : w46.cell? ⟨gb299,5,none⟩ = some (.slice A0_5 l0_5.length c0_5) := (qae BK299.out 5).trans rfl;have hfz48_0 := qad BK299.out 0;have hfz48_1 := qad BK299.out 1;have hfz48_2 := qad BK299.out 2;have hfz48_3 := qad BK299.out 3;have hfz48_4 := qad BK299.out 4;have hfz48_5 := qad BK299.out 5;have hcz49_0 : w46.cell? ⟨gb300,0,none⟩ = some (.string a1_0) := (qae BK300.out 0).trans rfl;have hcz49_1 : w46.cell? ⟨gb300,1,none⟩ = some (.string a1_1) := (qae BK300.out 1).trans rfl;have hcz49_2 : w46.cell? ⟨gb300,2,none⟩ = some (.slice A1_2 l1_2.length c1_2) := (qae BK300.out 2).trans rfl;have hcz49_3 : w46.cell? ⟨gb300,3,none⟩ = some (.slice A1_3 l1_3.length c1_3) := (qae BK300.out 3).trans rfl;have hcz49_4 : w46.cell? ⟨gb300,4,none⟩ = some (.slice A1_4 l1_4.length c1_4) := (qae BK300.out 4).trans rfl;have hcz49_5 : w46.cell? ⟨gb300,5,none⟩ = some (.slice A1_5 l1_5.length c1_5) := (qae BK300.out 5).trans rfl;have hfz49_0 := qad BK300.out 0;have hfz49_1 := qad BK300.out 1;have hfz49_2 := qad BK300.out 2;have hfz49_3 := qad BK300.out 3;have hfz49_4 := qad BK300.out 4;have hfz49_5 := qad BK300.out 5))
  go_ret
  exact ⟨by first|rfl|(simp [qaj,qak]<;>rfl)|(simp [*,qaj,qak]<;>rfl),by repeat (first|(with_reducible first|exact HB.out|apply qab|apply qaa|apply qac|refine qaf ?_ GE299.out|refine qaf ?_ GE300.out)|exact HB.out)⟩
def keelsonlaw6_light.l0 : Nat → List (S27) → Int → Option (Bool)
 | 0,_,_ => none
 | k + 1,x0,x3 => if x3 < (x0.length : Int) then (if 0 ≤ x3 then (if (((rd_T27 x0 x3).f0).size : Int) > 100 then (some false) else (if (((rd_T27 x0 x3).f2).size : Int) > 100 then (some false) else (keelsonlaw6_light.l0 k x0 (wrap64 (x3 + 1))))) else (none)) else (some true)
def keelsonlaw6_light.f (k : Nat) (l0 : List (S27)) : Option (Bool) := if (l0.length : Int) > 20 then (some false) else (keelsonlaw6_light.l0 k l0 0)
theorem keelsonlaw6_light.mono_l : ∀ k,(∀ y0 y1,LeO (keelsonlaw6_light.l0 k y0 y1) (keelsonlaw6_light.l0 (k + 1) y0 y1))
 | 0 => fun _ _ r h => by simp [keelsonlaw6_light.l0] at h
 | k + 1 => by
  have ih0 := keelsonlaw6_light.mono_l k
  ·intro y0 y1
   unfold keelsonlaw6_light.l0
   repeat' first
   | (with_reducible exact ih0 _ _)
   | (with_reducible exact LeO.refl _)
   | (with_reducible exact LeO.none _)
   | (with_reducible refine LeO.ite ?_ ?_)
   | (with_reducible refine LeO.bind ?_ (fun _ => ?_))
   | exact ih0 _ _
   | exact LeO.none _
   | refine LeO.ite ?_ ?_
   | refine LeO.bind ?_ (fun _ => ?_)
theorem keelsonlaw6_light.mono : ∀ a0 k,LeO (keelsonlaw6_light.f k a0) (keelsonlaw6_light.f (k + 1) a0) := by
 intro a0 k
 have ih0 := keelsonlaw6_light.mono_l k
 unfold keelsonlaw6_light.f
 repeat' first
   | (with_reducible exact ih0 _ _)
   | (with_reducible exact LeO.refl _)
   | (with_reducible exact LeO.none _)
   | (with_reducible refine LeO.ite ?_ ?_)
   | (with_reducible refine LeO.bind ?_ (fun _ => ?_))
   | exact ih0 _ _
   | exact LeO.none _
   | refine LeO.ite ?_ ?_
   | refine LeO.bind ?_ (fun _ => ?_)
theorem keelsonlaw6_light.calls (k : Nat) (A0 : Option Addr) (c0 : Nat) (l0 : List (S27)) (r : Bool) (w : World) (hG : GL w) (hr0 : Kd.C k27 w A0 l0.length l0) (hc0 : l0.length ≤ c0) (h : keelsonlaw6_light.f k l0 = some r) :
  Calls Tryz.prog 15 #[.slice A0 l0.length c0] w fun e w' => e = .returned (.bool r) ∧ Drawn0 w w' := by
 have HR0 := Aside0.mk hr0
 have HC0 := Aside0.mk hc0
 clear hr0 hc0
 have H : (if (l0.length : Int) > 20 then (some false) else (keelsonlaw6_light.l0 k l0 0)) = some r := h
 clear h
 by_cases c2 : (l0.length : Int) > 20
 ·rw [if_pos c2] at H
  have c2b0 : decide (20 < (l0.length : Int)) = true := decide_eq_true c2
  have c2b1 : decide (20 < l0.length) = true := decide_eq_true (by omega)
  clear c2
  obtain rfl := Option.some.inj H
  go_enter Tryz.func15,Tryz.ntmps15
  go_wp2
  go_ret
  exact ⟨by first|rfl|(simp;done)|(simp [*];done)|(simp [qam];done),by repeat (first|exact Drawn0.refl _|apply Drawn0.step)⟩
 ·rw [if_neg c2] at H
  have c2b0 : decide (20 < (l0.length : Int)) = false := decide_eq_false c2
  have c2b1 : decide (20 < l0.length) = false := decide_eq_false (by omega)
  clear c2
  have H' := Aside0.mk H
  clear H
  go_enter Tryz.func15,Tryz.ntmps15
  go_wp2
  go_loopg [3] k (fun kq v3 w' => ∃ (x3_1 : Int),v3 = .int .i64 x3_1 ∧ Aside0 (keelsonlaw6_light.l0 kq l0 x3_1 = some r) ∧ Aside0 (kq ≤ k) ∧ Drawn0 w w')
  case atStart => exact ⟨(0),(by first|rfl|(simp;done)|(simp [*];done)|(simp [qam];done)),H',⟨Nat.le_refl _⟩,by repeat (first|exact Drawn0.refl _|apply Drawn0.step)⟩
  case round =>
   clear H'
   try clear c1
   try clear c2
   try clear c2b0
   try clear c2b1
   try clear p2
   obtain ⟨x3_1,rfl,HA,HK1,⟨m1,rfl⟩⟩ := hrel
   cases gk with
   | zero => exact absurd HA.out (by simp [keelsonlaw6_light.l0])
   | succ k1 =>
    have H := HA.out
    clear HA
    simp only [keelsonlaw6_light.l0] at H
    by_cases c3 : x3_1 < (l0.length : Int)
    ·rw [if_pos c3] at H
     have c3b0 : decide (x3_1 < (l0.length : Int)) = true := decide_eq_true c3
     clear c3
     by_cases c4 : 0 ≤ x3_1
     ·rw [if_pos c4] at H
      have c4b0 : decide (0 ≤ x3_1) = true := decide_eq_true c4
      clear c4
      by_cases c5 : (((rd_T27 l0 x3_1).f0).size : Int) > 100
      ·rw [if_pos c5] at H
       have c5b0 : decide (100 < (((rd_T27 l0 x3_1).f0).size : Int)) = true := decide_eq_true c5
       have c5b1 : decide (100 < ((rd_T27 l0 x3_1).f0).size) = true := decide_eq_true (by omega)
       clear c5
       obtain rfl := Option.some.inj H
       have p308 : 0 ≤ (x3_1 : Int) := of_decide_eq_true (by assumption)
       have q308 : x3_1 < (l0.length : Int) := of_decide_eq_true (by assumption)
       obtain ⟨ad308,e308,hx308_0,hx308_1,hx308_2⟩ := at_T27 HR0.out x3_1 p308 q308
       cases e308
       replace p308 := eq_true p308
       replace q308 := eq_true q308
       go_wp2
       go_ret
       exact ⟨by first|rfl|(simp;done)|(simp [*];done)|(simp [qam];done),by repeat (first|exact Drawn0.refl _|apply Drawn0.step)⟩
      ·rw [if_neg c5] at H
       have c5b0 : decide (100 < (((rd_T27 l0 x3_1).f0).size : Int)) = false := decide_eq_false c5
       have c5b1 : decide (100 < ((rd_T27 l0 x3_1).f0).size) = false := decide_eq_false (by omega)
       clear c5
       by_cases c6 : (((rd_T27 l0 x3_1).f2).size : Int) > 100
       ·rw [if_pos c6] at H
        have c6b0 : decide (100 < (((rd_T27 l0 x3_1).f2).size : Int)) = true := decide_eq_true c6
        have c6b1 : decide (100 < ((rd_T27 l0 x3_1).f2).size) = true := decide_eq_true (by omega)
        clear c6
        obtain rfl := Option.some.inj H
        have p308 : 0 ≤ (x3_1 : Int) := of_decide_eq_true (by assumption)
        have q308 : x3_1 < (l0.length : Int) := of_decide_eq_true (by assumption)
        obtain ⟨ad308,e308,hx308_0,hx308_1,hx308_2⟩ := at_T27 HR0.out x3_1 p308 q308
        cases e308
        replace p308 := eq_true p308
        replace q308 := eq_true q308
        have p309 : 0 ≤ (x3_1 : Int) := of_decide_eq_true (by assumption)
        have q309 : x3_1 < (l0.length : Int) := of_decide_eq_true (by assumption)
        obtain ⟨ad309,e309,hx309_0,hx309_1,hx309_2⟩ := at_T27 HR0.out x3_1 p309 q309
        obtain rfl : ad308 = ad309 := (by injection e309)
        replace p309 := eq_true p309
        replace q309 := eq_true q309
        go_wp2
        go_ret
        exact ⟨by first|rfl|(simp;done)|(simp [*];done)|(simp [qam];done),by repeat (first|exact Drawn0.refl _|apply Drawn0.step)⟩
       ·rw [if_neg c6] at H
        have c6b0 : decide (100 < (((rd_T27 l0 x3_1).f2).size : Int)) = false := decide_eq_false c6
        have c6b1 : decide (100 < ((rd_T27 l0 x3_1).f2).size) = false := decide_eq_false (by omega)
        clear c6
        have H' := Aside0.mk H
        clear H
        have p308 : 0 ≤ (x3_1 : Int) := of_decide_eq_true (by assumption)
        have q308 : x3_1 < (l0.length : Int) := of_decide_eq_true (by assumption)
        obtain ⟨ad308,e308,hx308_0,hx308_1,hx308_2⟩ := at_T27 HR0.out x3_1 p308 q308
        cases e308
        replace p308 := eq_true p308
        replace q308 := eq_true q308
        have p309 : 0 ≤ (x3_1 : Int) := of_decide_eq_true (by assumption)
        have q309 : x3_1 < (l0.length : Int) := of_decide_eq_true (by assumption)
        obtain ⟨ad309,e309,hx309_0,hx309_1,hx309_2⟩ := at_T27 HR0.out x3_1 p309 q309
        obtain rfl : ad308 = ad309 := (by injection e309)
        replace p309 := eq_true p309
        replace q309 := eq_true q309
        go_wp2
        go_roundg k1
        case measure => have := HK1.out;omega
        case rel => exact ⟨(wrap64 (x3_1 + 1)),(by first|rfl|(simp;done)|(simp [*];done)|(simp [qam];done)),H',⟨by have := HK1.out;omega⟩,by repeat (first|exact Drawn0.refl _|apply Drawn0.step)⟩
     ·rw [if_neg c4] at H
      exact absurd H (by simp)
    ·rw [if_neg c3] at H
     have c3b0 : decide (x3_1 < (l0.length : Int)) = false := decide_eq_false c3
     clear c3
     obtain rfl := Option.some.inj H
     go_wp2
     go_ret
     exact ⟨by first|rfl|(simp;done)|(simp [*];done)|(simp [qam];done),by repeat (first|exact Drawn0.refl _|apply Drawn0.step)⟩
end Go.Proofs.YtooomjcdlfdnmaaGreatDoor.PA
