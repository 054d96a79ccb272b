
import Derived.Test.YtjbbgekkombpnaaGreatDoorPAx0
import Derived.Test.YtjbbgekkombpnaaGreatDoorPAx6
import Derived.Test.YtjbbgekkombpnaaGreatDoorPAx7
import Derived.Test.YtjbbgekkombpnaaGreatDoorPAx11
import Derived.Test.YtjbbgekkombpnaaGreatDoorPAx16
noncomputable section
namespace Go.Proofs.YtjbbgekkombpnaaGreatDoor.PA
open Go.RowKit Go.Proofs.YtjbbgekkombpnaaGreatDoorW.PrintWords Go.Proofs.YtjbbgekkombpnaaGreatDoorW.PrintLast Go.Proofs.YtjbbgekkombpnaaGreatDoorW.PrintMore
attribute [local go_sem] max2_int min2_int max_two min_two max_three min_three max_four min_four
set_option maxHeartbeats 8000000
set_option maxRecDepth 100000
set_option linter.unusedVariables false
set_option linter.unusedSimpArgs false
def keelsonlaw4_light.l0 : Nat → List (S39) → Int → Option (Bool)
 | 0,_,_ => none
 | k + 1,x0,x3 => if x3 < (x0.length : Int) then (if 0 ≤ x3 then (if (((rd_T39 x0 x3).f0).size : Int) > 100 then (some false) else (if (((rd_T39 x0 x3).f2).size : Int) > 100 then (some false) else (keelsonlaw4_light.l0 k x0 (wrap64 (x3 + 1))))) else (none)) else (some true)
def keelsonlaw4_light.f (k : Nat) (l0 : List (S39)) : Option (Bool) := if (l0.length : Int) > 40 then (some false) else (keelsonlaw4_light.l0 k l0 0)
theorem keelsonlaw4_light.mono_l : ∀ k,(∀ y0 y1,LeO (keelsonlaw4_light.l0 k y0 y1) (keelsonlaw4_light.l0 (k + 1) y0 y1))
 | 0 => fun _ _ r h => by simp [keelsonlaw4_light.l0] at h
 | k + 1 => by
  have ih0 := keelsonlaw4_light.mono_l k
  ·intro y0 y1
   unfold keelsonlaw4_light.l0
   repeat' first
   | (with_reducible exact ih0 _ _)
   | (with_reducible exact LeO.refl _)
   | (with_reducible exact LeO.none _)
   | (with_reducible refine LeO.ite ?_ ?_)
   | (with_reducible refine LeO.bind ?_ (fun _ => ?_))
   | exact ih0 _ _
   | exact LeO.none _
   | refine LeO.ite ?_ ?_
   | refine LeO.bind ?_ (fun _ => ?_)
theorem keelsonlaw4_light.mono : ∀ a0 k,LeO (keelsonlaw4_light.f k a0) (keelsonlaw4_light.f (k + 1) a0) := by
 intro a0 k
 have ih0 := keelsonlaw4_light.mono_l k
 unfold keelsonlaw4_light.f
 repeat' first
   | (with_reducible exact ih0 _ _)
   | (with_reducible exact LeO.refl _)
   | (with_reducible exact LeO.none _)
   | (with_reducible refine LeO.ite ?_ ?_)
   | (with_reducible refine LeO.bind ?_ (fun _ => ?_))
   | exact ih0 _ _
   | exact LeO.none _
   | refine LeO.ite ?_ ?_
   | refine LeO.bind ?_ (fun _ => ?_)
theorem keelsonlaw4_light.calls (k : Nat) (A0 : Option Addr) (c0 : Nat) (l0 : List (S39)) (r : Bool) (w : World) (hG : GL w) (hr0 : Kd.C k39 w A0 l0.length l0) (hc0 : l0.length ≤ c0) (h : keelsonlaw4_light.f k l0 = some r) :
  Calls Tryz.prog 19 #[.slice A0 l0.length c0] w fun e w' => e = .returned (.bool r) ∧ Drawn0 w w' := by
 have HR0 := Aside0.mk hr0
 have HC0 := Aside0.mk hc0
 clear hr0 hc0
 have H : (if (l0.length : Int) > 40 then (some false) else (keelsonlaw4_light.l0 k l0 0)) = some r := h
 clear h
 by_cases c2 : (l0.length : Int) > 40
 ·rw [if_pos c2] at H
  have c2b0 : decide (40 < (l0.length : Int)) = true := decide_eq_true c2
  have c2b1 : decide (40 < l0.length) = true := decide_eq_true (by omega)
  clear c2
  obtain rfl := Option.some.inj H
  go_enter Tryz.func19,Tryz.ntmps19
  go_wp2
  go_ret
  exact ⟨by first|rfl|(simp;done)|(simp [*];done)|(simp [qaj];done),by repeat (first|exact Drawn0.refl _|apply Drawn0.step)⟩
 ·rw [if_neg c2] at H
  have c2b0 : decide (40 < (l0.length : Int)) = false := decide_eq_false c2
  have c2b1 : decide (40 < l0.length) = false := decide_eq_false (by omega)
  clear c2
  have H' := Aside0.mk H
  clear H
  go_enter Tryz.func19,Tryz.ntmps19
  go_wp2
  go_loopg [3] k (fun kq v3 w' => ∃ (x3_1 : Int),v3 = .int .i64 x3_1 ∧ Aside0 (keelsonlaw4_light.l0 kq l0 x3_1 = some r) ∧ Aside0 (kq ≤ k) ∧ Drawn0 w w')
  case atStart => exact ⟨(0),(by first|rfl|(simp;done)|(simp [*];done)|(simp [qaj];done)),H',⟨Nat.le_refl _⟩,by repeat (first|exact Drawn0.refl _|apply Drawn0.step)⟩
  case round =>
   clear H'
   try clear c1
   try clear c2
   try clear c2b0
   try clear c2b1
   try clear p2
   obtain ⟨x3_1,rfl,HA,HK1,⟨m1,rfl⟩⟩ := hrel
   cases gk with
   | zero => exact absurd HA.out (by simp [keelsonlaw4_light.l0])
   | succ k1 =>
    have H := HA.out
    clear HA
    simp only [keelsonlaw4_light.l0] at H
    by_cases c3 : x3_1 < (l0.length : Int)
    ·rw [if_pos c3] at H
     have c3b0 : decide (x3_1 < (l0.length : Int)) = true := decide_eq_true c3
     clear c3
     by_cases c4 : 0 ≤ x3_1
     ·rw [if_pos c4] at H
      have c4b0 : decide (0 ≤ x3_1) = true := decide_eq_true c4
      clear c4
      by_cases c5 : (((rd_T39 l0 x3_1).f0).size : Int) > 100
      ·rw [if_pos c5] at H
       have c5b0 : decide (100 < (((rd_T39 l0 x3_1).f0).size : Int)) = true := decide_eq_true c5
       have c5b1 : decide (100 < ((rd_T39 l0 x3_1).f0).size) = true := decide_eq_true (by omega)
       clear c5
       obtain rfl := Option.some.inj H
       have p350 : 0 ≤ (x3_1 : Int) := of_decide_eq_true (by assumption)
       have q350 : x3_1 < (l0.length : Int) := of_decide_eq_true (by assumption)
       obtain ⟨ad350,e350,hx350_0,hx350_1,hx350_2⟩ := at_T39 HR0.out x3_1 p350 q350
       cases e350
       replace p350 := eq_true p350
       replace q350 := eq_true q350
       go_wp2
       go_ret
       exact ⟨by first|rfl|(simp;done)|(simp [*];done)|(simp [qaj];done),by repeat (first|exact Drawn0.refl _|apply Drawn0.step)⟩
      ·rw [if_neg c5] at H
       have c5b0 : decide (100 < (((rd_T39 l0 x3_1).f0).size : Int)) = false := decide_eq_false c5
       have c5b1 : decide (100 < ((rd_T39 l0 x3_1).f0).size) = false := decide_eq_false (by omega)
       clear c5
       by_cases c6 : (((rd_T39 l0 x3_1).f2).size : Int) > 100
       ·rw [if_pos c6] at H
        have c6b0 : decide (100 < (((rd_T39 l0 x3_1).f2).size : Int)) = true := decide_eq_true c6
        have c6b1 : decide (100 < ((rd_T39 l0 x3_1).f2).size) = true := decide_eq_true (by omega)
        clear c6
        obtain rfl := Option.some.inj H
        have p350 : 0 ≤ (x3_1 : Int) := of_decide_eq_true (by assumption)
        have q350 : x3_1 < (l0.length : Int) := of_decide_eq_true (by assumption)
        obtain ⟨ad350,e350,hx350_0,hx350_1,hx350_2⟩ := at_T39 HR0.out x3_1 p350 q350
        cases e350
        replace p350 := eq_true p350
        replace q350 := eq_true q350
        have p351 : 0 ≤ (x3_1 : Int) := of_decide_eq_true (by assumption)
        have q351 : x3_1 < (l0.length : Int) := of_decide_eq_true (by assumption)
        obtain ⟨ad351,e351,hx351_0,hx351_1,hx351_2⟩ := at_T39 HR0.out x3_1 p351 q351
        obtain rfl : ad350 = ad351 := (by injection e351)
        replace p351 := eq_true p351
        replace q351 := eq_true q351
        go_wp2
        go_ret
        exact ⟨by first|rfl|(simp;done)|(simp [*];done)|(simp [qaj];done),by repeat (first|exact Drawn0.refl _|apply Drawn0.step)⟩
       ·rw [if_neg c6] at H
        have c6b0 : decide (100 < (((rd_T39 l0 x3_1).f2).size : Int)) = false := decide_eq_false c6
        have c6b1 : decide (100 < ((rd_T39 l0 x3_1).f2).size) = false := decide_eq_false (by omega)
        clear c6
        have H' := Aside0.mk H
        clear H
        have p350 : 0 ≤ (x3_1 : Int) := of_decide_eq_true (by assumption)
        have q350 : x3_1 < (l0.length : Int) := of_decide_eq_true (by assumption)
        obtain ⟨ad350,e350,hx350_0,hx350_1,hx350_2⟩ := at_T39 HR0.out x3_1 p350 q350
        cases e350
        replace p350 := eq_true p350
        replace q350 := eq_true q350
        have p351 : 0 ≤ (x3_1 : Int) := of_decide_eq_true (by assumption)
        have q351 : x3_1 < (l0.length : Int) := of_decide_eq_true (by assumption)
        obtain ⟨ad351,e351,hx351_0,hx351_1,hx351_2⟩ := at_T39 HR0.out x3_1 p351 q351
        obtain rfl : ad350 = ad351 := (by injection e351)
        replace p351 := eq_true p351
        replace q351 := eq_true q351
        go_wp2
        go_roundg k1
        case measure => have := HK1.out;omega
        case rel => exact ⟨(wrap64 (x3_1 + 1)),(by first|rfl|(simp;done)|(simp [*];done)|(simp [qaj];done)),H',⟨by have := HK1.out;omega⟩,by repeat (first|exact Drawn0.refl _|apply Drawn0.step)⟩
     ·rw [if_neg c4] at H
      exact absurd H (by simp)
    ·rw [if_neg c3] at H
     have c3b0 : decide (x3_1 < (l0.length : Int)) = false := decide_eq_false c3
     clear c3
     obtain rfl := Option.some.inj H
     go_wp2
     go_ret
     exact ⟨by first|rfl|(simp;done)|(simp [*];done)|(simp [qaj];done),by repeat (first|exact Drawn0.refl _|apply Drawn0.step)⟩
end Go.Proofs.YtjbbgekkombpnaaGreatDoor.PA
