
import Derived.Test.YtjbbgekkombpnaaGreatDoorPAx0
import Derived.Test.YtjbbgekkombpnaaGreatDoorPAx11
namespace Go.Proofs.YtjbbgekkombpnaaGreatDoor.PA
open Go.RowKit Go.Proofs.YtjbbgekkombpnaaGreatDoorW.PrintWords Go.Proofs.YtjbbgekkombpnaaGreatDoorW.PrintLast Go.Proofs.YtjbbgekkombpnaaGreatDoorW.PrintMore
attribute [local go_sem] max2_int min2_int max_two min_two max_three min_three max_four min_four
set_option maxHeartbeats 8000000
set_option maxRecDepth 100000
set_option linter.unusedVariables false
set_option linter.unusedSimpArgs false
def keelsonref3_Name.l0 : Nat → ByteArray → Int → Option (Bool)
 | 0,_,_ => none
 | k + 1,x0,x3 => if x3 < (x0.size : Int) then (if 0 ≤ x3 then (if (bt x0 x3) ≥ 97 then (if (bt x0 x3) ≤ 122 then (if x3 > 0 then (if (bt x0 x3) = 43 then (keelsonref3_Name.l0 k x0 (wrap64 (x3 + 1))) else (if (bt x0 x3) = 45 then (keelsonref3_Name.l0 k x0 (wrap64 (x3 + 1))) else (keelsonref3_Name.l0 k x0 (wrap64 (x3 + 1))))) else (keelsonref3_Name.l0 k x0 (wrap64 (x3 + 1)))) else ((keelsonref2_Digit.f (bt x0 x3)).bind fun t252 => (if x3 > 0 then (if (bt x0 x3) = 43 then (if t252 = true then (keelsonref3_Name.l0 k x0 (wrap64 (x3 + 1))) else (keelsonref3_Name.l0 k x0 (wrap64 (x3 + 1)))) else (if (bt x0 x3) = 45 then (if t252 = true then (keelsonref3_Name.l0 k x0 (wrap64 (x3 + 1))) else (keelsonref3_Name.l0 k x0 (wrap64 (x3 + 1)))) else (if t252 = true then (keelsonref3_Name.l0 k x0 (wrap64 (x3 + 1))) else (if ((bt x0 x3) = 46) then (keelsonref3_Name.l0 k x0 (wrap64 (x3 + 1))) else (some false))))) else (if t252 = true then (keelsonref3_Name.l0 k x0 (wrap64 (x3 + 1))) else (some false))))) else ((keelsonref2_Digit.f (bt x0 x3)).bind fun t253 => (if x3 > 0 then (if (bt x0 x3) = 43 then (if t253 = true then (keelsonref3_Name.l0 k x0 (wrap64 (x3 + 1))) else (keelsonref3_Name.l0 k x0 (wrap64 (x3 + 1)))) else (if (bt x0 x3) = 45 then (if t253 = true then (keelsonref3_Name.l0 k x0 (wrap64 (x3 + 1))) else (keelsonref3_Name.l0 k x0 (wrap64 (x3 + 1)))) else (if t253 = true then (keelsonref3_Name.l0 k x0 (wrap64 (x3 + 1))) else (if ((bt x0 x3) = 46) then (keelsonref3_Name.l0 k x0 (wrap64 (x3 + 1))) else (some false))))) else (if t253 = true then (keelsonref3_Name.l0 k x0 (wrap64 (x3 + 1))) else (some false))))) else (none)) else (if (x0.size : Int) ≥ 2 then (some (decide ((x0.size : Int) ≤ 40))) else (some false))
def keelsonref3_Name.f (k : Nat) (a0 : ByteArray) : Option (Bool) := keelsonref3_Name.l0 k a0 0
theorem keelsonref3_Name.mono_l : ∀ k,(∀ y0 y1,LeO (keelsonref3_Name.l0 k y0 y1) (keelsonref3_Name.l0 (k + 1) y0 y1))
 | 0 => fun _ _ r h => by simp [keelsonref3_Name.l0] at h
 | k + 1 => by
  have ih0 := keelsonref3_Name.mono_l k
  ·intro y0 y1
   unfold keelsonref3_Name.l0
   repeat' first
   | (with_reducible exact ih0 _ _)
   | (with_reducible exact LeO.refl _)
   | (with_reducible exact LeO.none _)
   | (with_reducible refine LeO.ite ?_ ?_)
   | (with_reducible refine LeO.bind ?_ (fun _ => ?_))
   | exact ih0 _ _
   | exact LeO.none _
   | refine LeO.ite ?_ ?_
   | refine LeO.bind ?_ (fun _ => ?_)
theorem keelsonref3_Name.mono : ∀ a0 k,LeO (keelsonref3_Name.f k a0) (keelsonref3_Name.f (k + 1) a0) := by
 intro a0 k
 have ih0 := keelsonref3_Name.mono_l k
 unfold keelsonref3_Name.f
 repeat' first
   | (with_reducible exact ih0 _ _)
   | (with_reducible exact LeO.refl _)
   | (with_reducible exact LeO.none _)
   | (with_reducible refine LeO.ite ?_ ?_)
   | (with_reducible refine LeO.bind ?_ (fun _ => ?_))
   | exact ih0 _ _
   | exact LeO.none _
   | refine LeO.ite ?_ ?_
   | refine LeO.bind ?_ (fun _ => ?_)
theorem keelsonref3_Name.calls (k : Nat) (a0 : ByteArray) (r : Bool) (w : World) (hG : GL w) (h : keelsonref3_Name.f k a0 = some r) :
  Calls Tryz.prog 42 #[.string a0] w fun e w' => e = .returned (.bool r) ∧ Drawn0 w w' := by
 have H : (keelsonref3_Name.l0 k a0 0) = some r := h
 clear h
 have H' := Aside0.mk H
 clear H
 go_enter Tryz.func42,Tryz.ntmps42
 go_wp2
 go_loopg [3] k (fun kq v3 w' => ∃ (x3_1 : Int),v3 = .int .i64 x3_1 ∧ Aside0 (keelsonref3_Name.l0 kq a0 x3_1 = some r) ∧ Aside0 (kq ≤ k) ∧ Drawn0 w w')
 case atStart => exact ⟨(0),(by first|rfl|(simp;done)|(simp [*];done)|(simp [qaj];done)),H',⟨Nat.le_refl _⟩,by repeat (first|exact Drawn0.refl _|apply Drawn0.step)⟩
 case round =>
  clear H'
  obtain ⟨x3_1,rfl,HA,HK1,⟨m1,rfl⟩⟩ := hrel
  cases gk with
  | zero => exact absurd HA.out (by simp [keelsonref3_Name.l0])
  | succ k1 =>
   have H := HA.out
   clear HA
   simp only [keelsonref3_Name.l0] at H
   by_cases c2 : x3_1 < (a0.size : Int)
   ·rw [if_pos c2] at H
    have c2b0 : decide (x3_1 < (a0.size : Int)) = true := decide_eq_true c2
    clear c2
    by_cases c3 : 0 ≤ x3_1
    ·rw [if_pos c3] at H
     have c3b0 : decide (0 ≤ x3_1) = true := decide_eq_true c3
     clear c3
     by_cases c5 : (bt a0 x3_1) ≥ 97
     ·rw [if_pos c5] at H
      have c5b0 : decide (97 ≤ (bt a0 x3_1)) = true := decide_eq_true c5
      clear c5
      by_cases c6 : (bt a0 x3_1) ≤ 122
      ·rw [if_pos c6] at H
       have c6b0 : decide ((bt a0 x3_1) ≤ 122) = true := decide_eq_true c6
       clear c6
       by_cases c7 : x3_1 > 0
       ·rw [if_pos c7] at H
        have c7b0 : decide (0 < x3_1) = true := decide_eq_true c7
        clear c7
        by_cases c8 : (bt a0 x3_1) = 43
        ·rw [if_pos c8] at H
         have c8b0 : ((bt a0 x3_1) == 43) = true := beq_iff_eq.mpr c8
         have c8b1 : ((bt a0 x3_1) != 43) = false := bne_eq_false_iff_eq.mpr c8
         clear c8
         have H' := Aside0.mk H
         clear H
         have p4 : 0 ≤ (x3_1 : Int) := of_decide_eq_true (by assumption)
         have q4 : x3_1 < (a0.size : Int) := of_decide_eq_true (by assumption)
         have hx4 := bt_at a0 x3_1
         replace p4 := eq_true p4
         replace q4 := eq_true q4
         go_wp2
         go_roundg k1
         case measure => have := HK1.out;omega
         case rel => exact ⟨(wrap64 (x3_1 + 1)),(by first|rfl|(simp;done)|(simp [*];done)|(simp [qaj];done)),H',⟨by have := HK1.out;omega⟩,by repeat (first|exact Drawn0.refl _|apply Drawn0.step)⟩
        ·rw [if_neg c8] at H
         have c8b0 : ((bt a0 x3_1) == 43) = false := beq_eq_false_iff_ne.mpr c8
         have c8b1 : ((bt a0 x3_1) != 43) = true := bne_iff_ne.mpr c8
         by_cases c9 : (bt a0 x3_1) = 45
         ·rw [if_pos c9] at H
          have c9b0 : ((bt a0 x3_1) == 45) = true := beq_iff_eq.mpr c9
          have c9b1 : ((bt a0 x3_1) != 45) = false := bne_eq_false_iff_eq.mpr c9
          clear c9
          have H' := Aside0.mk H
          clear H
          have p4 : 0 ≤ (x3_1 : Int) := of_decide_eq_true (by assumption)
          have q4 : x3_1 < (a0.size : Int) := of_decide_eq_true (by assumption)
          have hx4 := bt_at a0 x3_1
          replace p4 := eq_true p4
          replace q4 := eq_true q4
          go_wp2
          go_roundg k1
          case measure => have := HK1.out;omega
          case rel => exact ⟨(wrap64 (x3_1 + 1)),(by first|rfl|(simp;done)|(simp [*];done)|(simp [qaj];done)),H',⟨by have := HK1.out;omega⟩,by repeat (first|exact Drawn0.refl _|apply Drawn0.step)⟩
         ·rw [if_neg c9] at H
          have c9b0 : ((bt a0 x3_1) == 45) = false := beq_eq_false_iff_ne.mpr c9
          have c9b1 : ((bt a0 x3_1) != 45) = true := bne_iff_ne.mpr c9
          have H' := Aside0.mk H
          clear H
          have p4 : 0 ≤ (x3_1 : Int) := of_decide_eq_true (by assumption)
          have q4 : x3_1 < (a0.size : Int) := of_decide_eq_true (by assumption)
          have hx4 := bt_at a0 x3_1
          replace p4 := eq_true p4
          replace q4 := eq_true q4
          go_wp2
          go_roundg k1
          case measure => have := HK1.out;omega
          case rel => exact ⟨(wrap64 (x3_1 + 1)),(by first|rfl|(simp;done)|(simp [*];done)|(simp [qaj];done)),H',⟨by have := HK1.out;omega⟩,by repeat (first|exact Drawn0.refl _|apply Drawn0.step)⟩
       ·rw [if_neg c7] at H
        have c7b0 : decide (0 < x3_1) = false := decide_eq_false c7
        clear c7
        have H' := Aside0.mk H
        clear H
        have p4 : 0 ≤ (x3_1 : Int) := of_decide_eq_true (by assumption)
        have q4 : x3_1 < (a0.size : Int) := of_decide_eq_true (by assumption)
        have hx4 := bt_at a0 x3_1
        replace p4 := eq_true p4
        replace q4 := eq_true q4
        go_wp2
        go_roundg k1
        case measure => have := HK1.out;omega
        case rel => exact ⟨(wrap64 (x3_1 + 1)),(by first|rfl|(simp;done)|(simp [*];done)|(simp [qaj];done)),H',⟨by have := HK1.out;omega⟩,by repeat (first|exact Drawn0.refl _|apply Drawn0.step)⟩
      ·rw [if_neg c6] at H
       have c6b0 : decide ((bt a0 x3_1) ≤ 122) = false := decide_eq_false c6
       clear c6
       replace H := Option.bind_eq_some_iff.mp H
       obtain ⟨t252,A100,H⟩ := H
       replace H : (if x3_1 > 0 then (if (bt a0 x3_1) = 43 then (if t252 = true then (keelsonref3_Name.l0 k1 a0 (wrap64 (x3_1 + 1))) else (keelsonref3_Name.l0 k1 a0 (wrap64 (x3_1 + 1)))) else (if (bt a0 x3_1) = 45 then (if t252 = true then (keelsonref3_Name.l0 k1 a0 (wrap64 (x3_1 + 1))) else (keelsonref3_Name.l0 k1 a0 (wrap64 (x3_1 + 1)))) else (if t252 = true then (keelsonref3_Name.l0 k1 a0 (wrap64 (x3_1 + 1))) else (if ((bt a0 x3_1) = 46) then (keelsonref3_Name.l0 k1 a0 (wrap64 (x3_1 + 1))) else (some false))))) else (if t252 = true then (keelsonref3_Name.l0 k1 a0 (wrap64 (x3_1 + 1))) else (some false))) = some r := H
       have A10 := Aside0.mk A100
       clear A100
       by_cases c11 : x3_1 > 0
       ·rw [if_pos c11] at H
        have c11b0 : decide (0 < x3_1) = true := decide_eq_true c11
        clear c11
        by_cases c12 : (bt a0 x3_1) = 43
        ·rw [if_pos c12] at H
         have c12b0 : ((bt a0 x3_1) == 43) = true := beq_iff_eq.mpr c12
         have c12b1 : ((bt a0 x3_1) != 43) = false := bne_eq_false_iff_eq.mpr c12
         clear c12
         by_cases c13 : t252 = true
         ·subst c13
          have H1 : (keelsonref3_Name.l0 k1 a0 (wrap64 (x3_1 + 1))) = some r := by rw [if_pos rfl] at H;exact H
          clear H
          have H := H1
          clear H1
          have H' := Aside0.mk H
          clear H
          have p4 : 0 ≤ (x3_1 : Int) := of_decide_eq_true (by assumption)
          have q4 : x3_1 < (a0.size : Int) := of_decide_eq_true (by assumption)
          have hx4 := bt_at a0 x3_1
          replace p4 := eq_true p4
          replace q4 := eq_true q4
          go_wp2_with (first|(go_at_call 69;(with_reducible refine (keelsonref2_Digit.calls (bt a0 x3_1) true _ (by first|exact hG|(repeat (first|exact hG|apply GL.drewN|apply GL.drew)))  A10.out).mono ?_);rintro e w' ⟨rfl,⟨nd,rfl⟩⟩))
          go_roundg k1
          case measure => have := HK1.out;omega
          case rel => exact ⟨(wrap64 (x3_1 + 1)),(by first|rfl|(simp;done)|(simp [*];done)|(simp [qaj];done)),H',⟨by have := HK1.out;omega⟩,by repeat (first|exact Drawn0.refl _|apply Drawn0.step)⟩
         ·replace c13 := Bool.eq_false_iff.mpr c13
          subst c13
          have H1 : (keelsonref3_Name.l0 k1 a0 (wrap64 (x3_1 + 1))) = some r := by rw [if_neg (show ¬ (false = true) by decide)] at H;exact H
          clear H
          have H := H1
          clear H1
          have H' := Aside0.mk H
          clear H
          have p4 : 0 ≤ (x3_1 : Int) := of_decide_eq_true (by assumption)
          have q4 : x3_1 < (a0.size : Int) := of_decide_eq_true (by assumption)
          have hx4 := bt_at a0 x3_1
          replace p4 := eq_true p4
          replace q4 := eq_true q4
          go_wp2_with (first|(go_at_call 69;(with_reducible refine (keelsonref2_Digit.calls (bt a0 x3_1) false _ (by first|exact hG|(repeat (first|exact hG|apply GL.drewN|apply GL.drew)))  A10.out).mono ?_);rintro e w' ⟨rfl,⟨nd,rfl⟩⟩))
          go_roundg k1
          case measure => have := HK1.out;omega
          case rel => exact ⟨(wrap64 (x3_1 + 1)),(by first|rfl|(simp;done)|(simp [*];done)|(simp [qaj];done)),H',⟨by have := HK1.out;omega⟩,by repeat (first|exact Drawn0.refl _|apply Drawn0.step)⟩
        ·rw [if_neg c12] at H
         have c12b0 : ((bt a0 x3_1) == 43) = false := beq_eq_false_iff_ne.mpr c12
         have c12b1 : ((bt a0 x3_1) != 43) = true := bne_iff_ne.mpr c12
         by_cases c14 : (bt a0 x3_1) = 45
         ·rw [if_pos c14] at H
          have c14b0 : ((bt a0 x3_1) == 45) = true := beq_iff_eq.mpr c14
          have c14b1 : ((bt a0 x3_1) != 45) = false := bne_eq_false_iff_eq.mpr c14
          clear c14
          by_cases c15 : t252 = true
          ·subst c15
           have H1 : (keelsonref3_Name.l0 k1 a0 (wrap64 (x3_1 + 1))) = some r := by rw [if_pos rfl] at H;exact H
           clear H
           have H := H1
           clear H1
           have H' := Aside0.mk H
           clear H
           have p4 : 0 ≤ (x3_1 : Int) := of_decide_eq_true (by assumption)
           have q4 : x3_1 < (a0.size : Int) := of_decide_eq_true (by assumption)
           have hx4 := bt_at a0 x3_1
           replace p4 := eq_true p4
           replace q4 := eq_true q4
           go_wp2_with (first|(go_at_call 69;(with_reducible refine (keelsonref2_Digit.calls (bt a0 x3_1) true _ (by first|exact hG|(repeat (first|exact hG|apply GL.drewN|apply GL.drew)))  A10.out).mono ?_);rintro e w' ⟨rfl,⟨nd,rfl⟩⟩))
           go_roundg k1
           case measure => have := HK1.out;omega
           case rel => exact ⟨(wrap64 (x3_1 + 1)),(by first|rfl|(simp;done)|(simp [*];done)|(simp [qaj];done)),H',⟨by have := HK1.out;omega⟩,by repeat (first|exact Drawn0.refl _|apply Drawn0.step)⟩
          ·replace c15 := Bool.eq_false_iff.mpr c15
           subst c15
           have H1 : (keelsonref3_Name.l0 k1 a0 (wrap64 (x3_1 + 1))) = some r := by rw [if_neg (show ¬ (false = true) by decide)] at H;exact H
           clear H
           have H := H1
           clear H1
           have H' := Aside0.mk H
           clear H
           have p4 : 0 ≤ (x3_1 : Int) := of_decide_eq_true (by assumption)
           have q4 : x3_1 < (a0.size : Int) := of_decide_eq_true (by assumption)
           have hx4 := bt_at a0 x3_1
           replace p4 := eq_true p4
           replace q4 := eq_true q4
           go_wp2_with (first|(go_at_call 69;(with_reducible refine (keelsonref2_Digit.calls (bt a0 x3_1) false _ (by first|exact hG|(repeat (first|exact hG|apply GL.drewN|apply GL.drew)))  A10.out).mono ?_);rintro e w' ⟨rfl,⟨nd,rfl⟩⟩))
           go_roundg k1
           case measure => have := HK1.out;omega
           case rel => exact ⟨(wrap64 (x3_1 + 1)),(by first|rfl|(simp;done)|(simp [*];done)|(simp [qaj];done)),H',⟨by have := HK1.out;omega⟩,by repeat (first|exact Drawn0.refl _|apply Drawn0.step)⟩
         ·rw [if_neg c14] at H
          have c14b0 : ((bt a0 x3_1) == 45) = false := beq_eq_false_iff_ne.mpr c14
          have c14b1 : ((bt a0 x3_1) != 45) = true := bne_iff_ne.mpr c14
          by_cases c16 : t252 = true
          ·subst c16
           have H1 : (keelsonref3_Name.l0 k1 a0 (wrap64 (x3_1 + 1))) = some r := by rw [if_pos rfl] at H;exact H
           clear H
           have H := H1
           clear H1
           have H' := Aside0.mk H
           clear H
           have p4 : 0 ≤ (x3_1 : Int) := of_decide_eq_true (by assumption)
           have q4 : x3_1 < (a0.size : Int) := of_decide_eq_true (by assumption)
           have hx4 := bt_at a0 x3_1
           replace p4 := eq_true p4
           replace q4 := eq_true q4
           go_wp2_with (first|(go_at_call 69;(with_reducible refine (keelsonref2_Digit.calls (bt a0 x3_1) true _ (by first|exact hG|(repeat (first|exact hG|apply GL.drewN|apply GL.drew)))  A10.out).mono ?_);rintro e w' ⟨rfl,⟨nd,rfl⟩⟩))
           go_roundg k1
           case measure => have := HK1.out;omega
           case rel => exact ⟨(wrap64 (x3_1 + 1)),(by first|rfl|(simp;done)|(simp [*];done)|(simp [qaj];done)),H',⟨by have := HK1.out;omega⟩,by repeat (first|exact Drawn0.refl _|apply Drawn0.step)⟩
          ·replace c16 := Bool.eq_false_iff.mpr c16
           subst c16
           have H1 : (if ((bt a0 x3_1) = 46) then (keelsonref3_Name.l0 k1 a0 (wrap64 (x3_1 + 1))) else (some false)) = some r := by rw [if_neg (show ¬ (false = true) by decide)] at H;exact H
           clear H
           have H := H1
           clear H1
           by_cases c17 : ((bt a0 x3_1) = 46)
           ·rw [if_pos c17] at H
            have c17b0 : ((bt a0 x3_1) == 46) = true := beq_iff_eq.mpr c17
            have c17b1 : ((bt a0 x3_1) != 46) = false := bne_eq_false_iff_eq.mpr c17
            clear c17
            have H' := Aside0.mk H
            clear H
            have p4 : 0 ≤ (x3_1 : Int) := of_decide_eq_true (by assumption)
            have q4 : x3_1 < (a0.size : Int) := of_decide_eq_true (by assumption)
            have hx4 := bt_at a0 x3_1
            replace p4 := eq_true p4
            replace q4 := eq_true q4
            go_wp2_with (first|(go_at_call 69;(with_reducible refine (keelsonref2_Digit.calls (bt a0 x3_1) false _ (by first|exact hG|(repeat (first|exact hG|apply GL.drewN|apply GL.drew)))  A10.out).mono ?_);rintro e w' ⟨rfl,⟨nd,rfl⟩⟩))
            go_roundg k1
            case measure => have := HK1.out;omega
            case rel => exact ⟨(wrap64 (x3_1 + 1)),(by first|rfl|(simp;done)|(simp [*];done)|(simp [qaj];done)),H',⟨by have := HK1.out;omega⟩,by repeat (first|exact Drawn0.refl _|apply Drawn0.step)⟩
           ·rw [if_neg c17] at H
            have c17b0 : ((bt a0 x3_1) == 46) = false := beq_eq_false_iff_ne.mpr c17
            have c17b1 : ((bt a0 x3_1) != 46) = true := bne_iff_ne.mpr c17
            obtain rfl := Option.some.inj H
            have p4 : 0 ≤ (x3_1 : Int) := of_decide_eq_true (by assumption)
            have q4 : x3_1 < (a0.size : Int) := of_decide_eq_true (by assumption)
            have hx4 := bt_at a0 x3_1
            replace p4 := eq_true p4
            replace q4 := eq_true q4
            go_wp2_with (first|(go_at_call 69;(with_reducible refine (keelsonref2_Digit.calls (bt a0 x3_1) false _ (by first|exact hG|(repeat (first|exact hG|apply GL.drewN|apply GL.drew)))  A10.out).mono ?_);rintro e w' ⟨rfl,⟨nd,rfl⟩⟩))
            go_ret
            exact ⟨by first|rfl|(simp;done)|(simp [*];done)|(simp [qaj];done),by repeat (first|exact Drawn0.refl _|apply Drawn0.step)⟩
       ·rw [if_neg c11] at H
        have c11b0 : decide (0 < x3_1) = false := decide_eq_false c11
        clear c11
        by_cases c18 : t252 = true
        ·subst c18
         have H1 : (keelsonref3_Name.l0 k1 a0 (wrap64 (x3_1 + 1))) = some r := by rw [if_pos rfl] at H;exact H
         clear H
         have H := H1
         clear H1
         have H' := Aside0.mk H
         clear H
         have p4 : 0 ≤ (x3_1 : Int) := of_decide_eq_true (by assumption)
         have q4 : x3_1 < (a0.size : Int) := of_decide_eq_true (by assumption)
         have hx4 := bt_at a0 x3_1
         replace p4 := eq_true p4
         replace q4 := eq_true q4
         go_wp2_with (first|(go_at_call 69;(with_reducible refine (keelsonref2_Digit.calls (bt a0 x3_1) true _ (by first|exact hG|(repeat (first|exact hG|apply GL.drewN|apply GL.drew)))  A10.out).mono ?_);rintro e w' ⟨rfl,⟨nd,rfl⟩⟩))
         go_roundg k1
         case measure => have := HK1.out;omega
         case rel => exact ⟨(wrap64 (x3_1 + 1)),(by first|rfl|(simp;done)|(simp [*];done)|(simp [qaj];done)),H',⟨by have := HK1.out;omega⟩,by repeat (first|exact Drawn0.refl _|apply Drawn0.step)⟩
        ·replace c18 := Bool.eq_false_iff.mpr c18
         subst c18
         have H1 : (some false) = some r := by rw [if_neg (show ¬ (false = true) by decide)] at H;exact H
         clear H
         have H := H1
         clear H1
         obtain rfl := Option.some.inj H
         have p4 : 0 ≤ (x3_1 : Int) := of_decide_eq_true (by assumption)
         have q4 : x3_1 < (a0.size : Int) := of_decide_eq_true (by assumption)
         have hx4 := bt_at a0 x3_1
         replace p4 := eq_true p4
         replace q4 := eq_true q4
         go_wp2_with (first|(go_at_call 69;(with_reducible refine (keelsonref2_Digit.calls (bt a0 x3_1) false _ (by first|exact hG|(repeat (first|exact hG|apply GL.drewN|apply GL.drew)))  A10.out).mono ?_);rintro e w' ⟨rfl,⟨nd,rfl⟩⟩))
         go_ret
         exact ⟨by first|rfl|(simp;done)|(simp [*];done)|(simp [qaj];done),by repeat (first|exact Drawn0.refl _|apply Drawn0.step)⟩
     ·rw [if_neg c5] at H
      have c5b0 : decide (97 ≤ (bt a0 x3_1)) = false := decide_eq_false c5
      clear c5
      replace H := Option.bind_eq_some_iff.mp H
      obtain ⟨t253,A190,H⟩ := H
      replace H : (if x3_1 > 0 then (if (bt a0 x3_1) = 43 then (if t253 = true then (keelsonref3_Name.l0 k1 a0 (wrap64 (x3_1 + 1))) else (keelsonref3_Name.l0 k1 a0 (wrap64 (x3_1 + 1)))) else (if (bt a0 x3_1) = 45 then (if t253 = true then (keelsonref3_Name.l0 k1 a0 (wrap64 (x3_1 + 1))) else (keelsonref3_Name.l0 k1 a0 (wrap64 (x3_1 + 1)))) else (if t253 = true then (keelsonref3_Name.l0 k1 a0 (wrap64 (x3_1 + 1))) else (if ((bt a0 x3_1) = 46) then (keelsonref3_Name.l0 k1 a0 (wrap64 (x3_1 + 1))) else (some false))))) else (if t253 = true then (keelsonref3_Name.l0 k1 a0 (wrap64 (x3_1 + 1))) else (some false))) = some r := H
      have A19 := Aside0.mk A190
      clear A190
      by_cases c20 : x3_1 > 0
      ·rw [if_pos c20] at H
       have c20b0 : decide (0 < x3_1) = true := decide_eq_true c20
       clear c20
       by_cases c21 : (bt a0 x3_1) = 43
       ·rw [if_pos c21] at H
        have c21b0 : ((bt a0 x3_1) == 43) = true := beq_iff_eq.mpr c21
        have c21b1 : ((bt a0 x3_1) != 43) = false := bne_eq_false_iff_eq.mpr c21
        clear c21
        by_cases c22 : t253 = true
        ·subst c22
         have H1 : (keelsonref3_Name.l0 k1 a0 (wrap64 (x3_1 + 1))) = some r := by rw [if_pos rfl] at H;exact H
         clear H
         have H := H1
         clear H1
         have H' := Aside0.mk H
         clear H
         have p4 : 0 ≤ (x3_1 : Int) := of_decide_eq_true (by assumption)
         have q4 : x3_1 < (a0.size : Int) := of_decide_eq_true (by assumption)
         have hx4 := bt_at a0 x3_1
         replace p4 := eq_true p4
         replace q4 := eq_true q4
         go_wp2_with (first|(go_at_call 69;(with_reducible refine (keelsonref2_Digit.calls (bt a0 x3_1) true _ (by first|exact hG|(repeat (first|exact hG|apply GL.drewN|apply GL.drew)))  A19.out).mono ?_);rintro e w' ⟨rfl,⟨nd,rfl⟩⟩))
         go_roundg k1
         case measure => have := HK1.out;omega
         case rel => exact ⟨(wrap64 (x3_1 + 1)),(by first|rfl|(simp;done)|(simp [*];done)|(simp [qaj];done)),H',⟨by have := HK1.out;omega⟩,by repeat (first|exact Drawn0.refl _|apply Drawn0.step)⟩
        ·replace c22 := Bool.eq_false_iff.mpr c22
         subst c22
         have H1 : (keelsonref3_Name.l0 k1 a0 (wrap64 (x3_1 + 1))) = some r := by rw [if_neg (show ¬ (false = true) by decide)] at H;exact H
         clear H
         have H := H1
         clear H1
         have H' := Aside0.mk H
         clear H
         have p4 : 0 ≤ (x3_1 : Int) := of_decide_eq_true (by assumption)
         have q4 : x3_1 < (a0.size : Int) := of_decide_eq_true (by assumption)
         have hx4 := bt_at a0 x3_1
         replace p4 := eq_true p4
         replace q4 := eq_true q4
         go_wp2_with (first|(go_at_call 69;(with_reducible refine (keelsonref2_Digit.calls (bt a0 x3_1) false _ (by first|exact hG|(repeat (first|exact hG|apply GL.drewN|apply GL.drew)))  A19.out).mono ?_);rintro e w' ⟨rfl,⟨nd,rfl⟩⟩))
         go_roundg k1
         case measure => have := HK1.out;omega
         case rel => exact ⟨(wrap64 (x3_1 + 1)),(by first|rfl|(simp;done)|(simp [*];done)|(simp [qaj];done)),H',⟨by have := HK1.out;omega⟩,by repeat (first|exact Drawn0.refl _|apply Drawn0.step)⟩
       ·rw [if_neg c21] at H
        have c21b0 : ((bt a0 x3_1) == 43) = false := beq_eq_false_iff_ne.mpr c21
        have c21b1 : ((bt a0 x3_1) != 43) = true := bne_iff_ne.mpr c21
        by_cases c23 : (bt a0 x3_1) = 45
        ·rw [if_pos c23] at H
         have c23b0 : ((bt a0 x3_1) == 45) = true := beq_iff_eq.mpr c23
         have c23b1 : ((bt a0 x3_1) != 45) = false := bne_eq_false_iff_eq.mpr c23
         clear c23
         by_cases c24 : t253 = true
         ·subst c24
          have H1 : (keelsonref3_Name.l0 k1 a0 (wrap64 (x3_1 + 1))) = some r := by rw [if_pos rfl] at H;exact H
          clear H
          have H := H1
          clear H1
          have H' := Aside0.mk H
          clear H
          have p4 : 0 ≤ (x3_1 : Int) := of_decide_eq_true (by assumption)
          have q4 : x3_1 < (a0.size : Int) := of_decide_eq_true (by assumption)
          have hx4 := bt_at a0 x3_1
          replace p4 := eq_true p4
          replace q4 := eq_true q4
          go_wp2_with (first|(go_at_call 69;(with_reducible refine (keelsonref2_Digit.calls (bt a0 x3_1) true _ (by first|exact hG|(repeat (first|exact hG|apply GL.drewN|apply GL.drew)))  A19.out).mono ?_);rintro e w' ⟨rfl,⟨nd,rfl⟩⟩))
          go_roundg k1
          case measure => have := HK1.out;omega
          case rel => exact ⟨(wrap64 (x3_1 + 1)),(by first|rfl|(simp;done)|(simp [*];done)|(simp [qaj];done)),H',⟨by have := HK1.out;omega⟩,by repeat (first|exact Drawn0.refl _|apply Drawn0.step)⟩
         ·replace c24 := Bool.eq_false_iff.mpr c24
          subst c24
          have H1 : (keelsonref3_Name.l0 k1 a0 (wrap64 (x3_1 + 1))) = some r := by rw [if_neg (show ¬ (false = true) by decide)] at H;exact H
          clear H
          have H := H1
          clear H1
          have H' := Aside0.mk H
          clear H
          have p4 : 0 ≤ (x3_1 : Int) := of_decide_eq_true (by assumption)
          have q4 : x3_1 < (a0.size : Int) := of_decide_eq_true (by assumption)
          have hx4 := bt_at a0 x3_1
          replace p4 := eq_true p4
          replace q4 := eq_true q4
          go_wp2_with (first|(go_at_call 69;(with_reducible refine (keelsonref2_Digit.calls (bt a0 x3_1) false _ (by first|exact hG|(repeat (first|exact hG|apply GL.drewN|apply GL.drew)))  A19.out).mono ?_);rintro e w' ⟨rfl,⟨nd,rfl⟩⟩))
          go_roundg k1
          case measure => have := HK1.out;omega
          case rel => exact ⟨(wrap64 (x3_1 + 1)),(by first|rfl|(simp;done)|(simp [*];done)|(simp [qaj];done)),H',⟨by have := HK1.out;omega⟩,by repeat (first|exact Drawn0.refl _|apply Drawn0.step)⟩
        ·rw [if_neg c23] at H
         have c23b0 : ((bt a0 x3_1) == 45) = false := beq_eq_false_iff_ne.mpr c23
         have c23b1 : ((bt a0 x3_1) != 45) = true := bne_iff_ne.mpr c23
         by_cases c25 : t253 = true
         ·subst c25
          have H1 : (keelsonref3_Name.l0 k1 a0 (wrap64 (x3_1 + 1))) = some r := by rw [if_pos rfl] at H;exact H
          clear H
          have H := H1
          clear H1
          have H' := Aside0.mk H
          clear H
          have p4 : 0 ≤ (x3_1 : Int) := of_decide_eq_true (by assumption)
          have q4 : x3_1 < (a0.size : Int) := of_decide_eq_true (by assumption)
          have hx4 := bt_at a0 x3_1
          replace p4 := eq_true p4
          replace q4 := eq_true q4
          go_wp2_with (first|(go_at_call 69;(with_reducible refine (keelsonref2_Digit.calls (bt a0 x3_1) true _ (by first|exact hG|(repeat (first|exact hG|apply GL.drewN|apply GL.drew)))  A19.out).mono ?_);rintro e w' ⟨rfl,⟨nd,rfl⟩⟩))
          go_roundg k1
          case measure => have := HK1.out;omega
          case rel => exact ⟨(wrap64 (x3_1 + 1)),(by first|rfl|(simp;done)|(simp [*];done)|(simp [qaj];done)),H',⟨by have := HK1.out;omega⟩,by repeat (first|exact Drawn0.refl _|apply Drawn0.step)⟩
         ·replace c25 := Bool.eq_false_iff.mpr c25
          subst c25
          have H1 : (if ((bt a0 x3_1) = 46) then (keelsonref3_Name.l0 k1 a0 (wrap64 (x3_1 + 1))) else (some false)) = some r := by rw [if_neg (show ¬ (false = true) by decide)] at H;exact H
          clear H
          have H := H1
          clear H1
          by_cases c26 : ((bt a0 x3_1) = 46)
          ·rw [if_pos c26] at H
           have c26b0 : ((bt a0 x3_1) == 46) = true := beq_iff_eq.mpr c26
           have c26b1 : ((bt a0 x3_1) != 46) = false := bne_eq_false_iff_eq.mpr c26
           clear c26
           have H' := Aside0.mk H
           clear H
           have p4 : 0 ≤ (x3_1 : Int) := of_decide_eq_true (by assumption)
           have q4 : x3_1 < (a0.size : Int) := of_decide_eq_true (by assumption)
           have hx4 := bt_at a0 x3_1
           replace p4 := eq_true p4
           replace q4 := eq_true q4
           go_wp2_with (first|(go_at_call 69;(with_reducible refine (keelsonref2_Digit.calls (bt a0 x3_1) false _ (by first|exact hG|(repeat (first|exact hG|apply GL.drewN|apply GL.drew)))  A19.out).mono ?_);rintro e w' ⟨rfl,⟨nd,rfl⟩⟩))
           go_roundg k1
           case measure => have := HK1.out;omega
           case rel => exact ⟨(wrap64 (x3_1 + 1)),(by first|rfl|(simp;done)|(simp [*];done)|(simp [qaj];done)),H',⟨by have := HK1.out;omega⟩,by repeat (first|exact Drawn0.refl _|apply Drawn0.step)⟩
          ·rw [if_neg c26] at H
           have c26b0 : ((bt a0 x3_1) == 46) = false := beq_eq_false_iff_ne.mpr c26
           have c26b1 : ((bt a0 x3_1) != 46) = true := bne_iff_ne.mpr c26
           obtain rfl := Option.some.inj H
           have p4 : 0 ≤ (x3_1 : Int) := of_decide_eq_true (by assumption)
           have q4 : x3_1 < (a0.size : Int) := of_decide_eq_true (by assumption)
           have hx4 := bt_at a0 x3_1
           replace p4 := eq_true p4
           replace q4 := eq_true q4
           go_wp2_with (first|(go_at_call 69;(with_reducible refine (keelsonref2_Digit.calls (bt a0 x3_1) false _ (by first|exact hG|(repeat (first|exact hG|apply GL.drewN|apply GL.drew)))  A19.out).mono ?_);rintro e w' ⟨rfl,⟨nd,rfl⟩⟩))
           go_ret
           exact ⟨by first|rfl|(simp;done)|(simp [*];done)|(simp [qaj];done),by repeat (first|exact Drawn0.refl _|apply Drawn0.step)⟩
      ·rw [if_neg c20] at H
       have c20b0 : decide (0 < x3_1) = false := decide_eq_false c20
       clear c20
       by_cases c27 : t253 = true
       ·subst c27
        have H1 : (keelsonref3_Name.l0 k1 a0 (wrap64 (x3_1 + 1))) = some r := by rw [if_pos rfl] at H;exact H
        clear H
        have H := H1
        clear H1
        have H' := Aside0.mk H
        clear H
        have p4 : 0 ≤ (x3_1 : Int) := of_decide_eq_true (by assumption)
        have q4 : x3_1 < (a0.size : Int) := of_decide_eq_true (by assumption)
        have hx4 := bt_at a0 x3_1
        replace p4 := eq_true p4
        replace q4 := eq_true q4
        go_wp2_with (first|(go_at_call 69;(with_reducible refine (keelsonref2_Digit.calls (bt a0 x3_1) true _ (by first|exact hG|(repeat (first|exact hG|apply GL.drewN|apply GL.drew)))  A19.out).mono ?_);rintro e w' ⟨rfl,⟨nd,rfl⟩⟩))
        go_roundg k1
        case measure => have := HK1.out;omega
        case rel => exact ⟨(wrap64 (x3_1 + 1)),(by first|rfl|(simp;done)|(simp [*];done)|(simp [qaj];done)),H',⟨by have := HK1.out;omega⟩,by repeat (first|exact Drawn0.refl _|apply Drawn0.step)⟩
       ·replace c27 := Bool.eq_false_iff.mpr c27
        subst c27
        have H1 : (some false) = some r := by rw [if_neg (show ¬ (false = true) by decide)] at H;exact H
        clear H
        have H := H1
        clear H1
        obtain rfl := Option.some.inj H
        have p4 : 0 ≤ (x3_1 : Int) := of_decide_eq_true (by assumption)
        have q4 : x3_1 < (a0.size : Int) := of_decide_eq_true (by assumption)
        have hx4 := bt_at a0 x3_1
        replace p4 := eq_true p4
        replace q4 := eq_true q4
        go_wp2_with (first|(go_at_call 69;(with_reducible refine (keelsonref2_Digit.calls (bt a0 x3_1) false _ (by first|exact hG|(repeat (first|exact hG|apply GL.drewN|apply GL.drew)))  A19.out).mono ?_);rintro e w' ⟨rfl,⟨nd,rfl⟩⟩))
        go_ret
        exact ⟨by first|rfl|(simp;done)|(simp [*];done)|(simp [qaj];done),by repeat (first|exact Drawn0.refl _|apply Drawn0.step)⟩
    ·rw [if_neg c3] at H
     exact absurd H (by simp)
   ·rw [if_neg c2] at H
    have c2b0 : decide (x3_1 < (a0.size : Int)) = false := decide_eq_false c2
    clear c2
    by_cases c28 : (a0.size : Int) ≥ 2
    ·rw [if_pos c28] at H
     have c28b0 : decide (2 ≤ (a0.size : Int)) = true := decide_eq_true c28
     have c28b1 : decide (2 ≤ a0.size) = true := decide_eq_true (by omega)
     clear c28
     obtain rfl := Option.some.inj H
     go_wp2
     go_ret
     exact ⟨by first|rfl|(simp;done)|(simp [*];done)|(simp [qaj];done),by repeat (first|exact Drawn0.refl _|apply Drawn0.step)⟩
    ·rw [if_neg c28] at H
     have c28b0 : decide (2 ≤ (a0.size : Int)) = false := decide_eq_false c28
     have c28b1 : decide (2 ≤ a0.size) = false := decide_eq_false (by omega)
     clear c28
     obtain rfl := Option.some.inj H
     go_wp2
     go_ret
     exact ⟨by first|rfl|(simp;done)|(simp [*];done)|(simp [qaj];done),by repeat (first|exact Drawn0.refl _|apply Drawn0.step)⟩
def keelsonref2_Decimal.l0 : Nat → Int → ByteArray → Option (ByteArray)
 | 0,_,_ => none
 | k + 1,x0,x3 => if x0 > 0 then (if 0 ≤ (Int.tmod x0 10) then (if (Int.tmod x0 10) ≤ (wrap64 ((Int.tmod x0 10) + 1)) then (if (wrap64 ((Int.tmod x0 10) + 1)) ≤ 10 then (if ((⟨#[48,49,50,51,52,53,54,55,56,57]⟩ : ByteArray).extract ((Int.tmod x0 10) : Int).toNat ((wrap64 ((Int.tmod x0 10) + 1)) : Int).toNat).size + x3.size ≤ 9223372036854775807 then (keelsonref2_Decimal.l0 k (wrap64 (Int.tdiv x0 10)) (((⟨#[48,49,50,51,52,53,54,55,56,57]⟩ : ByteArray).extract ((Int.tmod x0 10) : Int).toNat ((wrap64 ((Int.tmod x0 10) + 1)) : Int).toNat) ++ x3)) else (none)) else (none)) else (none)) else (none)) else (if x3.toList = ([] : List UInt8) then (if 0 ≤ (Int.tmod x0 10) then (if (Int.tmod x0 10) ≤ (wrap64 ((Int.tmod x0 10) + 1)) then (if (wrap64 ((Int.tmod x0 10) + 1)) ≤ 10 then (if ((⟨#[48,49,50,51,52,53,54,55,56,57]⟩ : ByteArray).extract ((Int.tmod x0 10) : Int).toNat ((wrap64 ((Int.tmod x0 10) + 1)) : Int).toNat).size + x3.size ≤ 9223372036854775807 then (keelsonref2_Decimal.l0 k (wrap64 (Int.tdiv x0 10)) (((⟨#[48,49,50,51,52,53,54,55,56,57]⟩ : ByteArray).extract ((Int.tmod x0 10) : Int).toNat ((wrap64 ((Int.tmod x0 10) + 1)) : Int).toNat) ++ x3)) else (none)) else (none)) else (none)) else (none)) else (some x3))
def keelsonref2_Decimal.f (k : Nat) (a0 : Int) : Option (ByteArray) := keelsonref2_Decimal.l0 k a0 (⟨#[]⟩ : ByteArray)
theorem keelsonref2_Decimal.mono_l : ∀ k,(∀ y0 y1,LeO (keelsonref2_Decimal.l0 k y0 y1) (keelsonref2_Decimal.l0 (k + 1) y0 y1))
 | 0 => fun _ _ r h => by simp [keelsonref2_Decimal.l0] at h
 | k + 1 => by
  have ih0 := keelsonref2_Decimal.mono_l k
  ·intro y0 y1
   unfold keelsonref2_Decimal.l0
   repeat' first
   | (with_reducible exact ih0 _ _)
   | (with_reducible exact LeO.refl _)
   | (with_reducible exact LeO.none _)
   | (with_reducible refine LeO.ite ?_ ?_)
   | (with_reducible refine LeO.bind ?_ (fun _ => ?_))
   | exact ih0 _ _
   | exact LeO.none _
   | refine LeO.ite ?_ ?_
   | refine LeO.bind ?_ (fun _ => ?_)
theorem keelsonref2_Decimal.mono : ∀ a0 k,LeO (keelsonref2_Decimal.f k a0) (keelsonref2_Decimal.f (k + 1) a0) := by
 intro a0 k
 have ih0 := keelsonref2_Decimal.mono_l k
 unfold keelsonref2_Decimal.f
 repeat' first
   | (with_reducible exact ih0 _ _)
   | (with_reducible exact LeO.refl _)
   | (with_reducible exact LeO.none _)
   | (with_reducible refine LeO.ite ?_ ?_)
   | (with_reducible refine LeO.bind ?_ (fun _ => ?_))
   | exact ih0 _ _
   | exact LeO.none _
   | refine LeO.ite ?_ ?_
   | refine LeO.bind ?_ (fun _ => ?_)
theorem keelsonref2_Decimal.calls (k : Nat) (a0 : Int) (r : ByteArray) (w : World) (hG : GL w) (h : keelsonref2_Decimal.f k a0 = some r) :
  Calls Tryz.prog 115 #[.int .i64 a0] w fun e w' => e = .returned (.string r) ∧ Drawn0 w w' := by
 have H : (keelsonref2_Decimal.l0 k a0 (⟨#[]⟩ : ByteArray)) = some r := h
 clear h
 have H' := Aside0.mk H
 clear H
 go_enter Tryz.func115,Tryz.ntmps115
 go_wp2
 go_loopg [0,3] k (fun kq v0 v3 w' => ∃ (x0_1 : Int) (x3_1 : ByteArray),v0 = .int .i64 x0_1 ∧ v3 = .string x3_1 ∧ Aside0 (keelsonref2_Decimal.l0 kq x0_1 x3_1 = some r) ∧ Aside0 (kq ≤ k) ∧ Drawn0 w w')
 case atStart => exact ⟨(a0),((⟨#[]⟩ : ByteArray)),(by first|rfl|(simp;done)|(simp [*];done)|(simp [qaj];done)),(by first|rfl|(simp;done)|(simp [*];done)|(simp [qaj];done)),H',⟨Nat.le_refl _⟩,by repeat (first|exact Drawn0.refl _|apply Drawn0.step)⟩
 case round =>
  clear H'
  try clear c1
  obtain ⟨x0_1,x3_1,rfl,rfl,HA,HK1,⟨m1,rfl⟩⟩ := hrel
  cases gk with
  | zero => exact absurd HA.out (by simp [keelsonref2_Decimal.l0])
  | succ k1 =>
   have H := HA.out
   clear HA
   simp only [keelsonref2_Decimal.l0] at H
   by_cases c2 : x0_1 > 0
   ·rw [if_pos c2] at H
    have c2b0 : decide (0 < x0_1) = true := decide_eq_true c2
    clear c2
    obtain ⟨ji3,hji3⟩ : ∃ j_ : Int,(Int.tmod x0_1 10) = j_ := ⟨_,rfl⟩
    replace H : (if 0 ≤ (ji3) then (if (ji3) ≤ (wrap64 ((ji3) + 1)) then (if (wrap64 ((ji3) + 1)) ≤ 10 then (if ((⟨#[48,49,50,51,52,53,54,55,56,57]⟩ : ByteArray).extract ((ji3) : Int).toNat ((wrap64 ((ji3) + 1)) : Int).toNat).size + x3_1.size ≤ 9223372036854775807 then (keelsonref2_Decimal.l0 k1 (wrap64 (Int.tdiv x0_1 10)) (((⟨#[48,49,50,51,52,53,54,55,56,57]⟩ : ByteArray).extract ((ji3) : Int).toNat ((wrap64 ((ji3) + 1)) : Int).toNat) ++ x3_1)) else (none)) else (none)) else (none)) else (none)) = some r := by first|(rw [hji3] at H;exact H)|(simp only [hji3] at H ⊢;exact H)
    by_cases c4 : 0 ≤ (ji3)
    ·rw [if_pos c4] at H
     have c4b0 := eq_true c4
     have c4b1 : decide (0 ≤ (ji3)) = true := decide_eq_true c4
     clear c4
     by_cases c5 : (ji3) ≤ (wrap64 ((ji3) + 1))
     ·rw [if_pos c5] at H
      have c5b0 := eq_true c5
      have c5b1 : decide ((ji3) ≤ (wrap64 ((ji3) + 1))) = true := decide_eq_true c5
      by_cases c6 : (wrap64 ((ji3) + 1)) ≤ 10
      ·rw [if_pos c6] at H
       have c6b0 := eq_true c6
       have c6b1 : decide ((wrap64 ((ji3) + 1)) ≤ 10) = true := decide_eq_true c6
       by_cases c7 : ((⟨#[48,49,50,51,52,53,54,55,56,57]⟩ : ByteArray).extract ((ji3) : Int).toNat ((wrap64 ((ji3) + 1)) : Int).toNat).size + x3_1.size ≤ 9223372036854775807
       ·rw [if_pos c7] at H
        have c7b0 := eq_true c7
        have c7b1 : decide (((⟨#[48,49,50,51,52,53,54,55,56,57]⟩ : ByteArray).extract ((ji3) : Int).toNat ((wrap64 ((ji3) + 1)) : Int).toNat).size + x3_1.size ≤ 9223372036854775807) = true := decide_eq_true c7
        try have c7b2 : (9223372036854775807 < ((⟨#[48,49,50,51,52,53,54,55,56,57]⟩ : ByteArray).extract ((ji3) : Int).toNat ((wrap64 ((ji3) + 1)) : Int).toNat).size + x3_1.size) = False := eq_false (Nat.not_lt.2 c7)
        have H' := Aside0.mk H
        clear H
        go_wp2
        go_roundg k1
        case measure => have := HK1.out;omega
        case rel => exact ⟨(wrap64 (Int.tdiv x0_1 10)),(((⟨#[48,49,50,51,52,53,54,55,56,57]⟩ : ByteArray).extract ((ji3) : Int).toNat ((wrap64 ((ji3) + 1)) : Int).toNat) ++ x3_1),(by first|rfl|(simp;done)|(simp [*];done)|(simp [qaj];done)),(by first|rfl|(simp;done)|(simp only [← hji3]<;>(first|rfl|simp))|(simp [*];done)),H',⟨by have := HK1.out;omega⟩,by repeat (first|exact Drawn0.refl _|apply Drawn0.step)⟩
       ·rw [if_neg c7] at H
        exact absurd H (by simp)
      ·rw [if_neg c6] at H
       exact absurd H (by simp)
     ·rw [if_neg c5] at H
      exact absurd H (by simp)
    ·rw [if_neg c4] at H
     exact absurd H (by simp)
   ·rw [if_neg c2] at H
    have c2b0 : decide (0 < x0_1) = false := decide_eq_false c2
    clear c2
    by_cases c8 : x3_1.toList = ([] : List UInt8)
    ·rw [if_pos c8] at H
     have c8b0 : (x3_1.toList == ([] : List UInt8)) = true := beq_iff_eq.mpr c8
     have c8b1 : (x3_1.toList != ([] : List UInt8)) = false := bne_eq_false_iff_eq.mpr c8
     clear c8
     obtain ⟨ji9,hji9⟩ : ∃ j_ : Int,(Int.tmod x0_1 10) = j_ := ⟨_,rfl⟩
     replace H : (if 0 ≤ (ji9) then (if (ji9) ≤ (wrap64 ((ji9) + 1)) then (if (wrap64 ((ji9) + 1)) ≤ 10 then (if ((⟨#[48,49,50,51,52,53,54,55,56,57]⟩ : ByteArray).extract ((ji9) : Int).toNat ((wrap64 ((ji9) + 1)) : Int).toNat).size + x3_1.size ≤ 9223372036854775807 then (keelsonref2_Decimal.l0 k1 (wrap64 (Int.tdiv x0_1 10)) (((⟨#[48,49,50,51,52,53,54,55,56,57]⟩ : ByteArray).extract ((ji9) : Int).toNat ((wrap64 ((ji9) + 1)) : Int).toNat) ++ x3_1)) else (none)) else (none)) else (none)) else (none)) = some r := by first|(rw [hji9] at H;exact H)|(simp only [hji9] at H ⊢;exact H)
     by_cases c10 : 0 ≤ (ji9)
     ·rw [if_pos c10] at H
      have c10b0 := eq_true c10
      have c10b1 : decide (0 ≤ (ji9)) = true := decide_eq_true c10
      clear c10
      by_cases c11 : (ji9) ≤ (wrap64 ((ji9) + 1))
      ·rw [if_pos c11] at H
       have c11b0 := eq_true c11
       have c11b1 : decide ((ji9) ≤ (wrap64 ((ji9) + 1))) = true := decide_eq_true c11
       by_cases c12 : (wrap64 ((ji9) + 1)) ≤ 10
       ·rw [if_pos c12] at H
        have c12b0 := eq_true c12
        have c12b1 : decide ((wrap64 ((ji9) + 1)) ≤ 10) = true := decide_eq_true c12
        by_cases c13 : ((⟨#[48,49,50,51,52,53,54,55,56,57]⟩ : ByteArray).extract ((ji9) : Int).toNat ((wrap64 ((ji9) + 1)) : Int).toNat).size + x3_1.size ≤ 9223372036854775807
        ·rw [if_pos c13] at H
         have c13b0 := eq_true c13
         have c13b1 : decide (((⟨#[48,49,50,51,52,53,54,55,56,57]⟩ : ByteArray).extract ((ji9) : Int).toNat ((wrap64 ((ji9) + 1)) : Int).toNat).size + x3_1.size ≤ 9223372036854775807) = true := decide_eq_true c13
         try have c13b2 : (9223372036854775807 < ((⟨#[48,49,50,51,52,53,54,55,56,57]⟩ : ByteArray).extract ((ji9) : Int).toNat ((wrap64 ((ji9) + 1)) : Int).toNat).size + x3_1.size) = False := eq_false (Nat.not_lt.2 c13)
         have H' := Aside0.mk H
         clear H
         go_wp2
         go_roundg k1
         case measure => have := HK1.out;omega
         case rel => exact ⟨(wrap64 (Int.tdiv x0_1 10)),(((⟨#[48,49,50,51,52,53,54,55,56,57]⟩ : ByteArray).extract ((ji9) : Int).toNat ((wrap64 ((ji9) + 1)) : Int).toNat) ++ x3_1),(by first|rfl|(simp;done)|(simp [*];done)|(simp [qaj];done)),(by first|rfl|(simp;done)|(simp only [← hji9]<;>(first|rfl|simp))|(simp [*];done)),H',⟨by have := HK1.out;omega⟩,by repeat (first|exact Drawn0.refl _|apply Drawn0.step)⟩
        ·rw [if_neg c13] at H
         exact absurd H (by simp)
       ·rw [if_neg c12] at H
        exact absurd H (by simp)
      ·rw [if_neg c11] at H
       exact absurd H (by simp)
     ·rw [if_neg c10] at H
      exact absurd H (by simp)
    ·rw [if_neg c8] at H
     have c8b0 : (x3_1.toList == ([] : List UInt8)) = false := beq_eq_false_iff_ne.mpr c8
     have c8b1 : (x3_1.toList != ([] : List UInt8)) = true := bne_iff_ne.mpr c8
     obtain rfl := Option.some.inj H
     go_wp2
     go_ret
     exact ⟨by first|rfl|(simp;done)|(simp [*];done)|(simp [qaj];done),by repeat (first|exact Drawn0.refl _|apply Drawn0.step)⟩
mutual
def keelsonref2_number.l0 : Nat → ByteArray → Int → Int → Option (Int)
 | 0,_,_,_ => none
 | k + 1,x0,x3,x4 => if x4 < (x0.size : Int) then (keelsonref2_number.j1 k x0 x3 x4 (decide (x4 < 12))) else (keelsonref2_number.j1 k x0 x3 x4 false)
def keelsonref2_number.j1 : Nat → ByteArray → Int → Int → Bool → Option (Int)
 | 0,_,_,_,_ => none
 | k + 1,x0,x3,x4,x12 => if x12 = true then (if 0 ≤ x4 then (if x4 < (x0.size : Int) then ((keelsonref2_Digit.f (bt x0 x4)).bind fun t254 => (if t254 = true then (keelsonref2_number.l0 k x0 (wrap64 ((wrap64 (10 * x3)) + (((bt x0 x4) - 48) % 256))) (wrap64 (x4 + 1))) else (some (-1)))) else (none)) else (none)) else (if x0.toList = ([] : List UInt8) then (some (-1)) else (if (x0.size : Int) > 9 then (some (-1)) else ((keelsonref2_Decimal.f k x3).bind fun t255 => (if t255.toList = x0.toList then (some x3) else (some (-1))))))
end
def keelsonref2_number.f (k : Nat) (a0 : ByteArray) : Option (Int) := keelsonref2_number.l0 k a0 0 0
theorem keelsonref2_number.mono_l : ∀ k,(∀ y0 y1 y2,LeO (keelsonref2_number.l0 k y0 y1 y2) (keelsonref2_number.l0 (k + 1) y0 y1 y2)) ∧ (∀ y0 y1 y2 y3,LeO (keelsonref2_number.j1 k y0 y1 y2 y3) (keelsonref2_number.j1 (k + 1) y0 y1 y2 y3))
 | 0 => ⟨fun _ _ _ r h => by simp [keelsonref2_number.l0] at h,fun _ _ _ _ r h => by simp [keelsonref2_number.j1] at h⟩
 | k + 1 => by
  obtain ⟨ih0,ih1⟩ := keelsonref2_number.mono_l k
  refine ⟨?_,?_⟩
  ·intro y0 y1 y2
   unfold keelsonref2_number.l0
   repeat' first
   | (with_reducible exact ih0 _ _ _)
   | (with_reducible exact ih1 _ _ _ _)
   | (with_reducible exact keelsonref2_Decimal.mono _ _)
   | (with_reducible exact LeO.refl _)
   | (with_reducible exact LeO.none _)
   | (with_reducible refine LeO.ite ?_ ?_)
   | (with_reducible refine LeO.bind ?_ (fun _ => ?_))
   | exact ih0 _ _ _
   | exact ih1 _ _ _ _
   | exact keelsonref2_Decimal.mono _ _
   | exact LeO.none _
   | refine LeO.ite ?_ ?_
   | refine LeO.bind ?_ (fun _ => ?_)
  ·intro y0 y1 y2 y3
   unfold keelsonref2_number.j1
   repeat' first
   | (with_reducible exact ih0 _ _ _)
   | (with_reducible exact ih1 _ _ _ _)
   | (with_reducible exact keelsonref2_Decimal.mono _ _)
   | (with_reducible exact LeO.refl _)
   | (with_reducible exact LeO.none _)
   | (with_reducible refine LeO.ite ?_ ?_)
   | (with_reducible refine LeO.bind ?_ (fun _ => ?_))
   | exact ih0 _ _ _
   | exact ih1 _ _ _ _
   | exact keelsonref2_Decimal.mono _ _
   | exact LeO.none _
   | refine LeO.ite ?_ ?_
   | refine LeO.bind ?_ (fun _ => ?_)
theorem keelsonref2_number.mono : ∀ a0 k,LeO (keelsonref2_number.f k a0) (keelsonref2_number.f (k + 1) a0) := by
 intro a0 k
 obtain ⟨ih0,ih1⟩ := keelsonref2_number.mono_l k
 unfold keelsonref2_number.f
 repeat' first
   | (with_reducible exact ih0 _ _ _)
   | (with_reducible exact ih1 _ _ _ _)
   | (with_reducible exact keelsonref2_Decimal.mono _ _)
   | (with_reducible exact LeO.refl _)
   | (with_reducible exact LeO.none _)
   | (with_reducible refine LeO.ite ?_ ?_)
   | (with_reducible refine LeO.bind ?_ (fun _ => ?_))
   | exact ih0 _ _ _
   | exact ih1 _ _ _ _
   | exact keelsonref2_Decimal.mono _ _
   | exact LeO.none _
   | refine LeO.ite ?_ ?_
   | refine LeO.bind ?_ (fun _ => ?_)
theorem keelsonref2_number.calls (k : Nat) (a0 : ByteArray) (r : Int) (w : World) (hG : GL w) (h : keelsonref2_number.f k a0 = some r) :
  Calls Tryz.prog 93 #[.string a0] w fun e w' => e = .returned (.int .i64 r) ∧ Drawn0 w w' := by
 have H : (keelsonref2_number.l0 k a0 0 0) = some r := h
 clear h
 have H' := Aside0.mk H
 clear H
 go_enter Tryz.func93,Tryz.ntmps93
 go_wp2
 go_loopg [3,4] k (fun kq v3 v4 w' => ∃ (x3_1 : Int) (x4_1 : Int),v3 = .int .i64 x3_1 ∧ v4 = .int .i64 x4_1 ∧ Aside0 (keelsonref2_number.l0 kq a0 x3_1 x4_1 = some r) ∧ Aside0 (kq ≤ k) ∧ Drawn0 w w')
 case atStart => exact ⟨(0),(0),(by first|rfl|(simp;done)|(simp [*];done)|(simp [qaj];done)),(by first|rfl|(simp;done)|(simp [*];done)|(simp [qaj];done)),H',⟨Nat.le_refl _⟩,by repeat (first|exact Drawn0.refl _|apply Drawn0.step)⟩
 case round =>
  clear H'
  obtain ⟨x3_1,x4_1,rfl,rfl,HA,HK1,⟨m1,rfl⟩⟩ := hrel
  cases gk with
  | zero => exact absurd HA.out (by simp [keelsonref2_number.l0])
  | succ k1 =>
   have H := HA.out
   clear HA
   simp only [keelsonref2_number.l0] at H
   have HC2 := Aside0.mk H
   clear H
   go_upto_region 3 with (fail)
   go_cut [12] (fun v12 wc => ∃ (kq : Nat) (x12_1 : Bool),v12 = .bool x12_1 ∧ Aside0 (keelsonref2_number.j1 kq a0 x3_1 x4_1 x12_1 = some r) ∧ Aside0 (kq ≤ k1) ∧ Drawn0 w wc)
   case first =>
    have H := HC2.out
    clear HC2
    by_cases c3 : x4_1 < (a0.size : Int)
    ·rw [if_pos c3] at H
     have c3b0 : decide (x4_1 < (a0.size : Int)) = true := decide_eq_true c3
     clear c3
     (first|rw [c3b0]|(simp only [i64_w,i32_w];rw [c3b0]) | skip)
     have H' := Aside0.mk H
     clear H
     go_wp2
     go_meet
     case rel => exact ⟨_,(decide (x4_1 < 12)),(by first|rfl|(simp;done)|(simp [*];done)|(simp [qaj];done)),H',⟨by have := HK1.out;first|omega|exact Nat.le_refl _⟩,by repeat (first|exact Drawn0.refl _|apply Drawn0.step)⟩
    ·rw [if_neg c3] at H
     have c3b0 : decide (x4_1 < (a0.size : Int)) = false := decide_eq_false c3
     clear c3
     (first|rw [c3b0]|(simp only [i64_w,i32_w];rw [c3b0]) | skip)
     have H' := Aside0.mk H
     clear H
     go_wp2
     go_meet
     case rel => exact ⟨_,(false),(by first|rfl|(simp;done)|(simp [*];done)|(simp [qaj];done)),H',⟨by have := HK1.out;first|omega|exact Nat.le_refl _⟩,by repeat (first|exact Drawn0.refl _|apply Drawn0.step)⟩
   case rest =>
    clear HC2
    try clear p2
    try clear c3
    try clear c3b0
    obtain ⟨kq,x12_1,rfl,HA,HJ1,⟨mc1,rfl⟩⟩ := hcut
    cases kq with
    | zero => exact absurd HA.out (by simp [keelsonref2_number.j1])
    | succ kj1 =>
     have H := HA.out
     clear HA
     simp only [keelsonref2_number.j1] at H
     by_cases c4 : x12_1 = true
     ·subst c4
      have H1 : (if 0 ≤ x4_1 then (if x4_1 < (a0.size : Int) then ((keelsonref2_Digit.f (bt a0 x4_1)).bind fun t254 => (if t254 = true then (keelsonref2_number.l0 kj1 a0 (wrap64 ((wrap64 (10 * x3_1)) + (((bt a0 x4_1) - 48) % 256))) (wrap64 (x4_1 + 1))) else (some (-1)))) else (none)) else (none)) = some r := by rw [if_pos rfl] at H;exact H
      clear H
      have H := H1
      clear H1
      by_cases c5 : 0 ≤ x4_1
      ·rw [if_pos c5] at H
       have c5b0 : decide (0 ≤ x4_1) = true := decide_eq_true c5
       clear c5
       by_cases c6 : x4_1 < (a0.size : Int)
       ·rw [if_pos c6] at H
        have c6b0 : decide (x4_1 < (a0.size : Int)) = true := decide_eq_true c6
        clear c6
        replace H := Option.bind_eq_some_iff.mp H
        obtain ⟨t254,A80,H⟩ := H
        replace H : (if t254 = true then (keelsonref2_number.l0 kj1 a0 (wrap64 ((wrap64 (10 * x3_1)) + (((bt a0 x4_1) - 48) % 256))) (wrap64 (x4_1 + 1))) else (some (-1))) = some r := H
        have A8 := Aside0.mk A80
        clear A80
        by_cases c9 : t254 = true
        ·subst c9
         have H1 : (keelsonref2_number.l0 kj1 a0 (wrap64 ((wrap64 (10 * x3_1)) + (((bt a0 x4_1) - 48) % 256))) (wrap64 (x4_1 + 1))) = some r := by rw [if_pos rfl] at H;exact H
         clear H
         have H := H1
         clear H1
         have H' := Aside0.mk H
         clear H
         have p7 : 0 ≤ (x4_1 : Int) := of_decide_eq_true (by assumption)
         have q7 : x4_1 < (a0.size : Int) := of_decide_eq_true (by assumption)
         have hx7 := bt_at a0 x4_1
         replace p7 := eq_true p7
         replace q7 := eq_true q7
         go_wp2_with (first|((with_reducible refine qam (f := 69) rfl ?_);refine goesL_ (some 18) rfl rfl Tryz.func69 (by kernel_rfl) rfl #[.int .u8 (bt a0 x4_1)] rfl (by first|rfl|(simp only [List.map_toArray,List.map_cons,List.map_nil,List.length_drop,List.length_take];rfl)|simp only [List.map_toArray,List.map_cons,List.map_nil]) ?_;(with_reducible refine (keelsonref2_Digit.calls (bt a0 x4_1) true _ (by first|exact hG|(repeat (first|exact hG|apply GL.drewN|apply GL.drew)))  A8.out).mono ?_);rintro e w' ⟨rfl,⟨nd,rfl⟩⟩;refine ⟨_,rfl,?_⟩;have p10 : 0 ≤ (x4_1 : Int) := of_decide_eq_true (by assumption);have q10 : x4_1 < (a0.size : Int) := of_decide_eq_true (by assumption);have hx10 := bt_at a0 x4_1;replace p10 := eq_true p10;replace q10 := eq_true q10))
         go_roundg kj1
         case measure => have := HK1.out;have := HJ1.out;omega
         case rel => exact ⟨(wrap64 ((wrap64 (10 * x3_1)) + (((bt a0 x4_1) - 48) % 256))),(wrap64 (x4_1 + 1)),(by first|rfl|(simp;done)|(simp [*];done)|(simp [qaj];done)),(by first|rfl|(simp;done)|(simp [*];done)|(simp [qaj];done)),H',⟨by have := HK1.out;have := HJ1.out;omega⟩,by repeat (first|exact Drawn0.refl _|apply Drawn0.step)⟩
        ·replace c9 := Bool.eq_false_iff.mpr c9
         subst c9
         have H1 : (some (-1)) = some r := by rw [if_neg (show ¬ (false = true) by decide)] at H;exact H
         clear H
         have H := H1
         clear H1
         obtain rfl := Option.some.inj H
         have p7 : 0 ≤ (x4_1 : Int) := of_decide_eq_true (by assumption)
         have q7 : x4_1 < (a0.size : Int) := of_decide_eq_true (by assumption)
         have hx7 := bt_at a0 x4_1
         replace p7 := eq_true p7
         replace q7 := eq_true q7
         go_wp2_with (first|((with_reducible refine qam (f := 69) rfl ?_);refine goesL_ (some 18) rfl rfl Tryz.func69 (by kernel_rfl) rfl #[.int .u8 (bt a0 x4_1)] rfl (by first|rfl|(simp only [List.map_toArray,List.map_cons,List.map_nil,List.length_drop,List.length_take];rfl)|simp only [List.map_toArray,List.map_cons,List.map_nil]) ?_;(with_reducible refine (keelsonref2_Digit.calls (bt a0 x4_1) false _ (by first|exact hG|(repeat (first|exact hG|apply GL.drewN|apply GL.drew)))  A8.out).mono ?_);rintro e w' ⟨rfl,⟨nd,rfl⟩⟩;refine ⟨_,rfl,?_⟩))
         go_ret
         exact ⟨by first|rfl|(simp;done)|(simp [*];done)|(simp [qaj];done),by repeat (first|exact Drawn0.refl _|apply Drawn0.step)⟩
       ·rw [if_neg c6] at H
        exact absurd H (by simp)
      ·rw [if_neg c5] at H
       exact absurd H (by simp)
     ·replace c4 := Bool.eq_false_iff.mpr c4
      subst c4
      have H1 : (if a0.toList = ([] : List UInt8) then (some (-1)) else (if (a0.size : Int) > 9 then (some (-1)) else ((keelsonref2_Decimal.f kj1 x3_1).bind fun t255 => (if t255.toList = a0.toList then (some x3_1) else (some (-1)))))) = some r := by rw [if_neg (show ¬ (false = true) by decide)] at H;exact H
      clear H
      have H := H1
      clear H1
      by_cases c11 : a0.toList = ([] : List UInt8)
      ·rw [if_pos c11] at H
       have c11b0 : (a0.toList == ([] : List UInt8)) = true := beq_iff_eq.mpr c11
       have c11b1 : (a0.toList != ([] : List UInt8)) = false := bne_eq_false_iff_eq.mpr c11
       clear c11
       obtain rfl := Option.some.inj H
       go_wp2
       go_ret
       exact ⟨by first|rfl|(simp;done)|(simp [*];done)|(simp [qaj];done),by repeat (first|exact Drawn0.refl _|apply Drawn0.step)⟩
      ·rw [if_neg c11] at H
       have c11b0 : (a0.toList == ([] : List UInt8)) = false := beq_eq_false_iff_ne.mpr c11
       have c11b1 : (a0.toList != ([] : List UInt8)) = true := bne_iff_ne.mpr c11
       by_cases c12 : (a0.size : Int) > 9
       ·rw [if_pos c12] at H
        have c12b0 : decide (9 < (a0.size : Int)) = true := decide_eq_true c12
        have c12b1 : decide (9 < a0.size) = true := decide_eq_true (by omega)
        clear c12
        obtain rfl := Option.some.inj H
        go_wp2
        go_ret
        exact ⟨by first|rfl|(simp;done)|(simp [*];done)|(simp [qaj];done),by repeat (first|exact Drawn0.refl _|apply Drawn0.step)⟩
       ·rw [if_neg c12] at H
        have c12b0 : decide (9 < (a0.size : Int)) = false := decide_eq_false c12
        have c12b1 : decide (9 < a0.size) = false := decide_eq_false (by omega)
        clear c12
        replace H := Option.bind_eq_some_iff.mp H
        obtain ⟨t255,A130,H⟩ := H
        replace H : (if t255.toList = a0.toList then (some x3_1) else (some (-1))) = some r := H
        have A13 := Aside0.mk A130
        clear A130
        by_cases c14 : t255.toList = a0.toList
        ·rw [if_pos c14] at H
         have c14b0 : (t255.toList == a0.toList) = true := beq_iff_eq.mpr c14
         have c14b1 : (t255.toList != a0.toList) = false := bne_eq_false_iff_eq.mpr c14
         clear c14
         obtain rfl := Option.some.inj H
         go_wp2_with (first|(go_at_call 115;(with_reducible refine (keelsonref2_Decimal.calls kj1 x3_1 t255 _ (by first|exact hG|(repeat (first|exact hG|apply GL.drewN|apply GL.drew)))  A13.out).mono ?_);rintro e w' ⟨rfl,⟨nd,rfl⟩⟩))
         go_ret
         exact ⟨by first|rfl|(simp;done)|(simp [*];done)|(simp [qaj];done),by repeat (first|exact Drawn0.refl _|apply Drawn0.step)⟩
        ·rw [if_neg c14] at H
         have c14b0 : (t255.toList == a0.toList) = false := beq_eq_false_iff_ne.mpr c14
         have c14b1 : (t255.toList != a0.toList) = true := bne_iff_ne.mpr c14
         obtain rfl := Option.some.inj H
         go_wp2_with (first|(go_at_call 115;(with_reducible refine (keelsonref2_Decimal.calls kj1 x3_1 t255 _ (by first|exact hG|(repeat (first|exact hG|apply GL.drewN|apply GL.drew)))  A13.out).mono ?_);rintro e w' ⟨rfl,⟨nd,rfl⟩⟩))
         go_ret
         exact ⟨by first|rfl|(simp;done)|(simp [*];done)|(simp [qaj];done),by repeat (first|exact Drawn0.refl _|apply Drawn0.step)⟩
end Go.Proofs.YtjbbgekkombpnaaGreatDoor.PA
