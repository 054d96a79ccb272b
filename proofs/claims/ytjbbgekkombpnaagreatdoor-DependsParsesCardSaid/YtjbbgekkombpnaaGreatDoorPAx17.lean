
import Derived.Test.YtjbbgekkombpnaaGreatDoorPAx0
import Derived.Test.YtjbbgekkombpnaaGreatDoorPAx11
import Derived.Test.YtjbbgekkombpnaaGreatDoorPAx16
namespace Go.Proofs.YtjbbgekkombpnaaGreatDoor.PA
open Go.RowKit Go.Proofs.YtjbbgekkombpnaaGreatDoorW.PrintWords Go.Proofs.YtjbbgekkombpnaaGreatDoorW.PrintLast Go.Proofs.YtjbbgekkombpnaaGreatDoorW.PrintMore
attribute [local go_sem] max2_int min2_int max_two min_two max_three min_three max_four min_four
set_option maxHeartbeats 8000000
set_option maxRecDepth 100000
set_option linter.unusedVariables false
set_option linter.unusedSimpArgs false
mutual
def keelsonref4_Trim.j1 : Nat → ByteArray → Int → Int → Option (ByteArray)
 | 0,_,_,_ => none
 | k + 1,x0,x3,x4 => keelsonref4_Trim.l1 k x0 x3 x4
def keelsonref4_Trim.l1 : Nat → ByteArray → Int → Int → Option (ByteArray)
 | 0,_,_,_ => none
 | k + 1,x0,x3,x4 => if x4 > x3 then (if 0 ≤ (wrap64 (x4 - 1)) then (if (wrap64 (x4 - 1)) < (x0.size : Int) then (if (bt x0 (wrap64 (x4 - 1))) = 32 then (keelsonref4_Trim.l1 k x0 x3 (wrap64 (x4 - 1))) else (if 0 ≤ x3 then (if x3 ≤ x4 then (if x4 ≤ (x0.size : Int) then (some (x0.extract (x3 : Int).toNat (x4 : Int).toNat)) else (none)) else (none)) else (none))) else (none)) else (none)) else (if 0 ≤ x3 then (if x3 ≤ x4 then (if x4 ≤ (x0.size : Int) then (some (x0.extract (x3 : Int).toNat (x4 : Int).toNat)) else (none)) else (none)) else (none))
def keelsonref4_Trim.l0 : Nat → ByteArray → Int → Int → Option (ByteArray)
 | 0,_,_,_ => none
 | k + 1,x0,x3,x4 => if x3 < x4 then (if 0 ≤ x3 then (if x3 < (x0.size : Int) then (if (bt x0 x3) = 32 then (keelsonref4_Trim.l0 k x0 (wrap64 (x3 + 1)) x4) else (keelsonref4_Trim.j1 k x0 x3 x4)) else (none)) else (none)) else (keelsonref4_Trim.j1 k x0 x3 x4)
end
def keelsonref4_Trim.f (k : Nat) (a0 : ByteArray) : Option (ByteArray) := keelsonref4_Trim.l0 k a0 0 (a0.size : Int)
theorem keelsonref4_Trim.mono_l : ∀ k,(∀ y0 y1 y2,LeO (keelsonref4_Trim.j1 k y0 y1 y2) (keelsonref4_Trim.j1 (k + 1) y0 y1 y2)) ∧ (∀ y0 y1 y2,LeO (keelsonref4_Trim.l1 k y0 y1 y2) (keelsonref4_Trim.l1 (k + 1) y0 y1 y2)) ∧ (∀ y0 y1 y2,LeO (keelsonref4_Trim.l0 k y0 y1 y2) (keelsonref4_Trim.l0 (k + 1) y0 y1 y2))
 | 0 => ⟨fun _ _ _ r h => by simp [keelsonref4_Trim.j1] at h,fun _ _ _ r h => by simp [keelsonref4_Trim.l1] at h,fun _ _ _ r h => by simp [keelsonref4_Trim.l0] at h⟩
 | k + 1 => by
  obtain ⟨ih0,ih1,ih2⟩ := keelsonref4_Trim.mono_l k
  refine ⟨?_,?_,?_⟩
  ·intro y0 y1 y2
   unfold keelsonref4_Trim.j1
   repeat' first
   | (with_reducible exact ih0 _ _ _)
   | (with_reducible exact ih1 _ _ _)
   | (with_reducible exact ih2 _ _ _)
   | (with_reducible exact LeO.refl _)
   | (with_reducible exact LeO.none _)
   | (with_reducible refine LeO.ite ?_ ?_)
   | (with_reducible refine LeO.bind ?_ (fun _ => ?_))
   | exact ih0 _ _ _
   | exact ih1 _ _ _
   | exact ih2 _ _ _
   | exact LeO.none _
   | refine LeO.ite ?_ ?_
   | refine LeO.bind ?_ (fun _ => ?_)
  ·intro y0 y1 y2
   unfold keelsonref4_Trim.l1
   repeat' first
   | (with_reducible exact ih0 _ _ _)
   | (with_reducible exact ih1 _ _ _)
   | (with_reducible exact ih2 _ _ _)
   | (with_reducible exact LeO.refl _)
   | (with_reducible exact LeO.none _)
   | (with_reducible refine LeO.ite ?_ ?_)
   | (with_reducible refine LeO.bind ?_ (fun _ => ?_))
   | exact ih0 _ _ _
   | exact ih1 _ _ _
   | exact ih2 _ _ _
   | exact LeO.none _
   | refine LeO.ite ?_ ?_
   | refine LeO.bind ?_ (fun _ => ?_)
  ·intro y0 y1 y2
   unfold keelsonref4_Trim.l0
   repeat' first
   | (with_reducible exact ih0 _ _ _)
   | (with_reducible exact ih1 _ _ _)
   | (with_reducible exact ih2 _ _ _)
   | (with_reducible exact LeO.refl _)
   | (with_reducible exact LeO.none _)
   | (with_reducible refine LeO.ite ?_ ?_)
   | (with_reducible refine LeO.bind ?_ (fun _ => ?_))
   | exact ih0 _ _ _
   | exact ih1 _ _ _
   | exact ih2 _ _ _
   | exact LeO.none _
   | refine LeO.ite ?_ ?_
   | refine LeO.bind ?_ (fun _ => ?_)
theorem keelsonref4_Trim.mono : ∀ a0 k,LeO (keelsonref4_Trim.f k a0) (keelsonref4_Trim.f (k + 1) a0) := by
 intro a0 k
 obtain ⟨ih0,ih1,ih2⟩ := keelsonref4_Trim.mono_l k
 unfold keelsonref4_Trim.f
 repeat' first
   | (with_reducible exact ih0 _ _ _)
   | (with_reducible exact ih1 _ _ _)
   | (with_reducible exact ih2 _ _ _)
   | (with_reducible exact LeO.refl _)
   | (with_reducible exact LeO.none _)
   | (with_reducible refine LeO.ite ?_ ?_)
   | (with_reducible refine LeO.bind ?_ (fun _ => ?_))
   | exact ih0 _ _ _
   | exact ih1 _ _ _
   | exact ih2 _ _ _
   | exact LeO.none _
   | refine LeO.ite ?_ ?_
   | refine LeO.bind ?_ (fun _ => ?_)
theorem keelsonref4_Trim.calls (k : Nat) (a0 : ByteArray) (r : ByteArray) (w : World) (hG : GL w) (h : keelsonref4_Trim.f k a0 = some r) :
  Calls Tryz.prog 36 #[.string a0] w fun e w' => e = .returned (.string r) ∧ Drawn0 w w' := by
 have H : (keelsonref4_Trim.l0 k a0 0 (a0.size : Int)) = some r := h
 clear h
 have HC2 := Aside0.mk H
 clear H
 go_enter Tryz.func36,Tryz.ntmps36
 go_upto_block 0 with (fail)
 go_cut [3] (fun v3 wc => ∃ (kq : Nat) (x3_1 : Int),v3 = .int .i64 x3_1 ∧ Aside0 (keelsonref4_Trim.j1 kq a0 x3_1 (a0.size : Int) = some r) ∧ Aside0 (kq ≤ k) ∧ Drawn0 w wc)
 case first =>
  have H := HC2.out
  clear HC2
  have H' := Aside0.mk H
  clear H
  go_wp2
  go_loopg [3] k (fun kq v3 w' => ∃ (x3_1 : Int),v3 = .int .i64 x3_1 ∧ Aside0 (keelsonref4_Trim.l0 kq a0 x3_1 (a0.size : Int) = some r) ∧ Aside0 (kq ≤ k) ∧ Drawn0 w w')
  case atStart => exact ⟨(0),(by first|rfl|(simp;done)|(simp [*];done)|(simp [qaj];done)),H',⟨Nat.le_refl _⟩,by repeat (first|exact Drawn0.refl _|apply Drawn0.step)⟩
  case round =>
   clear H'
   try clear p2
   obtain ⟨x3_1,rfl,HA,HK1,⟨m1,rfl⟩⟩ := hrel
   cases gk with
   | zero => exact absurd HA.out (by simp [keelsonref4_Trim.l0])
   | succ k1 =>
    have H := HA.out
    clear HA
    simp only [keelsonref4_Trim.l0] at H
    by_cases c3 : x3_1 < (a0.size : Int)
    ·rw [if_pos c3] at H
     have c3b0 : decide (x3_1 < (a0.size : Int)) = true := decide_eq_true c3
     clear c3
     (first|rw [c3b0]|(simp only [i64_w,i32_w];rw [c3b0]) | skip)
     by_cases c4 : 0 ≤ x3_1
     ·rw [if_pos c4] at H
      have c4b0 : decide (0 ≤ x3_1) = true := decide_eq_true c4
      clear c4
      by_cases c5 : x3_1 < (a0.size : Int)
      ·rw [if_pos c5] at H
       have c5b0 : decide (x3_1 < (a0.size : Int)) = true := decide_eq_true c5
       clear c5
       by_cases c7 : (bt a0 x3_1) = 32
       ·rw [if_pos c7] at H
        have c7b0 : ((bt a0 x3_1) == 32) = true := beq_iff_eq.mpr c7
        have c7b1 : ((bt a0 x3_1) != 32) = false := bne_eq_false_iff_eq.mpr c7
        clear c7
        have H' := Aside0.mk H
        clear H
        have p6 : 0 ≤ (x3_1 : Int) := of_decide_eq_true (by assumption)
        have q6 : x3_1 < (a0.size : Int) := of_decide_eq_true (by assumption)
        have hx6 := bt_at a0 x3_1
        replace p6 := eq_true p6
        replace q6 := eq_true q6
        go_wp2
        go_roundg k1
        case measure => have := HK1.out;omega
        case rel => exact ⟨(wrap64 (x3_1 + 1)),(by first|rfl|(simp;done)|(simp [*];done)|(simp [qaj];done)),H',⟨by have := HK1.out;omega⟩,by repeat (first|exact Drawn0.refl _|apply Drawn0.step)⟩
       ·rw [if_neg c7] at H
        have c7b0 : ((bt a0 x3_1) == 32) = false := beq_eq_false_iff_ne.mpr c7
        have c7b1 : ((bt a0 x3_1) != 32) = true := bne_iff_ne.mpr c7
        have H' := Aside0.mk H
        clear H
        have p6 : 0 ≤ (x3_1 : Int) := of_decide_eq_true (by assumption)
        have q6 : x3_1 < (a0.size : Int) := of_decide_eq_true (by assumption)
        have hx6 := bt_at a0 x3_1
        replace p6 := eq_true p6
        replace q6 := eq_true q6
        go_wp2
        go_meet
        case rel => exact ⟨_,(x3_1),(by first|rfl|(simp;done)|(simp [*];done)|(simp [qaj];done)),H',⟨by have := HK1.out;first|omega|exact Nat.le_refl _⟩,by repeat (first|exact Drawn0.refl _|apply Drawn0.step)⟩
      ·rw [if_neg c5] at H
       exact absurd H (by simp)
     ·rw [if_neg c4] at H
      exact absurd H (by simp)
    ·rw [if_neg c3] at H
     have c3b0 : decide (x3_1 < (a0.size : Int)) = false := decide_eq_false c3
     clear c3
     (first|rw [c3b0]|(simp only [i64_w,i32_w];rw [c3b0]) | skip)
     have H' := Aside0.mk H
     clear H
     go_wp2
     go_meet
     case rel => exact ⟨_,(x3_1),(by first|rfl|(simp;done)|(simp [*];done)|(simp [qaj];done)),H',⟨by have := HK1.out;first|omega|exact Nat.le_refl _⟩,by repeat (first|exact Drawn0.refl _|apply Drawn0.step)⟩
 case rest =>
  clear HC2
  try clear p2
  try clear c3
  try clear c3b0
  try clear c4
  try clear c4b0
  try clear c5
  try clear c5b0
  try clear p6
  try clear q6
  try clear hx6
  try clear c7
  try clear c7b0
  try clear c7b1
  try clear p2
  try clear p6
  try clear q6
  obtain ⟨kq,x3_1,rfl,HA,HJ1,⟨mc1,rfl⟩⟩ := hcut
  cases kq with
  | zero => exact absurd HA.out (by simp [keelsonref4_Trim.j1])
  | succ kj1 =>
   have H := HA.out
   clear HA
   simp only [keelsonref4_Trim.j1] at H
   have H' := Aside0.mk H
   clear H
   go_wp2
   go_loopg [4] kj1 (fun kq v4 w' => ∃ (x4_2 : Int),v4 = .int .i64 x4_2 ∧ Aside0 (keelsonref4_Trim.l1 kq a0 x3_1 x4_2 = some r) ∧ Aside0 (kq ≤ kj1) ∧ Drawn0 w w')
   case atStart => exact ⟨((a0.size : Int)),(by first|rfl|(simp;done)|(simp [*];done)|(simp [qaj];done)),H',⟨Nat.le_refl _⟩,by repeat (first|exact Drawn0.refl _|apply Drawn0.step)⟩
   case round =>
    clear H'
    try clear c1
    try clear p2
    try clear c3
    try clear c3b0
    try clear c4
    try clear c4b0
    try clear c5
    try clear c5b0
    try clear p6
    try clear q6
    try clear hx6
    try clear c7
    try clear c7b0
    try clear c7b1
    try clear p2
    try clear p6
    try clear q6
    obtain ⟨x4_2,rfl,HA,HK2,⟨m2,rfl⟩⟩ := hrel
    cases gk with
    | zero => exact absurd HA.out (by simp [keelsonref4_Trim.l1])
    | succ k2 =>
     have H := HA.out
     clear HA
     simp only [keelsonref4_Trim.l1] at H
     by_cases c8 : x4_2 > x3_1
     ·rw [if_pos c8] at H
      have c8b0 : decide (x3_1 < x4_2) = true := decide_eq_true c8
      clear c8
      obtain ⟨ji9,hji9⟩ : ∃ j_ : Int,(wrap64 (x4_2 - 1)) = j_ := ⟨_,rfl⟩
      replace H : (if 0 ≤ (ji9) then (if (ji9) < (a0.size : Int) then (if (bt a0 (ji9)) = 32 then (keelsonref4_Trim.l1 k2 a0 x3_1 ji9) else (if 0 ≤ x3_1 then (if x3_1 ≤ x4_2 then (if x4_2 ≤ (a0.size : Int) then (some (a0.extract (x3_1 : Int).toNat (x4_2 : Int).toNat)) else (none)) else (none)) else (none))) else (none)) else (none)) = some r := by first|(rw [hji9] at H;exact H)|(simp only [hji9] at H ⊢;exact H)
      have hji9w : (IntKind.i64.wrap (x4_2 - 1)) = ji9 := (i64_w _).trans hji9
      by_cases c10 : 0 ≤ (ji9)
      ·rw [if_pos c10] at H
       have c10b0 : decide (0 ≤ (ji9)) = true := decide_eq_true c10
       clear c10
       by_cases c11 : (ji9) < (a0.size : Int)
       ·rw [if_pos c11] at H
        have c11b0 : decide ((ji9) < (a0.size : Int)) = true := decide_eq_true c11
        clear c11
        by_cases c13 : (bt a0 (ji9)) = 32
        ·rw [if_pos c13] at H
         have c13b0 : ((bt a0 (ji9)) == 32) = true := beq_iff_eq.mpr c13
         have c13b1 : ((bt a0 (ji9)) != 32) = false := bne_eq_false_iff_eq.mpr c13
         clear c13
         have H' := Aside0.mk H
         clear H
         have p12 : 0 ≤ ((ji9) : Int) := of_decide_eq_true (by assumption)
         have q12 : (ji9) < (a0.size : Int) := of_decide_eq_true (by assumption)
         have hx12 := bt_at a0 (ji9)
         replace p12 := eq_true p12
         replace q12 := eq_true q12
         go_wp2
         go_roundg k2
         case measure => have := HJ1.out;have := HK2.out;omega
         case rel => exact ⟨(ji9),(by first|rfl|(simp;done)|(simp only [← hji9]<;>(first|rfl|simp))|(simp [*];done)),H',⟨by have := HJ1.out;have := HK2.out;omega⟩,by repeat (first|exact Drawn0.refl _|apply Drawn0.step)⟩
        ·rw [if_neg c13] at H
         have c13b0 : ((bt a0 (ji9)) == 32) = false := beq_eq_false_iff_ne.mpr c13
         have c13b1 : ((bt a0 (ji9)) != 32) = true := bne_iff_ne.mpr c13
         by_cases c14 : 0 ≤ x3_1
         ·rw [if_pos c14] at H
          have c14b0 := eq_true c14
          have c14b1 : decide (0 ≤ x3_1) = true := decide_eq_true c14
          clear c14
          by_cases c15 : x3_1 ≤ x4_2
          ·rw [if_pos c15] at H
           have c15b0 := eq_true c15
           have c15b1 : decide (x3_1 ≤ x4_2) = true := decide_eq_true c15
           clear c15
           by_cases c16 : x4_2 ≤ (a0.size : Int)
           ·rw [if_pos c16] at H
            have c16b0 := eq_true c16
            have c16b1 : decide (x4_2 ≤ (a0.size : Int)) = true := decide_eq_true c16
            clear c16
            obtain rfl := Option.some.inj H
            have p12 : 0 ≤ ((ji9) : Int) := of_decide_eq_true (by assumption)
            have q12 : (ji9) < (a0.size : Int) := of_decide_eq_true (by assumption)
            have hx12 := bt_at a0 (ji9)
            replace p12 := eq_true p12
            replace q12 := eq_true q12
            go_wp2
            go_ret
            exact ⟨by first|rfl|(simp;done)|(simp only [← hji9]<;>(first|rfl|simp))|(simp [*];done),by repeat (first|exact Drawn0.refl _|apply Drawn0.step)⟩
           ·rw [if_neg c16] at H
            exact absurd H (by simp)
          ·rw [if_neg c15] at H
           exact absurd H (by simp)
         ·rw [if_neg c14] at H
          exact absurd H (by simp)
       ·rw [if_neg c11] at H
        exact absurd H (by simp)
      ·rw [if_neg c10] at H
       exact absurd H (by simp)
     ·rw [if_neg c8] at H
      have c8b0 : decide (x3_1 < x4_2) = false := decide_eq_false c8
      clear c8
      by_cases c17 : 0 ≤ x3_1
      ·rw [if_pos c17] at H
       have c17b0 := eq_true c17
       have c17b1 : decide (0 ≤ x3_1) = true := decide_eq_true c17
       clear c17
       by_cases c18 : x3_1 ≤ x4_2
       ·rw [if_pos c18] at H
        have c18b0 := eq_true c18
        have c18b1 : decide (x3_1 ≤ x4_2) = true := decide_eq_true c18
        clear c18
        by_cases c19 : x4_2 ≤ (a0.size : Int)
        ·rw [if_pos c19] at H
         have c19b0 := eq_true c19
         have c19b1 : decide (x4_2 ≤ (a0.size : Int)) = true := decide_eq_true c19
         clear c19
         obtain rfl := Option.some.inj H
         go_wp2
         go_ret
         exact ⟨by first|rfl|(simp;done)|(simp [*];done)|(simp [qaj];done),by repeat (first|exact Drawn0.refl _|apply Drawn0.step)⟩
        ·rw [if_neg c19] at H
         exact absurd H (by simp)
       ·rw [if_neg c18] at H
        exact absurd H (by simp)
      ·rw [if_neg c17] at H
       exact absurd H (by simp)
mutual
def keelsonref4_Parse.l0 : Nat → List ByteArray → Int → Option ((List (List (S39))) × Int)
 | 0,_,_ => none
 | k + 1,x4,x6 => if x6 < (x4.length : Int) then (if 0 ≤ x6 then ((keelsonref4_pieces.f k (rdOf ByteArray.empty x4 x6) 124).bind fun t301 => (if (t301.length : Int) > 6 then (some (([] : List (List (S39))),8)) else (keelsonref4_Parse.l0 k x4 (wrap64 (x6 + 1))))) else (none)) else (keelsonref4_Parse.l1 k x4 ([] : List (List (S39))) 0)
def keelsonref4_Parse.l1 : Nat → List ByteArray → List (List (S39)) → Int → Option ((List (List (S39))) × Int)
 | 0,_,_,_ => none
 | k + 1,x4,x5,x7 => if x7 < (x4.length : Int) then (if 0 ≤ x7 then ((keelsonref4_pieces.f k (rdOf ByteArray.empty x4 x7) 124).bind fun t305 => (keelsonref4_Parse.l2 k x4 x5 x7 t305 ([] : List (S39)) 0)) else (none)) else (some (x5,0))
def keelsonref4_Parse.l2 : Nat → List ByteArray → List (List (S39)) → Int → List ByteArray → List (S39) → Int → Option ((List (List (S39))) × Int)
 | 0,_,_,_,_,_,_ => none
 | k + 1,x4,x5,x7,x8,x9,x10 => if x10 < (x8.length : Int) then (if 0 ≤ x10 then ((keelsonref4_Trim.f k (rdOf ByteArray.empty x8 x10)).bind fun t312 => ((keelsonref3_Parse.f k t312).bind fun bt313 => (if bt313.2.2.2 = 0 then (if x9.length < 3518437208883 then (keelsonref4_Parse.l2 k x4 x5 x7 x8 (x9 ++ [(⟨bt313.1,bt313.2.1,bt313.2.2.1⟩ : S39)]) (wrap64 (x10 + 1))) else (none)) else (some (([] : List (List (S39))),bt313.2.2.2))))) else (none)) else (if x5.length < 5864062014805 then (keelsonref4_Parse.l1 k x4 (x5 ++ [x9]) (wrap64 (x7 + 1))) else (none))
end
def keelsonref4_Parse.f (k : Nat) (a0 : ByteArray) : Option ((List (List (S39))) × Int) := if a0.toList = ([] : List UInt8) then (some (([] : List (List (S39))),0)) else ((keelsonref4_pieces.f k a0 44).bind fun t297 => (if (t297.length : Int) > 12 then (some (([] : List (List (S39))),8)) else (keelsonref4_Parse.l0 k t297 0)))
theorem keelsonref4_Parse.mono_l : ∀ k,(∀ y0 y1,LeO (keelsonref4_Parse.l0 k y0 y1) (keelsonref4_Parse.l0 (k + 1) y0 y1)) ∧ (∀ y0 y1 y2,LeO (keelsonref4_Parse.l1 k y0 y1 y2) (keelsonref4_Parse.l1 (k + 1) y0 y1 y2)) ∧ (∀ y0 y1 y2 y3 y4 y5,LeO (keelsonref4_Parse.l2 k y0 y1 y2 y3 y4 y5) (keelsonref4_Parse.l2 (k + 1) y0 y1 y2 y3 y4 y5))
 | 0 => ⟨fun _ _ r h => by simp [keelsonref4_Parse.l0] at h,fun _ _ _ r h => by simp [keelsonref4_Parse.l1] at h,fun _ _ _ _ _ _ r h => by simp [keelsonref4_Parse.l2] at h⟩
 | k + 1 => by
  obtain ⟨ih0,ih1,ih2⟩ := keelsonref4_Parse.mono_l k
  refine ⟨?_,?_,?_⟩
  ·intro y0 y1
   unfold keelsonref4_Parse.l0
   repeat' first
   | (with_reducible exact ih0 _ _)
   | (with_reducible exact ih1 _ _ _)
   | (with_reducible exact ih2 _ _ _ _ _ _)
   | (with_reducible exact keelsonref3_Parse.mono _ _)
   | (with_reducible exact keelsonref4_Trim.mono _ _)
   | (with_reducible exact keelsonref4_pieces.mono _ _ _)
   | (with_reducible exact LeO.refl _)
   | (with_reducible exact LeO.none _)
   | (with_reducible refine LeO.ite ?_ ?_)
   | (with_reducible refine LeO.bind ?_ (fun _ => ?_))
   | exact ih0 _ _
   | exact ih1 _ _ _
   | exact ih2 _ _ _ _ _ _
   | exact keelsonref3_Parse.mono _ _
   | exact keelsonref4_Trim.mono _ _
   | exact keelsonref4_pieces.mono _ _ _
   | exact LeO.none _
   | refine LeO.ite ?_ ?_
   | refine LeO.bind ?_ (fun _ => ?_)
  ·intro y0 y1 y2
   unfold keelsonref4_Parse.l1
   repeat' first
   | (with_reducible exact ih0 _ _)
   | (with_reducible exact ih1 _ _ _)
   | (with_reducible exact ih2 _ _ _ _ _ _)
   | (with_reducible exact keelsonref3_Parse.mono _ _)
   | (with_reducible exact keelsonref4_Trim.mono _ _)
   | (with_reducible exact keelsonref4_pieces.mono _ _ _)
   | (with_reducible exact LeO.refl _)
   | (with_reducible exact LeO.none _)
   | (with_reducible refine LeO.ite ?_ ?_)
   | (with_reducible refine LeO.bind ?_ (fun _ => ?_))
   | exact ih0 _ _
   | exact ih1 _ _ _
   | exact ih2 _ _ _ _ _ _
   | exact keelsonref3_Parse.mono _ _
   | exact keelsonref4_Trim.mono _ _
   | exact keelsonref4_pieces.mono _ _ _
   | exact LeO.none _
   | refine LeO.ite ?_ ?_
   | refine LeO.bind ?_ (fun _ => ?_)
  ·intro y0 y1 y2 y3 y4 y5
   unfold keelsonref4_Parse.l2
   repeat' first
   | (with_reducible exact ih0 _ _)
   | (with_reducible exact ih1 _ _ _)
   | (with_reducible exact ih2 _ _ _ _ _ _)
   | (with_reducible exact keelsonref3_Parse.mono _ _)
   | (with_reducible exact keelsonref4_Trim.mono _ _)
   | (with_reducible exact keelsonref4_pieces.mono _ _ _)
   | (with_reducible exact LeO.refl _)
   | (with_reducible exact LeO.none _)
   | (with_reducible refine LeO.ite ?_ ?_)
   | (with_reducible refine LeO.bind ?_ (fun _ => ?_))
   | exact ih0 _ _
   | exact ih1 _ _ _
   | exact ih2 _ _ _ _ _ _
   | exact keelsonref3_Parse.mono _ _
   | exact keelsonref4_Trim.mono _ _
   | exact keelsonref4_pieces.mono _ _ _
   | exact LeO.none _
   | refine LeO.ite ?_ ?_
   | refine LeO.bind ?_ (fun _ => ?_)
theorem keelsonref4_Parse.mono : ∀ a0 k,LeO (keelsonref4_Parse.f k a0) (keelsonref4_Parse.f (k + 1) a0) := by
 intro a0 k
 obtain ⟨ih0,ih1,ih2⟩ := keelsonref4_Parse.mono_l k
 unfold keelsonref4_Parse.f
 repeat' first
   | (with_reducible exact ih0 _ _)
   | (with_reducible exact ih1 _ _ _)
   | (with_reducible exact ih2 _ _ _ _ _ _)
   | (with_reducible exact keelsonref3_Parse.mono _ _)
   | (with_reducible exact keelsonref4_Trim.mono _ _)
   | (with_reducible exact keelsonref4_pieces.mono _ _ _)
   | (with_reducible exact LeO.refl _)
   | (with_reducible exact LeO.none _)
   | (with_reducible refine LeO.ite ?_ ?_)
   | (with_reducible refine LeO.bind ?_ (fun _ => ?_))
   | exact ih0 _ _
   | exact ih1 _ _ _
   | exact ih2 _ _ _ _ _ _
   | exact keelsonref3_Parse.mono _ _
   | exact keelsonref4_Trim.mono _ _
   | exact keelsonref4_pieces.mono _ _ _
   | exact LeO.none _
   | refine LeO.ite ?_ ?_
   | refine LeO.bind ?_ (fun _ => ?_)
theorem keelsonref4_Parse.calls (k : Nat) (a0 : ByteArray) (r1 : List (List (S39))) (r2 : Int) (w : World) (hG : GL w) (h : keelsonref4_Parse.f k a0 = some (r1,r2)) :
  Calls Tryz.prog 11 #[.string a0] w fun e w' => ∃ v0_ : Value,e = .returned (.tuple #[v0_,.int .i64 r2]) ∧ Kd.S (Kd.slice 39 k39) 48 w' w.heap.size (fun _ => True) v0_ r1 ∧ Below w.heap.size w w' := by
 have hu39 := Tryz.underlying39
 have HB := Aside0.mk (Below.refl w.heap.size w)
 have H : (if a0.toList = ([] : List UInt8) then (some (([] : List (List (S39))),0)) else ((keelsonref4_pieces.f k a0 44).bind fun t297 => (if (t297.length : Int) > 12 then (some (([] : List (List (S39))),8)) else (keelsonref4_Parse.l0 k t297 0)))) = some (r1,r2) := h
 clear h
 by_cases c2 : a0.toList = ([] : List UInt8)
 ·rw [if_pos c2] at H
  have c2b0 : (a0.toList == ([] : List UInt8)) = true := beq_iff_eq.mpr c2
  have c2b1 : (a0.toList != ([] : List UInt8)) = false := bne_eq_false_iff_eq.mpr c2
  clear c2
  simp only [Option.some.injEq,Prod.mk.injEq] at H
  obtain ⟨rfl,rfl⟩ := H
  go_enter Tryz.func11,Tryz.ntmps11
  go_wp2
  go_ret2
  exact ⟨_,by first|rfl|(simp [qal,qam]<;>rfl)|(simp [*,qal,qam]<;>rfl),by first|exact Kd.S_nil _ _ _ _ _|exact Kd.N_nil _ _ _ _ _|exact Kd.V_nil _ _ _ _ _|exact Kd.Q_nil _ _ _ _ _|exact Kd.R_nil _ _ _ _ _,by repeat (with_reducible first|exact HB.out|apply qab|apply qaa|apply qac)⟩
 ·rw [if_neg c2] at H
  have c2b0 : (a0.toList == ([] : List UInt8)) = false := beq_eq_false_iff_ne.mpr c2
  have c2b1 : (a0.toList != ([] : List UInt8)) = true := bne_iff_ne.mpr c2
  replace H := Option.bind_eq_some_iff.mp H
  obtain ⟨t297,A30,H⟩ := H
  replace H : (if (t297.length : Int) > 12 then (some (([] : List (List (S39))),8)) else (keelsonref4_Parse.l0 k t297 0)) = some (r1,r2) := H
  have A3 := Aside0.mk A30
  clear A30
  by_cases c4 : (t297.length : Int) > 12
  ·rw [if_pos c4] at H
   have c4b0 : decide (12 < (t297.length : Int)) = true := decide_eq_true c4
   have c4b1 : decide (12 < t297.length) = true := decide_eq_true (by omega)
   clear c4
   simp only [Option.some.injEq,Prod.mk.injEq] at H
   obtain ⟨rfl,rfl⟩ := H
   go_enter Tryz.func11,Tryz.ntmps11
   go_wp2_with (first|((with_reducible refine qak (f := 34) rfl ?_);refine goesL_ (some 16) rfl rfl Tryz.func34 (by kernel_rfl) rfl #[.string a0,.int .u8 44] rfl (by first|rfl|(simp only [List.map_toArray,List.map_cons,List.map_nil,List.length_drop,List.length_take];rfl)|simp only [List.map_toArray,List.map_cons,List.map_nil]) ?_;(with_reducible refine (keelsonref4_pieces.calls k a0 44 t297 _ (by first|exact hG|exact GL.below hG (by repeat (with_reducible first|exact HB.out|apply qab|apply qaa|apply qac)))  A3.out).mono ?_);rintro e w5 ⟨v298,rfl,ho0,hb⟩;refine ⟨_,rfl,?_⟩;have n0_ := Aside0.mk (Kd.R_lower ho0 (qao (by repeat (with_reducible first|exact HB.out|apply qab|apply qaa|apply qac))));have n1_ := Aside0.mk (qan (by repeat (with_reducible first|exact HB.out|apply qab|apply qaa|apply qac)) hb);clear HB;have HO299 := n0_;have HB := n1_;clear n0_ n1_;(try clear hb);(try clear hb2);(try clear hk);(try clear hi);(try clear ho0);obtain ⟨Ao6,co6,eo6⟩ := Kd.R_slice HO299.out;subst eo6))
   go_ret2
   exact ⟨_,by first|rfl|(simp [qal,qam]<;>rfl)|(simp [*,qal,qam]<;>rfl),by first|exact Kd.S_nil _ _ _ _ _|exact Kd.N_nil _ _ _ _ _|exact Kd.V_nil _ _ _ _ _|exact Kd.Q_nil _ _ _ _ _|exact Kd.R_nil _ _ _ _ _,by repeat (with_reducible first|exact HB.out|apply qab|apply qaa|apply qac)⟩
  ·rw [if_neg c4] at H
   have c4b0 : decide (12 < (t297.length : Int)) = false := decide_eq_false c4
   have c4b1 : decide (12 < t297.length) = false := decide_eq_false (by omega)
   clear c4
   have H' := Aside0.mk H
   clear H
   go_enter Tryz.func11,Tryz.ntmps11
   go_wp2_with (first|((with_reducible refine qak (f := 34) rfl ?_);refine goesL_ (some 16) rfl rfl Tryz.func34 (by kernel_rfl) rfl #[.string a0,.int .u8 44] rfl (by first|rfl|(simp only [List.map_toArray,List.map_cons,List.map_nil,List.length_drop,List.length_take];rfl)|simp only [List.map_toArray,List.map_cons,List.map_nil]) ?_;(with_reducible refine (keelsonref4_pieces.calls k a0 44 t297 _ (by first|exact hG|exact GL.below hG (by repeat (with_reducible first|exact HB.out|apply qab|apply qaa|apply qac)))  A3.out).mono ?_);rintro e w7 ⟨v298,rfl,ho0,hb⟩;refine ⟨_,rfl,?_⟩;have n0_ := Aside0.mk (Kd.R_lower ho0 (qao (by repeat (with_reducible first|exact HB.out|apply qab|apply qaa|apply qac))));have n1_ := Aside0.mk (qan (by repeat (with_reducible first|exact HB.out|apply qab|apply qaa|apply qac)) hb);clear HB;have HO299 := n0_;have HB := n1_;clear n0_ n1_;(try clear hb);(try clear hb2);(try clear hk);(try clear hi);(try clear ho0);obtain ⟨Ao8,co8,eo8⟩ := Kd.R_slice HO299.out;subst eo8))
   go_loopg [6] k (fun kq v6 w' => ∃ (x6_1 : Int),v6 = .int .i64 x6_1 ∧ Aside0 (keelsonref4_Parse.l0 kq t297 x6_1 = some (r1,r2)) ∧ Aside0 (kq ≤ k) ∧ Aside0 (Kd.R Kd.string 9 w' w.heap.size (fun _ => True) (.slice Ao8 t297.length co8) t297) ∧ Aside0 (Below w.heap.size w w'))
   case atStart => exact ⟨(0),(by first|rfl|(simp;done)|(simp [*];done)|(simp [qaj];done)),H',⟨Nat.le_refl _⟩,⟨by (with_reducible repeat (first|apply Kd.R_alloc|apply Kd.R_drewN|apply Kd.R_drew));exact HO299.out⟩,⟨by repeat (with_reducible first|exact HB.out|apply qab|apply qaa|apply qac)⟩⟩
   case round =>
    clear H'
    try clear c1
    try clear c2
    try clear c2b0
    try clear c2b1
    try clear p2
    try clear c3
    try clear c4
    try clear c4b0
    try clear c4b1
    obtain ⟨x6_1,rfl,HA,HK1,HO_4,HB⟩ := hrel
    cases gk with
    | zero => exact absurd HA.out (by simp [keelsonref4_Parse.l0])
    | succ k1 =>
     have H := HA.out
     clear HA
     simp only [keelsonref4_Parse.l0] at H
     by_cases c9 : x6_1 < (t297.length : Int)
     ·rw [if_pos c9] at H
      have c9b0 : decide (x6_1 < (t297.length : Int)) = true := decide_eq_true c9
      clear c9
      by_cases c10 : 0 ≤ x6_1
      ·rw [if_pos c10] at H
       have c10b0 : decide (0 ≤ x6_1) = true := decide_eq_true c10
       clear c10
       replace H := Option.bind_eq_some_iff.mp H
       obtain ⟨t301,A110,H⟩ := H
       replace H : (if (t301.length : Int) > 6 then (some (([] : List (List (S39))),8)) else (keelsonref4_Parse.l0 k1 t297 (wrap64 (x6_1 + 1)))) = some (r1,r2) := H
       have A11 := Aside0.mk A110
       clear A110
       by_cases c12 : (t301.length : Int) > 6
       ·rw [if_pos c12] at H
        have c12b0 : decide (6 < (t301.length : Int)) = true := decide_eq_true c12
        have c12b1 : decide (6 < t301.length) = true := decide_eq_true (by omega)
        clear c12
        simp only [Option.some.injEq,Prod.mk.injEq] at H
        obtain ⟨rfl,rfl⟩ := H
        have p300 : 0 ≤ (x6_1 : Int) := of_decide_eq_true (by assumption)
        have q300 : x6_1 < (t297.length : Int) := of_decide_eq_true (by assumption)
        obtain ⟨ad300,e300,hx300_0⟩ := Kd.at_string (Kd.R_reads' HO_4.out).2.2 x6_1 p300 q300
        cases e300
        replace p300 := eq_true p300
        replace q300 := eq_true q300
        go_wp2_with (first|((with_reducible refine qak (f := 34) rfl ?_);refine goesL_ (some 30) rfl rfl Tryz.func34 (by kernel_rfl) rfl #[.string (rdOf ByteArray.empty t297 x6_1),.int .u8 124] rfl (by first|rfl|(simp only [List.map_toArray,List.map_cons,List.map_nil,List.length_drop,List.length_take];rfl)|simp only [List.map_toArray,List.map_cons,List.map_nil]) ?_;(with_reducible refine (keelsonref4_pieces.calls k1 (rdOf ByteArray.empty t297 x6_1) 124 t301 _ (by first|exact hG|exact GL.below hG (by repeat (with_reducible first|exact HB.out|apply qab|apply qaa|apply qac)))  A11.out).mono ?_);rintro e w13 ⟨v302,rfl,ho0,hb⟩;refine ⟨_,rfl,?_⟩;have n0_ := Aside0.mk (Kd.R_elder' (by (with_reducible repeat (first|apply Kd.R_alloc|apply Kd.R_drewN|apply Kd.R_drew));exact HO_4.out) (Kd.R_base ho0) hb);have n1_ := Aside0.mk (Kd.R_lower (Kd.R_new' ho0 (Kd.R_lt (by (with_reducible repeat (first|apply Kd.R_alloc|apply Kd.R_drewN|apply Kd.R_drew));exact HO_4.out))) (qao (by repeat (with_reducible first|exact HB.out|apply qab|apply qaa|apply qac))));have n2_ := Aside0.mk (qan (by repeat (with_reducible first|exact HB.out|apply qab|apply qaa|apply qac)) hb);clear HO_4;clear HB;have HO_4 := n0_;have HO303 := n1_;have HB := n2_;clear n0_ n1_ n2_;(try clear hb);(try clear hb2);(try clear hk);(try clear hi);(try clear ho0);obtain ⟨Ao14,co14,eo14⟩ := Kd.R_slice HO303.out;subst eo14))
        go_ret2
        exact ⟨_,by first|rfl|(simp [qal,qam]<;>rfl)|(simp [*,qal,qam]<;>rfl),by first|exact Kd.S_nil _ _ _ _ _|exact Kd.N_nil _ _ _ _ _|exact Kd.V_nil _ _ _ _ _|exact Kd.Q_nil _ _ _ _ _|exact Kd.R_nil _ _ _ _ _,by repeat (with_reducible first|exact HB.out|apply qab|apply qaa|apply qac)⟩
       ·rw [if_neg c12] at H
        have c12b0 : decide (6 < (t301.length : Int)) = false := decide_eq_false c12
        have c12b1 : decide (6 < t301.length) = false := decide_eq_false (by omega)
        clear c12
        have H' := Aside0.mk H
        clear H
        have p300 : 0 ≤ (x6_1 : Int) := of_decide_eq_true (by assumption)
        have q300 : x6_1 < (t297.length : Int) := of_decide_eq_true (by assumption)
        obtain ⟨ad300,e300,hx300_0⟩ := Kd.at_string (Kd.R_reads' HO_4.out).2.2 x6_1 p300 q300
        cases e300
        replace p300 := eq_true p300
        replace q300 := eq_true q300
        go_wp2_with (first|((with_reducible refine qak (f := 34) rfl ?_);refine goesL_ (some 30) rfl rfl Tryz.func34 (by kernel_rfl) rfl #[.string (rdOf ByteArray.empty t297 x6_1),.int .u8 124] rfl (by first|rfl|(simp only [List.map_toArray,List.map_cons,List.map_nil,List.length_drop,List.length_take];rfl)|simp only [List.map_toArray,List.map_cons,List.map_nil]) ?_;(with_reducible refine (keelsonref4_pieces.calls k1 (rdOf ByteArray.empty t297 x6_1) 124 t301 _ (by first|exact hG|exact GL.below hG (by repeat (with_reducible first|exact HB.out|apply qab|apply qaa|apply qac)))  A11.out).mono ?_);rintro e w15 ⟨v302,rfl,ho0,hb⟩;refine ⟨_,rfl,?_⟩;have n0_ := Aside0.mk (Kd.R_elder' (by (with_reducible repeat (first|apply Kd.R_alloc|apply Kd.R_drewN|apply Kd.R_drew));exact HO_4.out) (Kd.R_base ho0) hb);have n1_ := Aside0.mk (Kd.R_lower (Kd.R_new' ho0 (Kd.R_lt (by (with_reducible repeat (first|apply Kd.R_alloc|apply Kd.R_drewN|apply Kd.R_drew));exact HO_4.out))) (qao (by repeat (with_reducible first|exact HB.out|apply qab|apply qaa|apply qac))));have n2_ := Aside0.mk (qan (by repeat (with_reducible first|exact HB.out|apply qab|apply qaa|apply qac)) hb);clear HO_4;clear HB;have HO_4 := n0_;have HO303 := n1_;have HB := n2_;clear n0_ n1_ n2_;(try clear hb);(try clear hb2);(try clear hk);(try clear hi);(try clear ho0);obtain ⟨Ao16,co16,eo16⟩ := Kd.R_slice HO303.out;subst eo16))
        go_roundg k1
        case measure => have := HK1.out;omega
        case rel => exact ⟨(wrap64 (x6_1 + 1)),(by first|rfl|(simp;done)|(simp [*];done)|(simp [qaj];done)),H',⟨by have := HK1.out;omega⟩,⟨by (with_reducible repeat (first|apply Kd.R_alloc|apply Kd.R_drewN|apply Kd.R_drew));exact Kd.R_mono HO_4.out (fun _ hk => trivial)⟩,⟨by repeat (with_reducible first|exact HB.out|apply qab|apply qaa|apply qac)⟩⟩
      ·rw [if_neg c10] at H
       exact absurd H (by simp)
     ·rw [if_neg c9] at H
      have c9b0 : decide (x6_1 < (t297.length : Int)) = false := decide_eq_false c9
      clear c9
      have H' := Aside0.mk H
      clear H
      go_wp2
      go_loopg [5,7] k1 (fun kq v5 v7 w' => ∃ (x5_2 : List (List (S39))) (x7_2 : Int),v7 = .int .i64 x7_2 ∧ Aside0 (keelsonref4_Parse.l1 kq t297 x5_2 x7_2 = some (r1,r2)) ∧ Aside0 (kq ≤ k1) ∧ Aside0 (Kd.R Kd.string 9 w' w.heap.size (fun _ => True) (.slice Ao8 t297.length co8) t297) ∧ Aside0 (Kd.S (Kd.slice 39 k39) 48 w' w.heap.size (fun _ => True) v5 x5_2) ∧ Aside0 (Below w.heap.size w w'))
      case atStart => exact ⟨(([] : List (List (S39)))),(0),(by first|rfl|(simp;done)|(simp [*];done)|(simp [qaj];done)),H',⟨Nat.le_refl _⟩,⟨by (with_reducible repeat (first|apply Kd.R_alloc|apply Kd.R_drewN|apply Kd.R_drew));exact HO_4.out⟩,⟨by first|exact Kd.S_nil _ _ _ _ _|exact Kd.N_nil _ _ _ _ _|exact Kd.V_nil _ _ _ _ _|exact Kd.Q_nil _ _ _ _ _|exact Kd.R_nil _ _ _ _ _⟩,⟨by repeat (with_reducible first|exact HB.out|apply qab|apply qaa|apply qac)⟩⟩
      case round =>
       clear H'
       try clear c1
       try clear c2
       try clear c2b0
       try clear c2b1
       try clear p2
       try clear c3
       try clear p3
       try clear q3
       try clear hx3
       try clear c4
       try clear c4b0
       try clear c4b1
       try clear p6
       try clear c9
       try clear c9b0
       try clear c10
       try clear c10b0
       try clear c11
       try clear c12
       try clear c12b0
       try clear c12b1
       try clear hx300_0
       try clear p2
       try clear p300
       try clear q300
       obtain ⟨x5_2,x7_2,rfl,HA,HK2,HO_4,HO_5,HB⟩ := hrel
       cases gk with
       | zero => exact absurd HA.out (by simp [keelsonref4_Parse.l1])
       | succ k2 =>
        have H := HA.out
        clear HA
        simp only [keelsonref4_Parse.l1] at H
        by_cases c17 : x7_2 < (t297.length : Int)
        ·rw [if_pos c17] at H
         have c17b0 : decide (x7_2 < (t297.length : Int)) = true := decide_eq_true c17
         clear c17
         by_cases c18 : 0 ≤ x7_2
         ·rw [if_pos c18] at H
          have c18b0 : decide (0 ≤ x7_2) = true := decide_eq_true c18
          clear c18
          replace H := Option.bind_eq_some_iff.mp H
          obtain ⟨t305,A190,H⟩ := H
          replace H : (keelsonref4_Parse.l2 k2 t297 x5_2 x7_2 t305 ([] : List (S39)) 0) = some (r1,r2) := H
          have A19 := Aside0.mk A190
          clear A190
          have H' := Aside0.mk H
          clear H
          have p304 : 0 ≤ (x7_2 : Int) := of_decide_eq_true (by assumption)
          have q304 : x7_2 < (t297.length : Int) := of_decide_eq_true (by assumption)
          obtain ⟨ad304,e304,hx304_0⟩ := Kd.at_string (Kd.R_reads' HO_4.out).2.2 x7_2 p304 q304
          cases e304
          replace p304 := eq_true p304
          replace q304 := eq_true q304
          go_wp2_with (first|((with_reducible refine qak (f := 34) rfl ?_);refine goesL_ (some 43) rfl rfl Tryz.func34 (by kernel_rfl) rfl #[.string (rdOf ByteArray.empty t297 x7_2),.int .u8 124] rfl (by first|rfl|(simp only [List.map_toArray,List.map_cons,List.map_nil,List.length_drop,List.length_take];rfl)|simp only [List.map_toArray,List.map_cons,List.map_nil]) ?_;(with_reducible refine (keelsonref4_pieces.calls k2 (rdOf ByteArray.empty t297 x7_2) 124 t305 _ (by first|exact hG|exact GL.below hG (by repeat (with_reducible first|exact HB.out|apply qab|apply qaa|apply qac)))  A19.out).mono ?_);rintro e w20 ⟨v306,rfl,ho0,hb⟩;refine ⟨_,rfl,?_⟩;have n0_ := Aside0.mk (Kd.R_elder' (by (with_reducible repeat (first|apply Kd.R_alloc|apply Kd.R_drewN|apply Kd.R_drew));exact HO_4.out) (Kd.R_base ho0) hb);have n1_ := Aside0.mk (Kd.S_below (by (with_reducible repeat (first|apply Kd.S_alloc|apply Kd.S_drewN|apply Kd.S_drew));exact HO_5.out) hb);have n2_ := Aside0.mk (Kd.R_lower (Kd.R_new' ho0 (Kd.R_lt (by (with_reducible repeat (first|apply Kd.R_alloc|apply Kd.R_drewN|apply Kd.R_drew));exact HO_4.out))) (qao (by repeat (with_reducible first|exact HB.out|apply qab|apply qaa|apply qac))));have n3_ := Aside0.mk (qan (by repeat (with_reducible first|exact HB.out|apply qab|apply qaa|apply qac)) hb);clear HO_4;clear HO_5;clear HB;have HO_4 := n0_;have HO_5 := n1_;have HO307 := n2_;have HB := n3_;clear n0_ n1_ n2_ n3_;(try clear hb);(try clear hb2);(try clear hk);(try clear hi);(try clear ho0)))
          go_loopg [9,10] k2 (fun kq v9 v10 w' => ∃ (x9_3 : List (S39)) (x10_3 : Int),v10 = .int .i64 x10_3 ∧ Aside0 (keelsonref4_Parse.l2 kq t297 x5_2 x7_2 t305 x9_3 x10_3 = some (r1,r2)) ∧ Aside0 (kq ≤ k2) ∧ Aside0 (Kd.R Kd.string 9 w' w.heap.size (fun k_ => some k_ ≠ (v306 : Value).ownBlock) (.slice (some ad304) t297.length co8) t297) ∧ Aside0 (Kd.S (Kd.slice 39 k39) 48 w' w.heap.size (fun k_ => some k_ ≠ (v9 : Value).ownBlock) u5 x5_2) ∧ Aside0 (Kd.R Kd.string 9 w' w.heap.size (fun k_ => some k_ ≠ ((.slice (some ad304) t297.length co8) : Value).ownBlock) v306 t305) ∧ Aside0 (Kd.R k39 39 w' w.heap.size (fun _ => True) v9 x9_3) ∧ Aside0 (Below w.heap.size w w'))
          case atStart => exact ⟨(([] : List (S39))),(0),(by first|rfl|(simp;done)|(simp [*];done)|(simp [qaj];done)),H',⟨Nat.le_refl _⟩,⟨by (with_reducible repeat (first|apply Kd.R_alloc|apply Kd.R_drewN|apply Kd.R_drew));exact Kd.R_mono HO_4.out (fun _ hk => hk.2)⟩,⟨by (with_reducible repeat (first|apply Kd.S_alloc|apply Kd.S_drewN|apply Kd.S_drew));exact Kd.S_mono HO_5.out (fun _ hk => (by simp [Value.ownBlock]))⟩,⟨by (with_reducible repeat (first|apply Kd.R_alloc|apply Kd.R_drewN|apply Kd.R_drew));exact Kd.R_mono HO307.out (fun _ hk => hk.2)⟩,⟨by first|exact Kd.R_nil _ _ _ _ _|exact Kd.N_nil _ _ _ _ _|exact Kd.V_nil _ _ _ _ _|exact Kd.Q_nil _ _ _ _ _|exact Kd.S_nil _ _ _ _ _⟩,⟨by repeat (with_reducible first|exact HB.out|apply qab|apply qaa|apply qac)⟩⟩
          case round =>
           clear H'
           try clear c1
           try clear c2
           try clear c2b0
           try clear c2b1
           try clear p2
           try clear c3
           try clear p3
           try clear q3
           try clear hx3
           try clear c4
           try clear c4b0
           try clear c4b1
           try clear p6
           try clear c9
           try clear c9b0
           try clear c10
           try clear c10b0
           try clear c11
           try clear c12
           try clear c12b0
           try clear c12b1
           try clear c17
           try clear c17b0
           try clear c18
           try clear c18b0
           try clear hx300_0
           try clear hx304_0
           try clear p2
           try clear p3
           try clear p300
           try clear p304
           try clear p6
           try clear q3
           try clear q300
           try clear q304
           obtain ⟨x9_3,x10_3,rfl,HA,HK3,HO_4,HO_5,HO_8,HO_9,HB⟩ := hrel
           cases gk with
           | zero => exact absurd HA.out (by simp [keelsonref4_Parse.l2])
           | succ k3 =>
            have H := HA.out
            clear HA
            simp only [keelsonref4_Parse.l2] at H
            by_cases c21 : x10_3 < (t305.length : Int)
            ·rw [if_pos c21] at H
             have c21b0 : decide (x10_3 < (t305.length : Int)) = true := decide_eq_true c21
             clear c21
             by_cases c22 : 0 ≤ x10_3
             ·rw [if_pos c22] at H
              have c22b0 : decide (0 ≤ x10_3) = true := decide_eq_true c22
              clear c22
              replace H := Option.bind_eq_some_iff.mp H
              obtain ⟨t312,A230,H⟩ := H
              replace H : ((keelsonref3_Parse.f k3 t312).bind fun bt313 => (if bt313.2.2.2 = 0 then (if x9_3.length < 3518437208883 then (keelsonref4_Parse.l2 k3 t297 x5_2 x7_2 t305 (x9_3 ++ [(⟨bt313.1,bt313.2.1,bt313.2.2.1⟩ : S39)]) (wrap64 (x10_3 + 1))) else (none)) else (some (([] : List (List (S39))),bt313.2.2.2)))) = some (r1,r2) := H
              have A23 := Aside0.mk A230
              clear A230
              replace H := Option.bind_eq_some_iff.mp H
              obtain ⟨⟨t313,t314,t315,t316⟩,A240,H⟩ := H
              replace H : (if t316 = 0 then (if x9_3.length < 3518437208883 then (keelsonref4_Parse.l2 k3 t297 x5_2 x7_2 t305 (x9_3 ++ [(⟨t313,t314,t315⟩ : S39)]) (wrap64 (x10_3 + 1))) else (none)) else (some (([] : List (List (S39))),t316))) = some (r1,r2) := H
              have A24 := Aside0.mk A240
              clear A240
              by_cases c25 : t316 = 0
              ·rw [if_pos c25] at H
               have c25b0 : (t316 == 0) = true := beq_iff_eq.mpr c25
               have c25b1 : (t316 != 0) = false := bne_eq_false_iff_eq.mpr c25
               clear c25
               by_cases c26 : x9_3.length < 3518437208883
               ·rw [if_pos c26] at H
                have LMc26 := Aside0.mk c26
                clear c26
                obtain ⟨y318,hy318⟩ : ∃ y_ : List (S39),y_ = (x9_3 ++ [(⟨t313,t314,t315⟩ : S39)]) := ⟨_,rfl⟩
                replace H : (keelsonref4_Parse.l2 k3 t297 x5_2 x7_2 t305 y318 (wrap64 (x10_3 + 1))) = some (r1,r2) := by first|(rw [hy318];with_reducible exact H)|(have H2_ := (Option.bind_some _ _).symm.trans H;rw [hy318];with_reducible exact H2_)|(have H2_ := (Option.bind_some _ _).symm.trans H;with_reducible exact H2_) | with_reducible exact H|(rw [hy318];exact H)|exact H
                have Ny318 := Aside0.mk hy318
                clear hy318
                have H' := Aside0.mk H
                clear H
                obtain ⟨Ao27,co27,eo27⟩ := Kd.R_slice HO_8.out
                subst eo27
                have p311 : 0 ≤ (x10_3 : Int) := of_decide_eq_true (by assumption)
                have q311 : x10_3 < (t305.length : Int) := of_decide_eq_true (by assumption)
                obtain ⟨ad311,e311,hx311_0⟩ := Kd.at_string (Kd.R_reads' HO_8.out).2.2 x10_3 p311 q311
                cases e311
                replace p311 := eq_true p311
                replace q311 := eq_true q311
                go_wp2_with (first|((with_reducible refine qak (f := 36) rfl ?_);refine goesL_ (some 55) rfl rfl Tryz.func36 (by kernel_rfl) rfl #[.string (rdOf ByteArray.empty t305 x10_3)] rfl (by first|rfl|(simp only [List.map_toArray,List.map_cons,List.map_nil,List.length_drop,List.length_take];rfl)|simp only [List.map_toArray,List.map_cons,List.map_nil]) ?_;(with_reducible refine (keelsonref4_Trim.calls k3 (rdOf ByteArray.empty t305 x10_3) t312 _ (by first|exact hG|exact GL.below hG (by repeat (with_reducible first|exact HB.out|apply qab|apply qaa|apply qac)))  A23.out).mono ?_);rintro e w' ⟨rfl,⟨nd,rfl⟩⟩;refine ⟨_,rfl,?_⟩;(try (rw [drewN_self wr];generalize hq_ : World.drewN wr _ = wr;have n0_ : Aside0 (Kd.R Kd.string 9 wr w.heap.size (fun k_ => some k_ ≠ (.slice (some ad311) t305.length co27 : Value).ownBlock) (.slice (some ad304) t297.length co8) t297) := ⟨by rw [← hq_];exact (by (with_reducible repeat (first|apply Kd.R_alloc|apply Kd.R_drewN|apply Kd.R_drew));exact HO_4.out)⟩;have n1_ : Aside0 (Kd.S (Kd.slice 39 k39) 48 wr w.heap.size (fun k_ => some k_ ≠ (u9 : Value).ownBlock) u5 x5_2) := ⟨by rw [← hq_];exact (by (with_reducible repeat (first|apply Kd.S_alloc|apply Kd.S_drewN|apply Kd.S_drew));exact HO_5.out)⟩;have n2_ : Aside0 (Kd.R Kd.string 9 wr w.heap.size (fun k_ => some k_ ≠ (.slice (some ad304) t297.length co8 : Value).ownBlock) (.slice (some ad311) t305.length co27) t305) := ⟨by rw [← hq_];exact (by (with_reducible repeat (first|apply Kd.R_alloc|apply Kd.R_drewN|apply Kd.R_drew));exact HO_8.out)⟩;have n3_ : Aside0 (Kd.R k39 39 wr w.heap.size (fun _ => True) u9 x9_3) := ⟨by rw [← hq_];exact (by (with_reducible repeat (first|apply Kd.R_alloc|apply Kd.R_drewN|apply Kd.R_drew));exact HO_9.out)⟩;have n4_ : Aside0 (Below w.heap.size w wr) := ⟨by rw [← hq_];exact (by repeat (with_reducible first|exact HB.out|apply qab|apply qaa|apply qac))⟩;clear HO_4 HO_5 HO_8 HO_9 HB hq_;have HO_4 := n0_;have HO_5 := n1_;have HO_8 := n2_;have HO_9 := n3_;have HB := n4_;clear n0_ n1_ n2_ n3_ n4_)))|((with_reducible refine qak (f := 35) rfl ?_);refine goesL_ (some 56) rfl rfl Tryz.func35 (by kernel_rfl) rfl #[.string t312] rfl (by first|rfl|(simp only [List.map_toArray,List.map_cons,List.map_nil,List.length_drop,List.length_take];rfl)|simp only [List.map_toArray,List.map_cons,List.map_nil]) ?_;(with_reducible refine (keelsonref3_Parse.calls k3 t312 t313 t314 t315 t316 _ (by first|exact hG|exact GL.below hG (by repeat (with_reducible first|exact HB.out|apply qab|apply qaa|apply qac)))  A24.out).mono ?_);rintro e w28 ⟨rfl,hb⟩;refine ⟨_,rfl,?_⟩;have n0_ := Aside0.mk (Kd.R_below (by (with_reducible repeat (first|apply Kd.R_alloc|apply Kd.R_drewN|apply Kd.R_drew));exact HO_4.out) hb);have n1_ := Aside0.mk (Kd.S_below (by (with_reducible repeat (first|apply Kd.S_alloc|apply Kd.S_drewN|apply Kd.S_drew));exact HO_5.out) hb);have n2_ := Aside0.mk (Kd.R_below (by (with_reducible repeat (first|apply Kd.R_alloc|apply Kd.R_drewN|apply Kd.R_drew));exact HO_8.out) hb);have n3_ := Aside0.mk (Kd.R_below (by (with_reducible repeat (first|apply Kd.R_alloc|apply Kd.R_drewN|apply Kd.R_drew));exact HO_9.out) hb);have n4_ := Aside0.mk (qan (by repeat (with_reducible first|exact HB.out|apply qab|apply qaa|apply qac)) hb);clear HO_4;clear HO_5;clear HO_8;clear HO_9;clear HB;have HO_4 := n0_;have HO_5 := n1_;have HO_8 := n2_;have HO_9 := n3_;have HB := n4_;clear n0_ n1_ n2_ n3_ n4_;(try clear hb);(try clear hb2);(try clear hk);(try clear hi))|((with_reducible refine gate_dst (N := 11) rfl ?_);refine box_event ?hg (N := 11) ?hd (cs := #[.string (⟨#[]⟩ : ByteArray),.int .i64 0,.string (⟨#[]⟩ : ByteArray)]) (t := 39) ?hr ?_;(case hd => rfl);(case hg => rfl);(case hr => first|(go_simp;done)|(go_simp;rfl));intro gb317 hg w29 hbox hb;have n0_ := Aside0.mk (Kd.R_below (by (with_reducible repeat (first|apply Kd.R_alloc|apply Kd.R_drewN|apply Kd.R_drew));exact HO_4.out) hb);have n1_ := Aside0.mk (Kd.S_below (Kd.S_elderB (by (with_reducible repeat (first|apply Kd.S_alloc|apply Kd.S_drewN|apply Kd.S_drew));exact HO_5.out) gb317 (Nat.le_of_eq hg.symm)) hb);have n2_ := Aside0.mk (Kd.R_below (by (with_reducible repeat (first|apply Kd.R_alloc|apply Kd.R_drewN|apply Kd.R_drew));exact HO_8.out) hb);have n3_ := Aside0.mk (Kd.R_below (Kd.R_elderB (by (with_reducible repeat (first|apply Kd.R_alloc|apply Kd.R_drewN|apply Kd.R_drew));exact HO_9.out) gb317 (Nat.le_of_eq hg.symm)) hb);have n4_ := Aside0.mk (qan (by repeat (with_reducible first|exact HB.out|apply qab|apply qaa|apply qac)) hb);have n5_ := Aside0.mk (hbox);have n6_ := Aside0.mk ((by rw [hg];exact (qao (by repeat (with_reducible first|exact HB.out|apply qab|apply qaa|apply qac))) : w.heap.size ≤ gb317));have n7_ := Aside0.mk ((by rw [hg];exact (qao (by repeat (with_reducible first|exact HB.out|apply qab|apply qaa|apply qac))) : w.heap.size ≤ gb317));clear HO_4;clear HO_5;clear HO_8;clear HO_9;clear HB;have HO_4 := n0_;have HO_5 := n1_;have HO_8 := n2_;have HO_9 := n3_;have HB := n4_;have BK317 := n5_;have GW317 := n6_;have GE317 := n7_;clear n0_ n1_ n2_ n3_ n4_ n5_ n6_ n7_;clear hb hbox hg;have hcz30_0 : w29.cell? ⟨gb317,0,none⟩ = some (.string (⟨#[]⟩ : ByteArray)) := (qaf BK317.out 0).trans rfl;have hcz30_1 : w29.cell? ⟨gb317,1,none⟩ = some (.int .i64 0) := (qaf BK317.out 1).trans rfl;have hcz30_2 : w29.cell? ⟨gb317,2,none⟩ = some (.string (⟨#[]⟩ : ByteArray)) := (qaf BK317.out 2).trans rfl;have hfz30_0 := qad BK317.out 0;have hfz30_1 := qad BK317.out 1;have hfz30_2 := qad BK317.out 2)|((with_reducible refine gate_builtin (b := .append) (xs := #[.tmp 62,.tmp 64]) rfl ?_);at_builtin;refine Kd.R_append k39 (w0 := w) w.heap.size rfl (.tmp 62) (.tmp 64) 48 39 (.agg #[(.string ⟨#[]⟩),(.int .i64 0),(.string ⟨#[]⟩)]) 40 rfl Tryz.underlying48 info39 rfl (by decide) (by omega) u9 x9_3 (⟨t313,t314,t315⟩ : S39) [.string t313,.int .i64 t314,.string t315] (fun k_ => k_ ≠ gb317) (fun _ => False) rfl (by first|(go_simp;done)|(go_simp;rfl)) ?aP (fun _ hk => hk.elim) ?aF ?aO ?aB ?aS ?aL ?_;(case aP => exact k39_mkM _ _ _ (⟨t313,t314,t315⟩ : S39));(case aB => exact (by repeat (first|(with_reducible first|exact HB.out|apply qab|apply qaa|apply qac|refine qae ?_ GE317.out)|exact HB.out)));(case aF => exact (fun k_ hk => Kd.freshB (g := gb317) (o := .cells #[.string t313,.int .i64 t314,.string t315] 39 (0,0)) (by (with_reducible repeat (first|refine qah ?_ _|refine qai ?_|refine qag ?_ _));refine blk_put (cs := #[.string t313,.int .i64 t314,.string (⟨#[]⟩ : ByteArray)]) ?_ 2 _ rfl;(with_reducible repeat (first|refine qah ?_ _|refine qai ?_|refine qag ?_ _));refine blk_put (cs := #[.string t313,.int .i64 0,.string (⟨#[]⟩ : ByteArray)]) ?_ 1 _ rfl;(with_reducible repeat (first|refine qah ?_ _|refine qai ?_|refine qag ?_ _));refine blk_put (cs := #[.string (⟨#[]⟩ : ByteArray),.int .i64 0,.string (⟨#[]⟩ : ByteArray)]) ?_ 0 _ rfl;(with_reducible repeat (first|refine qah ?_ _|refine qai ?_|refine qag ?_ _));exact BK317.out) k_ hk));(case aO => exact (by (with_reducible repeat (first|apply Kd.R_alloc|apply Kd.R_drewN|apply Kd.R_drew));exact Kd.R_mono (Kd.R_far (p := ⟨gb317,2,none⟩) (Kd.R_far (p := ⟨gb317,1,none⟩) (Kd.R_far (p := ⟨gb317,0,none⟩) (Kd.R_mono HO_9.out (fun k_ hk => (⟨hk,hk.2⟩ : _ ∧ k_ ≠ gb317))) (fun _ hk => hk.2) (.string t313)) (fun _ hk => hk.2) (.int .i64 t314)) (fun _ hk => hk.2) (.string t315)) (fun _ hk => hk.1.2)));(case aS => exact (qao (by repeat (first|(with_reducible first|exact HB.out|apply qab|apply qaa|apply qac|refine qae ?_ GE317.out)|exact HB.out))));(case aL => have := LMc26.out;omega);intro v319 w31 ho hb hg hat;rw [← Ny318.out] at ho;have n0_ := Aside0.mk (Kd.R_over' (by (with_reducible repeat (first|apply Kd.R_alloc|apply Kd.R_drewN|apply Kd.R_drew));exact (Kd.R_mono (Kd.R_far (p := ⟨gb317,2,none⟩) (Kd.R_far (p := ⟨gb317,1,none⟩) (Kd.R_far (p := ⟨gb317,0,none⟩) (Kd.R_types HO_4.out BK317.out (by decide)) (fun _ hk => hk.2) (.string t313)) (fun _ hk => hk.2) (.int .i64 t314)) (fun _ hk => hk.2) (.string t315)) (fun _ h_ => h_.1))) (Kd.R_typed (by (with_reducible repeat (first|apply Kd.R_alloc|apply Kd.R_drewN|apply Kd.R_drew));exact (Kd.R_mono (Kd.R_far (p := ⟨gb317,2,none⟩) (Kd.R_far (p := ⟨gb317,1,none⟩) (Kd.R_far (p := ⟨gb317,0,none⟩) (Kd.R_mono HO_9.out (fun k_ hk => (⟨hk,hk.2⟩ : _ ∧ k_ ≠ gb317))) (fun _ hk => hk.2) (.string t313)) (fun _ hk => hk.2) (.int .i64 t314)) (fun _ hk => hk.2) (.string t315)) (fun _ h_ => h_.1)))) (by decide) hg);have n1_ := Aside0.mk (Kd.S_after (ok := (fun k_ => k_ ≠ gb317)) (by (with_reducible repeat (first|apply Kd.S_alloc|apply Kd.S_drewN|apply Kd.S_drew));exact Kd.S_mono (Kd.S_far (p := ⟨gb317,2,none⟩) (Kd.S_far (p := ⟨gb317,1,none⟩) (Kd.S_far (p := ⟨gb317,0,none⟩) (Kd.S_mono HO_5.out (fun k_ hk => (⟨hk,hk.2⟩ : _ ∧ k_ ≠ gb317))) (fun _ hk => hk.2) (.string t313)) (fun _ hk => hk.2) (.int .i64 t314)) (fun _ hk => hk.2) (.string t315)) (fun _ hk => ⟨hk.1.2,hk.1.1⟩)) hg hat);have n2_ := Aside0.mk (Kd.R_over' (by (with_reducible repeat (first|apply Kd.R_alloc|apply Kd.R_drewN|apply Kd.R_drew));exact (Kd.R_mono (Kd.R_far (p := ⟨gb317,2,none⟩) (Kd.R_far (p := ⟨gb317,1,none⟩) (Kd.R_far (p := ⟨gb317,0,none⟩) (Kd.R_types HO_8.out BK317.out (by decide)) (fun _ hk => hk.2) (.string t313)) (fun _ hk => hk.2) (.int .i64 t314)) (fun _ hk => hk.2) (.string t315)) (fun _ h_ => h_.1))) (Kd.R_typed (by (with_reducible repeat (first|apply Kd.R_alloc|apply Kd.R_drewN|apply Kd.R_drew));exact (Kd.R_mono (Kd.R_far (p := ⟨gb317,2,none⟩) (Kd.R_far (p := ⟨gb317,1,none⟩) (Kd.R_far (p := ⟨gb317,0,none⟩) (Kd.R_mono HO_9.out (fun k_ hk => (⟨hk,hk.2⟩ : _ ∧ k_ ≠ gb317))) (fun _ hk => hk.2) (.string t313)) (fun _ hk => hk.2) (.int .i64 t314)) (fun _ hk => hk.2) (.string t315)) (fun _ h_ => h_.1)))) (by decide) hg);have n3_ := Aside0.mk (blk_grown (g := gb317) (o := .cells #[.string t313,.int .i64 t314,.string t315] 39 (0,0)) (by (with_reducible repeat (first|refine qah ?_ _|refine qai ?_|refine qag ?_ _));refine blk_put (cs := #[.string t313,.int .i64 t314,.string (⟨#[]⟩ : ByteArray)]) ?_ 2 _ rfl;(with_reducible repeat (first|refine qah ?_ _|refine qai ?_|refine qag ?_ _));refine blk_put (cs := #[.string t313,.int .i64 0,.string (⟨#[]⟩ : ByteArray)]) ?_ 1 _ rfl;(with_reducible repeat (first|refine qah ?_ _|refine qai ?_|refine qag ?_ _));refine blk_put (cs := #[.string (⟨#[]⟩ : ByteArray),.int .i64 0,.string (⟨#[]⟩ : ByteArray)]) ?_ 0 _ rfl;(with_reducible repeat (first|refine qah ?_ _|refine qai ?_|refine qag ?_ _));exact BK317.out) hg (Kd.R_away HO_9.out (fun _ hk => hk.2)));have n4_ := Aside0.mk (hb);have n5_ := Aside0.mk (ho);clear HO_4;clear HO_5;clear HO_8;clear BK317;clear HB;clear HO_9;have HO_4 := n0_;have HO_5 := n1_;have HO_8 := n2_;have BK317 := n3_;have HB := n4_;have HO320 := n5_;clear n0_ n1_ n2_ n3_ n4_ n5_;clear ho hb hg hat))
                go_roundg k3
                case measure => have := HK1.out;have := HK2.out;have := HK3.out;omega
                case rel => exact ⟨(y318),(wrap64 (x10_3 + 1)),(by first|rfl|(simp;done)|(simp [*];done)|(simp [qaj];done)),H',⟨by have := HK1.out;have := HK2.out;have := HK3.out;omega⟩,⟨by (with_reducible repeat (first|apply Kd.R_alloc|apply Kd.R_drewN|apply Kd.R_drew));exact HO_4.out⟩,⟨by (with_reducible repeat (first|apply Kd.S_alloc|apply Kd.S_drewN|apply Kd.S_drew));exact Kd.S_mono HO_5.out (fun _ hk => hk.2)⟩,⟨by (with_reducible repeat (first|apply Kd.R_alloc|apply Kd.R_drewN|apply Kd.R_drew));exact HO_8.out⟩,⟨by (with_reducible repeat (first|apply Kd.R_alloc|apply Kd.R_drewN|apply Kd.R_drew));exact Kd.R_mono HO320.out (fun _ hk => trivial)⟩,⟨by repeat (first|(with_reducible first|exact HB.out|apply qab|apply qaa|apply qac|refine qae ?_ GE317.out)|exact HB.out)⟩⟩
               ·rw [if_neg c26] at H
                exact absurd H (by simp)
              ·rw [if_neg c25] at H
               have c25b0 : (t316 == 0) = false := beq_eq_false_iff_ne.mpr c25
               have c25b1 : (t316 != 0) = true := bne_iff_ne.mpr c25
               simp only [Option.some.injEq,Prod.mk.injEq] at H
               obtain ⟨rfl,rfl⟩ := H
               obtain ⟨Ao32,co32,eo32⟩ := Kd.R_slice HO_8.out
               subst eo32
               have p311 : 0 ≤ (x10_3 : Int) := of_decide_eq_true (by assumption)
               have q311 : x10_3 < (t305.length : Int) := of_decide_eq_true (by assumption)
               obtain ⟨ad311,e311,hx311_0⟩ := Kd.at_string (Kd.R_reads' HO_8.out).2.2 x10_3 p311 q311
               cases e311
               replace p311 := eq_true p311
               replace q311 := eq_true q311
               go_wp2_with (first|((with_reducible refine qak (f := 36) rfl ?_);refine goesL_ (some 55) rfl rfl Tryz.func36 (by kernel_rfl) rfl #[.string (rdOf ByteArray.empty t305 x10_3)] rfl (by first|rfl|(simp only [List.map_toArray,List.map_cons,List.map_nil,List.length_drop,List.length_take];rfl)|simp only [List.map_toArray,List.map_cons,List.map_nil]) ?_;(with_reducible refine (keelsonref4_Trim.calls k3 (rdOf ByteArray.empty t305 x10_3) t312 _ (by first|exact hG|exact GL.below hG (by repeat (with_reducible first|exact HB.out|apply qab|apply qaa|apply qac)))  A23.out).mono ?_);rintro e w' ⟨rfl,⟨nd,rfl⟩⟩;refine ⟨_,rfl,?_⟩;(try (rw [drewN_self wr];generalize hq_ : World.drewN wr _ = wr;have n0_ : Aside0 (Kd.R Kd.string 9 wr w.heap.size (fun k_ => some k_ ≠ (.slice (some ad311) t305.length co32 : Value).ownBlock) (.slice (some ad304) t297.length co8) t297) := ⟨by rw [← hq_];exact (by (with_reducible repeat (first|apply Kd.R_alloc|apply Kd.R_drewN|apply Kd.R_drew));exact HO_4.out)⟩;have n1_ : Aside0 (Kd.S (Kd.slice 39 k39) 48 wr w.heap.size (fun k_ => some k_ ≠ (u9 : Value).ownBlock) u5 x5_2) := ⟨by rw [← hq_];exact (by (with_reducible repeat (first|apply Kd.S_alloc|apply Kd.S_drewN|apply Kd.S_drew));exact HO_5.out)⟩;have n2_ : Aside0 (Kd.R Kd.string 9 wr w.heap.size (fun k_ => some k_ ≠ (.slice (some ad304) t297.length co8 : Value).ownBlock) (.slice (some ad311) t305.length co32) t305) := ⟨by rw [← hq_];exact (by (with_reducible repeat (first|apply Kd.R_alloc|apply Kd.R_drewN|apply Kd.R_drew));exact HO_8.out)⟩;have n3_ : Aside0 (Kd.R k39 39 wr w.heap.size (fun _ => True) u9 x9_3) := ⟨by rw [← hq_];exact (by (with_reducible repeat (first|apply Kd.R_alloc|apply Kd.R_drewN|apply Kd.R_drew));exact HO_9.out)⟩;have n4_ : Aside0 (Below w.heap.size w wr) := ⟨by rw [← hq_];exact (by repeat (with_reducible first|exact HB.out|apply qab|apply qaa|apply qac))⟩;clear HO_4 HO_5 HO_8 HO_9 HB hq_;have HO_4 := n0_;have HO_5 := n1_;have HO_8 := n2_;have HO_9 := n3_;have HB := n4_;clear n0_ n1_ n2_ n3_ n4_)))|((with_reducible refine qak (f := 35) rfl ?_);refine goesL_ (some 56) rfl rfl Tryz.func35 (by kernel_rfl) rfl #[.string t312] rfl (by first|rfl|(simp only [List.map_toArray,List.map_cons,List.map_nil,List.length_drop,List.length_take];rfl)|simp only [List.map_toArray,List.map_cons,List.map_nil]) ?_;(with_reducible refine (keelsonref3_Parse.calls k3 t312 t313 t314 t315 t316 _ (by first|exact hG|exact GL.below hG (by repeat (with_reducible first|exact HB.out|apply qab|apply qaa|apply qac)))  A24.out).mono ?_);rintro e w33 ⟨rfl,hb⟩;refine ⟨_,rfl,?_⟩;have n0_ := Aside0.mk (Kd.R_below (by (with_reducible repeat (first|apply Kd.R_alloc|apply Kd.R_drewN|apply Kd.R_drew));exact HO_4.out) hb);have n1_ := Aside0.mk (Kd.S_below (by (with_reducible repeat (first|apply Kd.S_alloc|apply Kd.S_drewN|apply Kd.S_drew));exact HO_5.out) hb);have n2_ := Aside0.mk (Kd.R_below (by (with_reducible repeat (first|apply Kd.R_alloc|apply Kd.R_drewN|apply Kd.R_drew));exact HO_8.out) hb);have n3_ := Aside0.mk (Kd.R_below (by (with_reducible repeat (first|apply Kd.R_alloc|apply Kd.R_drewN|apply Kd.R_drew));exact HO_9.out) hb);have n4_ := Aside0.mk (qan (by repeat (with_reducible first|exact HB.out|apply qab|apply qaa|apply qac)) hb);clear HO_4;clear HO_5;clear HO_8;clear HO_9;clear HB;have HO_4 := n0_;have HO_5 := n1_;have HO_8 := n2_;have HO_9 := n3_;have HB := n4_;clear n0_ n1_ n2_ n3_ n4_;(try clear hb);(try clear hb2);(try clear hk);(try clear hi))|((with_reducible refine gate_dst (N := 11) rfl ?_);refine box_event ?hg (N := 11) ?hd (cs := #[.string (⟨#[]⟩ : ByteArray),.int .i64 0,.string (⟨#[]⟩ : ByteArray)]) (t := 39) ?hr ?_;(case hd => rfl);(case hg => rfl);(case hr => first|(go_simp;done)|(go_simp;rfl));intro gb317 hg w34 hbox hb;have n0_ := Aside0.mk (Kd.R_below (by (with_reducible repeat (first|apply Kd.R_alloc|apply Kd.R_drewN|apply Kd.R_drew));exact HO_4.out) hb);have n1_ := Aside0.mk (Kd.S_below (Kd.S_elderB (by (with_reducible repeat (first|apply Kd.S_alloc|apply Kd.S_drewN|apply Kd.S_drew));exact HO_5.out) gb317 (Nat.le_of_eq hg.symm)) hb);have n2_ := Aside0.mk (Kd.R_below (by (with_reducible repeat (first|apply Kd.R_alloc|apply Kd.R_drewN|apply Kd.R_drew));exact HO_8.out) hb);have n3_ := Aside0.mk (Kd.R_below (Kd.R_elderB (by (with_reducible repeat (first|apply Kd.R_alloc|apply Kd.R_drewN|apply Kd.R_drew));exact HO_9.out) gb317 (Nat.le_of_eq hg.symm)) hb);have n4_ := Aside0.mk (qan (by repeat (with_reducible first|exact HB.out|apply qab|apply qaa|apply qac)) hb);have n5_ := Aside0.mk (hbox);have n6_ := Aside0.mk ((by rw [hg];exact (qao (by repeat (with_reducible first|exact HB.out|apply qab|apply qaa|apply qac))) : w.heap.size ≤ gb317));have n7_ := Aside0.mk ((by rw [hg];exact (qao (by repeat (with_reducible first|exact HB.out|apply qab|apply qaa|apply qac))) : w.heap.size ≤ gb317));clear HO_4;clear HO_5;clear HO_8;clear HO_9;clear HB;have HO_4 := n0_;have HO_5 := n1_;have HO_8 := n2_;have HO_9 := n3_;have HB := n4_;have BK317 := n5_;have GW317 := n6_;have GE317 := n7_;clear n0_ n1_ n2_ n3_ n4_ n5_ n6_ n7_;clear hb hbox hg;have hcz35_0 : w34.cell? ⟨gb317,0,none⟩ = some (.string (⟨#[]⟩ : ByteArray)) := (qaf BK317.out 0).trans rfl;have hcz35_1 : w34.cell? ⟨gb317,1,none⟩ = some (.int .i64 0) := (qaf BK317.out 1).trans rfl;have hcz35_2 : w34.cell? ⟨gb317,2,none⟩ = some (.string (⟨#[]⟩ : ByteArray)) := (qaf BK317.out 2).trans rfl;have hfz35_0 := qad BK317.out 0;have hfz35_1 := qad BK317.out 1;have hfz35_2 := qad BK317.out 2))
               go_ret2
               exact ⟨_,by first|rfl|(simp [qal,qam]<;>rfl)|(simp [*,qal,qam]<;>rfl),by first|exact Kd.S_nil _ _ _ _ _|exact Kd.N_nil _ _ _ _ _|exact Kd.V_nil _ _ _ _ _|exact Kd.Q_nil _ _ _ _ _|exact Kd.R_nil _ _ _ _ _,by repeat (first|(with_reducible first|exact HB.out|apply qab|apply qaa|apply qac|refine qae ?_ GE317.out)|exact HB.out)⟩
             ·rw [if_neg c22] at H
              exact absurd H (by simp)
            ·rw [if_neg c21] at H
             have c21b0 : decide (x10_3 < (t305.length : Int)) = false := decide_eq_false c21
             clear c21
             by_cases c36 : x5_2.length < 5864062014805
             ·rw [if_pos c36] at H
              have LMc36 := Aside0.mk c36
              clear c36
              obtain ⟨y308,hy308⟩ : ∃ y_ : List (List (S39)),y_ = (x5_2 ++ [x9_3]) := ⟨_,rfl⟩
              replace H : (keelsonref4_Parse.l1 k3 t297 y308 (wrap64 (x7_2 + 1))) = some (r1,r2) := by first|(rw [hy308];with_reducible exact H)|(have H2_ := (Option.bind_some _ _).symm.trans H;rw [hy308];with_reducible exact H2_)|(have H2_ := (Option.bind_some _ _).symm.trans H;with_reducible exact H2_) | with_reducible exact H|(rw [hy308];exact H)|exact H
              have Ny308 := Aside0.mk hy308
              clear hy308
              have H' := Aside0.mk H
              clear H
              obtain ⟨Ao37,co37,eo37⟩ := Kd.R_slice HO_8.out
              subst eo37
              obtain ⟨Ao39,co39,eo39⟩ := Kd.R_slice HO_9.out
              subst eo39
              go_wp2_with (first|((with_reducible refine gate_builtin (b := .append) (xs := #[.tmp 66,.tmp 68]) rfl ?_);at_builtin;refine Kd.S_append (Kd.slice 39 k39) (w0 := w) w.heap.size rfl (.tmp 66) (.tmp 68) 23 48 (.slice none 0 0) 24 rfl Tryz.underlying23 info48 rfl (by decide) (by omega) u5 x5_2 x9_3 [.slice Ao39 x9_3.length co39] (fun _ => True) (fun k_ => some k_ = (.slice Ao39 x9_3.length co39 : Value).ownBlock) rfl rfl ?aP (fun k_ hk_ => ((Kd.R_mono (ok' := fun k_ => ((fun _ => True)) k_ ∧ some k_ ≠ (u5 : Value).ownBlock) (Kd.R_apart' (HO_9.out) (Kd.S_typed HO_5.out) (by decide)) (fun k_ hk => ⟨trivial,hk.2⟩))).1 k_ hk_.symm) ?aF ?aO ?aB ?aS ?aL ?_;(case aP => exact Kd.M_row (Kd.R_mono (Kd.R_tight rfl (Kd.R_mono (ok' := fun k_ => ((fun _ => True)) k_ ∧ some k_ ≠ (u5 : Value).ownBlock) (Kd.R_apart' (HO_9.out) (Kd.S_typed HO_5.out) (by decide)) (fun k_ hk => ⟨trivial,hk.2⟩))) (fun _ h_ => h_)));(case aB => exact (by repeat (with_reducible first|exact HB.out|apply qab|apply qaa|apply qac)));(case aF => exact (fun _ _ => trivial));(case aO => exact (by (with_reducible repeat (first|apply Kd.S_alloc|apply Kd.S_drewN|apply Kd.S_drew));exact Kd.S_mono HO_5.out (fun k_ hk => ⟨trivial,fun e_ => hk e_⟩)));(case aS => exact (qao (by repeat (with_reducible first|exact HB.out|apply qab|apply qaa|apply qac))));(case aL => have := LMc36.out;omega);intro v309 w38 ho hb hg hat;rw [← Ny308.out] at ho;have n0_ := Aside0.mk (Kd.R_over' (by (with_reducible repeat (first|apply Kd.R_alloc|apply Kd.R_drewN|apply Kd.R_drew));exact HO_4.out) (Kd.S_typed (by (with_reducible repeat (first|apply Kd.S_alloc|apply Kd.S_drewN|apply Kd.S_drew));exact HO_5.out)) (by decide) hg);have n1_ := Aside0.mk (Kd.R_over' (by (with_reducible repeat (first|apply Kd.R_alloc|apply Kd.R_drewN|apply Kd.R_drew));exact HO_8.out) (Kd.S_typed (by (with_reducible repeat (first|apply Kd.S_alloc|apply Kd.S_drewN|apply Kd.S_drew));exact HO_5.out)) (by decide) hg);have n2_ := Aside0.mk (hb);have n3_ := Aside0.mk (ho);clear HO_4;clear HO_8;clear HB;clear HO_5;clear HO_9;have HO_4 := n0_;have HO_8 := n1_;have HB := n2_;have HO310 := n3_;clear n0_ n1_ n2_ n3_;clear ho hb hg hat))
              go_roundg k3
              case measure => have := HK1.out;have := HK2.out;have := HK3.out;omega
              case rel => exact ⟨(y308),(wrap64 (x7_2 + 1)),(by first|rfl|(simp;done)|(simp [*];done)|(simp [qaj];done)),H',⟨by have := HK1.out;have := HK2.out;have := HK3.out;omega⟩,⟨by (with_reducible repeat (first|apply Kd.R_alloc|apply Kd.R_drewN|apply Kd.R_drew));exact Kd.R_mono HO_4.out (fun _ hk => trivial)⟩,⟨by (with_reducible repeat (first|apply Kd.S_alloc|apply Kd.S_drewN|apply Kd.S_drew));exact HO310.out⟩,⟨by repeat (with_reducible first|exact HB.out|apply qab|apply qaa|apply qac)⟩⟩
             ·rw [if_neg c36] at H
              exact absurd H (by simp)
         ·rw [if_neg c18] at H
          exact absurd H (by simp)
        ·rw [if_neg c17] at H
         have c17b0 : decide (x7_2 < (t297.length : Int)) = false := decide_eq_false c17
         clear c17
         simp only [Option.some.injEq,Prod.mk.injEq] at H
         obtain ⟨rfl,rfl⟩ := H
         go_wp2
         go_ret2
         exact ⟨_,by first|rfl|(simp [qal,qam]<;>rfl)|(simp [*,qal,qam]<;>rfl),by (with_reducible repeat (first|apply Kd.S_alloc|apply Kd.S_drewN|apply Kd.S_drew));exact HO_5.out,by repeat (with_reducible first|exact HB.out|apply qab|apply qaa|apply qac)⟩
end Go.Proofs.YtjbbgekkombpnaaGreatDoor.PA
