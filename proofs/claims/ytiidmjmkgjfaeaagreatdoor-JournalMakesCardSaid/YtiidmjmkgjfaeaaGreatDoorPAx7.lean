
import Derived.Test.YtiidmjmkgjfaeaaGreatDoorPAx0
import Derived.Test.YtiidmjmkgjfaeaaGreatDoorPAx2
namespace Go.Proofs.YtiidmjmkgjfaeaaGreatDoor.PA
open Go.RowKit Go.Proofs.YtiidmjmkgjfaeaaGreatDoorW.PrintWords Go.Proofs.YtiidmjmkgjfaeaaGreatDoorW.PrintLast Go.Proofs.YtiidmjmkgjfaeaaGreatDoorW.PrintMore
attribute [local go_sem] max2_int min2_int max_two min_two max_three min_three max_four min_four
set_option maxHeartbeats 8000000
set_option maxRecDepth 100000
set_option linter.unusedVariables false
set_option linter.unusedSimpArgs false
def cmp_Or_int.l0 : Nat → Int → List Int → Int → Int → Option (Int)
 | 0,_,_,_,_ => none
 | k + 1,x3,x6,x7,x8 => if x8 < x7 then (if 0 ≤ x8 then (if x8 < (x6.length : Int) then (if (rd x6 x8) = x3 then (cmp_Or_int.l0 k x3 x6 x7 (wrap64 (x8 + 1))) else (some (rd x6 x8))) else (none)) else (none)) else (some x3)
def cmp_Or_int.f (k : Nat) (l0 : List Int) : Option (Int) := cmp_Or_int.l0 k 0 l0 (l0.length : Int) 0
theorem cmp_Or_int.mono_l : ∀ k,(∀ y0 y1 y2 y3,LeO (cmp_Or_int.l0 k y0 y1 y2 y3) (cmp_Or_int.l0 (k + 1) y0 y1 y2 y3))
 | 0 => fun _ _ _ _ r h => by simp [cmp_Or_int.l0] at h
 | k + 1 => by
  have ih0 := cmp_Or_int.mono_l k
  ·intro y0 y1 y2 y3
   unfold cmp_Or_int.l0
   repeat' first
   | (with_reducible exact ih0 _ _ _ _)
   | (with_reducible exact LeO.refl _)
   | (with_reducible exact LeO.none _)
   | (with_reducible refine LeO.ite ?_ ?_)
   | (with_reducible refine LeO.bind ?_ (fun _ => ?_))
theorem cmp_Or_int.mono : ∀ a0 k,LeO (cmp_Or_int.f k a0) (cmp_Or_int.f (k + 1) a0) := by
 intro a0 k
 have ih0 := cmp_Or_int.mono_l k
 unfold cmp_Or_int.f
 repeat' first
   | (with_reducible exact ih0 _ _ _ _)
   | (with_reducible exact LeO.refl _)
   | (with_reducible exact LeO.none _)
   | (with_reducible refine LeO.ite ?_ ?_)
   | (with_reducible refine LeO.bind ?_ (fun _ => ?_))
theorem cmp_Or_int.calls (k : Nat) (A0 : Option Addr) (c0 : Nat) (l0 : List Int) (r : Int) (w : World) (hG : GL w) (hr0 : Kd.C (Kd.int .i64) w A0 l0.length l0) (hc0 : l0.length ≤ c0) (h : cmp_Or_int.f k l0 = some r) :
  Calls Tryz.prog 128 #[.slice A0 l0.length c0] w fun e w' => e = .returned (.int .i64 r) ∧ Drawn0 w w' := by
 have HR0 := Aside0.mk hr0
 have HC0 := Aside0.mk hc0
 clear hr0 hc0
 have H : (cmp_Or_int.l0 k 0 l0 (l0.length : Int) 0) = some r := h
 clear h
 have H' := Aside0.mk H
 clear H
 go_enter Tryz.func128,Tryz.ntmps128
 go_wp2
 go_loopg [8] k (fun kq v8 w' => ∃ (x8_1 : Int),v8 = .int .i64 x8_1 ∧ Aside0 (cmp_Or_int.l0 kq 0 l0 (l0.length : Int) x8_1 = some r) ∧ Aside0 (kq ≤ k) ∧ Drawn0 w w')
 case atStart => exact ⟨(0),(by first|rfl|(simp;done)|(simp [*];done)|(simp [qam];done)),H',⟨Nat.le_refl _⟩,by repeat (first|exact Drawn0.refl _|apply Drawn0.step)⟩
 case round =>
  clear H'
  try clear c1
  obtain ⟨x8_1,rfl,HA,HK1,⟨m1,rfl⟩⟩ := hrel
  cases gk with
  | zero => exact absurd HA.out (by simp [cmp_Or_int.l0])
  | succ k1 =>
   have H := HA.out
   clear HA
   simp only [cmp_Or_int.l0] at H
   by_cases c2 : x8_1 < (l0.length : Int)
   ·rw [if_pos c2] at H
    have c2b0 : decide (x8_1 < (l0.length : Int)) = true := decide_eq_true c2
    clear c2
    by_cases c3 : 0 ≤ x8_1
    ·rw [if_pos c3] at H
     have c3b0 : decide (0 ≤ x8_1) = true := decide_eq_true c3
     clear c3
     by_cases c4 : x8_1 < (l0.length : Int)
     ·rw [if_pos c4] at H
      have c4b0 : decide (x8_1 < (l0.length : Int)) = true := decide_eq_true c4
      clear c4
      by_cases c5 : (rd l0 x8_1) = 0
      ·rw [if_pos c5] at H
       have c5b0 : ((rd l0 x8_1) == 0) = true := beq_iff_eq.mpr c5
       have c5b1 : ((rd l0 x8_1) != 0) = false := bne_eq_false_iff_eq.mpr c5
       clear c5
       have H' := Aside0.mk H
       clear H
       have p214 : 0 ≤ (x8_1 : Int) := of_decide_eq_true (by assumption)
       have q214 : x8_1 < (l0.length : Int) := of_decide_eq_true (by assumption)
       obtain ⟨ad214,e214,hx214_0⟩ := Kd.at_int HR0.out x8_1 p214 q214
       cases e214
       replace p214 := eq_true p214
       replace q214 := eq_true q214
       go_wp2
       go_roundg k1
       case measure => have := HK1.out;omega
       case rel => exact ⟨(wrap64 (x8_1 + 1)),(by first|rfl|(simp;done)|(simp [*];done)|(simp [qam];done)),H',⟨by have := HK1.out;omega⟩,by repeat (first|exact Drawn0.refl _|apply Drawn0.step)⟩
      ·rw [if_neg c5] at H
       have c5b0 : ((rd l0 x8_1) == 0) = false := beq_eq_false_iff_ne.mpr c5
       have c5b1 : ((rd l0 x8_1) != 0) = true := bne_iff_ne.mpr c5
       obtain rfl := Option.some.inj H
       have p214 : 0 ≤ (x8_1 : Int) := of_decide_eq_true (by assumption)
       have q214 : x8_1 < (l0.length : Int) := of_decide_eq_true (by assumption)
       obtain ⟨ad214,e214,hx214_0⟩ := Kd.at_int HR0.out x8_1 p214 q214
       cases e214
       replace p214 := eq_true p214
       replace q214 := eq_true q214
       go_wp2
       go_ret
       exact ⟨by first|rfl|(simp;done)|(simp [*];done)|(simp [qam];done),by repeat (first|exact Drawn0.refl _|apply Drawn0.step)⟩
     ·rw [if_neg c4] at H
      exact absurd H (by simp)
    ·rw [if_neg c3] at H
     exact absurd H (by simp)
   ·rw [if_neg c2] at H
    have c2b0 : decide (x8_1 < (l0.length : Int)) = false := decide_eq_false c2
    clear c2
    obtain rfl := Option.some.inj H
    go_wp2
    go_ret
    exact ⟨by first|rfl|(simp;done)|(simp [*];done)|(simp [qam];done),by repeat (first|exact Drawn0.refl _|apply Drawn0.step)⟩
def cmp_isNaN_int.f (a0 : Int) : Option (Bool) := some (a0 != a0)
theorem cmp_isNaN_int.calls (a0 : Int) (r : Bool) (w : World) (hG : GL w) (h : cmp_isNaN_int.f a0 = some r) :
  Calls Tryz.prog 158 #[.int .i64 a0] w fun e w' => e = .returned (.bool r) ∧ Drawn0 w w' := by
 have H : (some (a0 != a0)) = some r := h
 clear h
 obtain rfl := Option.some.inj H
 go_enter Tryz.func158,Tryz.ntmps158
 go_wp2
 go_ret
 exact ⟨by first|rfl|(simp;done)|(simp [*];done)|(simp [qam];done),by repeat (first|exact Drawn0.refl _|apply Drawn0.step)⟩
def cmp_Compare_int.f (a0 : Int) (a1 : Int) : Option (Int) := (cmp_isNaN_int.f a0).bind fun t215 => ((cmp_isNaN_int.f a1).bind fun t216 => (if t215 = true then (if t216 = true then (some 0) else (some (-1))) else (if t216 = true then (some 1) else (if a0 < a1 then (some (-1)) else (if a0 > a1 then (some 1) else (some 0))))))
theorem cmp_Compare_int.calls (a0 : Int) (a1 : Int) (r : Int) (w : World) (hG : GL w) (h : cmp_Compare_int.f a0 a1 = some r) :
  Calls Tryz.prog 129 #[.int .i64 a0,.int .i64 a1] w fun e w' => e = .returned (.int .i64 r) ∧ Drawn0 w w' := by
 have H : ((cmp_isNaN_int.f a0).bind fun t215 => ((cmp_isNaN_int.f a1).bind fun t216 => (if t215 = true then (if t216 = true then (some 0) else (some (-1))) else (if t216 = true then (some 1) else (if a0 < a1 then (some (-1)) else (if a0 > a1 then (some 1) else (some 0))))))) = some r := h
 clear h
 replace H := Option.bind_eq_some_iff.mp H
 obtain ⟨t215,A30,H⟩ := H
 replace H : ((cmp_isNaN_int.f a1).bind fun t216 => (if t215 = true then (if t216 = true then (some 0) else (some (-1))) else (if t216 = true then (some 1) else (if a0 < a1 then (some (-1)) else (if a0 > a1 then (some 1) else (some 0)))))) = some r := H
 have A3 := Aside0.mk A30
 clear A30
 replace H := Option.bind_eq_some_iff.mp H
 obtain ⟨t216,A40,H⟩ := H
 replace H : (if t215 = true then (if t216 = true then (some 0) else (some (-1))) else (if t216 = true then (some 1) else (if a0 < a1 then (some (-1)) else (if a0 > a1 then (some 1) else (some 0))))) = some r := H
 have A4 := Aside0.mk A40
 clear A40
 by_cases c5 : t215 = true
 ·subst c5
  have H1 : (if t216 = true then (some 0) else (some (-1))) = some r := by rw [if_pos rfl] at H;exact H
  clear H
  have H := H1
  clear H1
  by_cases c6 : t216 = true
  ·subst c6
   have H1 : (some 0) = some r := by rw [if_pos rfl] at H;exact H
   clear H
   have H := H1
   clear H1
   obtain rfl := Option.some.inj H
   go_enter Tryz.func129,Tryz.ntmps129
   go_wp2_with (first|((with_reducible refine qal (f := 158) rfl ?_);refine goesL_ (some 8) rfl rfl Tryz.func158 (by kernel_rfl) rfl #[.int .i64 a0] rfl (by first|rfl|(simp only [List.map_toArray,List.map_cons,List.map_nil,List.length_drop,List.length_take];rfl)|simp only [List.map_toArray,List.map_cons,List.map_nil]) ?_;(with_reducible refine (cmp_isNaN_int.calls a0 true _ (by first|exact hG|(repeat (first|exact hG|apply GL.drewN|apply GL.drew)))  A3.out).mono ?_);rintro e w' ⟨rfl,⟨nd,rfl⟩⟩;refine ⟨_,rfl,?_⟩)|((with_reducible refine qal (f := 158) rfl ?_);refine goesL_ (some 10) rfl rfl Tryz.func158 (by kernel_rfl) rfl #[.int .i64 a1] rfl (by first|rfl|(simp only [List.map_toArray,List.map_cons,List.map_nil,List.length_drop,List.length_take];rfl)|simp only [List.map_toArray,List.map_cons,List.map_nil]) ?_;(with_reducible refine (cmp_isNaN_int.calls a1 true _ (by first|exact hG|(repeat (first|exact hG|apply GL.drewN|apply GL.drew)))  A4.out).mono ?_);rintro e w' ⟨rfl,⟨nd,rfl⟩⟩;refine ⟨_,rfl,?_⟩))
   go_ret
   exact ⟨by first|rfl|(simp;done)|(simp [*];done)|(simp [qam];done),by repeat (first|exact Drawn0.refl _|apply Drawn0.step)⟩
  ·replace c6 := Bool.eq_false_iff.mpr c6
   subst c6
   have H1 : (some (-1)) = some r := by rw [if_neg (show ¬ (false = true) by decide)] at H;exact H
   clear H
   have H := H1
   clear H1
   obtain rfl := Option.some.inj H
   go_enter Tryz.func129,Tryz.ntmps129
   go_wp2_with (first|((with_reducible refine qal (f := 158) rfl ?_);refine goesL_ (some 8) rfl rfl Tryz.func158 (by kernel_rfl) rfl #[.int .i64 a0] rfl (by first|rfl|(simp only [List.map_toArray,List.map_cons,List.map_nil,List.length_drop,List.length_take];rfl)|simp only [List.map_toArray,List.map_cons,List.map_nil]) ?_;(with_reducible refine (cmp_isNaN_int.calls a0 true _ (by first|exact hG|(repeat (first|exact hG|apply GL.drewN|apply GL.drew)))  A3.out).mono ?_);rintro e w' ⟨rfl,⟨nd,rfl⟩⟩;refine ⟨_,rfl,?_⟩)|((with_reducible refine qal (f := 158) rfl ?_);refine goesL_ (some 10) rfl rfl Tryz.func158 (by kernel_rfl) rfl #[.int .i64 a1] rfl (by first|rfl|(simp only [List.map_toArray,List.map_cons,List.map_nil,List.length_drop,List.length_take];rfl)|simp only [List.map_toArray,List.map_cons,List.map_nil]) ?_;(with_reducible refine (cmp_isNaN_int.calls a1 false _ (by first|exact hG|(repeat (first|exact hG|apply GL.drewN|apply GL.drew)))  A4.out).mono ?_);rintro e w' ⟨rfl,⟨nd,rfl⟩⟩;refine ⟨_,rfl,?_⟩))
   go_ret
   exact ⟨by first|rfl|(simp;done)|(simp [*];done)|(simp [qam];done),by repeat (first|exact Drawn0.refl _|apply Drawn0.step)⟩
 ·replace c5 := Bool.eq_false_iff.mpr c5
  subst c5
  have H1 : (if t216 = true then (some 1) else (if a0 < a1 then (some (-1)) else (if a0 > a1 then (some 1) else (some 0)))) = some r := by rw [if_neg (show ¬ (false = true) by decide)] at H;exact H
  clear H
  have H := H1
  clear H1
  by_cases c7 : t216 = true
  ·subst c7
   have H1 : (some 1) = some r := by rw [if_pos rfl] at H;exact H
   clear H
   have H := H1
   clear H1
   obtain rfl := Option.some.inj H
   go_enter Tryz.func129,Tryz.ntmps129
   go_wp2_with (first|((with_reducible refine qal (f := 158) rfl ?_);refine goesL_ (some 8) rfl rfl Tryz.func158 (by kernel_rfl) rfl #[.int .i64 a0] rfl (by first|rfl|(simp only [List.map_toArray,List.map_cons,List.map_nil,List.length_drop,List.length_take];rfl)|simp only [List.map_toArray,List.map_cons,List.map_nil]) ?_;(with_reducible refine (cmp_isNaN_int.calls a0 false _ (by first|exact hG|(repeat (first|exact hG|apply GL.drewN|apply GL.drew)))  A3.out).mono ?_);rintro e w' ⟨rfl,⟨nd,rfl⟩⟩;refine ⟨_,rfl,?_⟩)|((with_reducible refine qal (f := 158) rfl ?_);refine goesL_ (some 10) rfl rfl Tryz.func158 (by kernel_rfl) rfl #[.int .i64 a1] rfl (by first|rfl|(simp only [List.map_toArray,List.map_cons,List.map_nil,List.length_drop,List.length_take];rfl)|simp only [List.map_toArray,List.map_cons,List.map_nil]) ?_;(with_reducible refine (cmp_isNaN_int.calls a1 true _ (by first|exact hG|(repeat (first|exact hG|apply GL.drewN|apply GL.drew)))  A4.out).mono ?_);rintro e w' ⟨rfl,⟨nd,rfl⟩⟩;refine ⟨_,rfl,?_⟩))
   go_ret
   exact ⟨by first|rfl|(simp;done)|(simp [*];done)|(simp [qam];done),by repeat (first|exact Drawn0.refl _|apply Drawn0.step)⟩
  ·replace c7 := Bool.eq_false_iff.mpr c7
   subst c7
   have H1 : (if a0 < a1 then (some (-1)) else (if a0 > a1 then (some 1) else (some 0))) = some r := by rw [if_neg (show ¬ (false = true) by decide)] at H;exact H
   clear H
   have H := H1
   clear H1
   by_cases c8 : a0 < a1
   ·rw [if_pos c8] at H
    have c8b0 : decide (a0 < a1) = true := decide_eq_true c8
    clear c8
    obtain rfl := Option.some.inj H
    go_enter Tryz.func129,Tryz.ntmps129
    go_wp2_with (first|((with_reducible refine qal (f := 158) rfl ?_);refine goesL_ (some 8) rfl rfl Tryz.func158 (by kernel_rfl) rfl #[.int .i64 a0] rfl (by first|rfl|(simp only [List.map_toArray,List.map_cons,List.map_nil,List.length_drop,List.length_take];rfl)|simp only [List.map_toArray,List.map_cons,List.map_nil]) ?_;(with_reducible refine (cmp_isNaN_int.calls a0 false _ (by first|exact hG|(repeat (first|exact hG|apply GL.drewN|apply GL.drew)))  A3.out).mono ?_);rintro e w' ⟨rfl,⟨nd,rfl⟩⟩;refine ⟨_,rfl,?_⟩)|((with_reducible refine qal (f := 158) rfl ?_);refine goesL_ (some 10) rfl rfl Tryz.func158 (by kernel_rfl) rfl #[.int .i64 a1] rfl (by first|rfl|(simp only [List.map_toArray,List.map_cons,List.map_nil,List.length_drop,List.length_take];rfl)|simp only [List.map_toArray,List.map_cons,List.map_nil]) ?_;(with_reducible refine (cmp_isNaN_int.calls a1 false _ (by first|exact hG|(repeat (first|exact hG|apply GL.drewN|apply GL.drew)))  A4.out).mono ?_);rintro e w' ⟨rfl,⟨nd,rfl⟩⟩;refine ⟨_,rfl,?_⟩))
    go_ret
    exact ⟨by first|rfl|(simp;done)|(simp [*];done)|(simp [qam];done),by repeat (first|exact Drawn0.refl _|apply Drawn0.step)⟩
   ·rw [if_neg c8] at H
    have c8b0 : decide (a0 < a1) = false := decide_eq_false c8
    clear c8
    by_cases c9 : a0 > a1
    ·rw [if_pos c9] at H
     have c9b0 : decide (a1 < a0) = true := decide_eq_true c9
     clear c9
     obtain rfl := Option.some.inj H
     go_enter Tryz.func129,Tryz.ntmps129
     go_wp2_with (first|((with_reducible refine qal (f := 158) rfl ?_);refine goesL_ (some 8) rfl rfl Tryz.func158 (by kernel_rfl) rfl #[.int .i64 a0] rfl (by first|rfl|(simp only [List.map_toArray,List.map_cons,List.map_nil,List.length_drop,List.length_take];rfl)|simp only [List.map_toArray,List.map_cons,List.map_nil]) ?_;(with_reducible refine (cmp_isNaN_int.calls a0 false _ (by first|exact hG|(repeat (first|exact hG|apply GL.drewN|apply GL.drew)))  A3.out).mono ?_);rintro e w' ⟨rfl,⟨nd,rfl⟩⟩;refine ⟨_,rfl,?_⟩)|((with_reducible refine qal (f := 158) rfl ?_);refine goesL_ (some 10) rfl rfl Tryz.func158 (by kernel_rfl) rfl #[.int .i64 a1] rfl (by first|rfl|(simp only [List.map_toArray,List.map_cons,List.map_nil,List.length_drop,List.length_take];rfl)|simp only [List.map_toArray,List.map_cons,List.map_nil]) ?_;(with_reducible refine (cmp_isNaN_int.calls a1 false _ (by first|exact hG|(repeat (first|exact hG|apply GL.drewN|apply GL.drew)))  A4.out).mono ?_);rintro e w' ⟨rfl,⟨nd,rfl⟩⟩;refine ⟨_,rfl,?_⟩))
     go_ret
     exact ⟨by first|rfl|(simp;done)|(simp [*];done)|(simp [qam];done),by repeat (first|exact Drawn0.refl _|apply Drawn0.step)⟩
    ·rw [if_neg c9] at H
     have c9b0 : decide (a1 < a0) = false := decide_eq_false c9
     clear c9
     obtain rfl := Option.some.inj H
     go_enter Tryz.func129,Tryz.ntmps129
     go_wp2_with (first|((with_reducible refine qal (f := 158) rfl ?_);refine goesL_ (some 8) rfl rfl Tryz.func158 (by kernel_rfl) rfl #[.int .i64 a0] rfl (by first|rfl|(simp only [List.map_toArray,List.map_cons,List.map_nil,List.length_drop,List.length_take];rfl)|simp only [List.map_toArray,List.map_cons,List.map_nil]) ?_;(with_reducible refine (cmp_isNaN_int.calls a0 false _ (by first|exact hG|(repeat (first|exact hG|apply GL.drewN|apply GL.drew)))  A3.out).mono ?_);rintro e w' ⟨rfl,⟨nd,rfl⟩⟩;refine ⟨_,rfl,?_⟩)|((with_reducible refine qal (f := 158) rfl ?_);refine goesL_ (some 10) rfl rfl Tryz.func158 (by kernel_rfl) rfl #[.int .i64 a1] rfl (by first|rfl|(simp only [List.map_toArray,List.map_cons,List.map_nil,List.length_drop,List.length_take];rfl)|simp only [List.map_toArray,List.map_cons,List.map_nil]) ?_;(with_reducible refine (cmp_isNaN_int.calls a1 false _ (by first|exact hG|(repeat (first|exact hG|apply GL.drewN|apply GL.drew)))  A4.out).mono ?_);rintro e w' ⟨rfl,⟨nd,rfl⟩⟩;refine ⟨_,rfl,?_⟩))
     go_ret
     exact ⟨by first|rfl|(simp;done)|(simp [*];done)|(simp [qam];done),by repeat (first|exact Drawn0.refl _|apply Drawn0.step)⟩
def version_CompareText_1.f (a0 : Int) : Option (Bool) := (version_digit.f a0).bind fun t217 => (some (!t217))
theorem version_CompareText_1.calls (a0 : Int) (r : Bool) (w : World) (hG : GL w) (h : version_CompareText_1.f a0 = some r) :
  Calls Tryz.prog 159 #[.int .u8 a0] w fun e w' => e = .returned (.bool r) ∧ Drawn0 w w' := by
 have H : ((version_digit.f a0).bind fun t217 => (some (!t217))) = some r := h
 clear h
 replace H := Option.bind_eq_some_iff.mp H
 obtain ⟨t217,A20,H⟩ := H
 replace H : (some (!t217)) = some r := H
 have A2 := Aside0.mk A20
 clear A20
 obtain rfl := Option.some.inj H
 go_enter Tryz.func159,Tryz.ntmps159
 go_wp2_with (first|((with_reducible refine qal (f := 156) rfl ?_);refine goesL_ (some 4) rfl rfl Tryz.func156 (by kernel_rfl) rfl #[.int .u8 a0] rfl (by first|rfl|(simp only [List.map_toArray,List.map_cons,List.map_nil,List.length_drop,List.length_take];rfl)|simp only [List.map_toArray,List.map_cons,List.map_nil]) ?_;(with_reducible refine (version_digit.calls a0 t217 _ (by first|exact hG|(repeat (first|exact hG|apply GL.drewN|apply GL.drew)))  A2.out).mono ?_);rintro e w' ⟨rfl,⟨nd,rfl⟩⟩;refine ⟨_,rfl,?_⟩))
 go_ret
 exact ⟨by first|rfl|(simp;done)|(simp [*];done)|(simp [qam];done),by repeat (first|exact Drawn0.refl _|apply Drawn0.step)⟩
def version_weight.f (a0 : ByteArray) (a1 : Int) : Option (Int) := if a1 ≥ (a0.size : Int) then (some 0) else (if 0 ≤ a1 then (if a1 < (a0.size : Int) then (if (bt a0 a1) = 126 then (some (-1)) else (if 10 ≤ 62 then (if 62 ≤ 65 then ((strings_IndexByte.f ((⟨#[48,49,50,51,52,53,54,55,56,57,97,98,99,100,101,102,103,104,105,106,107,108,109,110,111,112,113,114,115,116,117,118,119,120,121,122,65,66,67,68,69,70,71,72,73,74,75,76,77,78,79,80,81,82,83,84,85,86,87,88,89,90,46,43,126]⟩ : ByteArray).extract 10 62) (bt a0 a1)).bind fun t218 => (if t218 ≥ 0 then (some (wrap64 (bt a0 a1))) else (some (wrap64 ((wrap64 (bt a0 a1)) + 256))))) else (none)) else (none))) else (none)) else (none))
theorem version_weight.calls (a0 : ByteArray) (a1 : Int) (r : Int) (w : World) (hG : GL w) (h : version_weight.f a0 a1 = some r) :
  Calls Tryz.prog 193 #[.string a0,.int .i64 a1] w fun e w' => e = .returned (.int .i64 r) ∧ Drawn0 w w' := by
 have H : (if a1 ≥ (a0.size : Int) then (some 0) else (if 0 ≤ a1 then (if a1 < (a0.size : Int) then (if (bt a0 a1) = 126 then (some (-1)) else (if 10 ≤ 62 then (if 62 ≤ 65 then ((strings_IndexByte.f ((⟨#[48,49,50,51,52,53,54,55,56,57,97,98,99,100,101,102,103,104,105,106,107,108,109,110,111,112,113,114,115,116,117,118,119,120,121,122,65,66,67,68,69,70,71,72,73,74,75,76,77,78,79,80,81,82,83,84,85,86,87,88,89,90,46,43,126]⟩ : ByteArray).extract 10 62) (bt a0 a1)).bind fun t218 => (if t218 ≥ 0 then (some (wrap64 (bt a0 a1))) else (some (wrap64 ((wrap64 (bt a0 a1)) + 256))))) else (none)) else (none))) else (none)) else (none))) = some r := h
 clear h
 by_cases c3 : a1 ≥ (a0.size : Int)
 ·rw [if_pos c3] at H
  have c3b0 : decide ((a0.size : Int) ≤ a1) = true := decide_eq_true c3
  clear c3
  obtain rfl := Option.some.inj H
  go_enter Tryz.func193,Tryz.ntmps193
  go_wp2
  repeat (go_quiet (fail);try go_wp2)
  go_ret
  exact ⟨by first|rfl|(simp;done)|(simp [*];done)|(simp [qam];done),by repeat (first|exact Drawn0.refl _|apply Drawn0.step)⟩
 ·rw [if_neg c3] at H
  have c3b0 : decide ((a0.size : Int) ≤ a1) = false := decide_eq_false c3
  clear c3
  by_cases c4 : 0 ≤ a1
  ·rw [if_pos c4] at H
   have c4b0 : decide (0 ≤ a1) = true := decide_eq_true c4
   clear c4
   by_cases c5 : a1 < (a0.size : Int)
   ·rw [if_pos c5] at H
    have c5b0 : decide (a1 < (a0.size : Int)) = true := decide_eq_true c5
    clear c5
    by_cases c7 : (bt a0 a1) = 126
    ·rw [if_pos c7] at H
     have c7b0 : ((bt a0 a1) == 126) = true := beq_iff_eq.mpr c7
     have c7b1 : ((bt a0 a1) != 126) = false := bne_eq_false_iff_eq.mpr c7
     clear c7
     obtain rfl := Option.some.inj H
     have p6 : 0 ≤ (a1 : Int) := of_decide_eq_true (by assumption)
     have q6 : a1 < (a0.size : Int) := of_decide_eq_true (by assumption)
     have hx6 := bt_at a0 a1
     replace p6 := eq_true p6
     replace q6 := eq_true q6
     go_enter Tryz.func193,Tryz.ntmps193
     go_wp2
     repeat (go_quiet (fail);try go_wp2)
     go_ret
     exact ⟨by first|rfl|(simp;done)|(simp [*];done)|(simp [qam];done),by repeat (first|exact Drawn0.refl _|apply Drawn0.step)⟩
    ·rw [if_neg c7] at H
     have c7b0 : ((bt a0 a1) == 126) = false := beq_eq_false_iff_ne.mpr c7
     have c7b1 : ((bt a0 a1) != 126) = true := bne_iff_ne.mpr c7
     by_cases c8 : 10 ≤ 62
     ·rw [if_pos c8] at H
      have c8b0 := eq_true c8
      have c8b1 : decide (10 ≤ 62) = true := decide_eq_true c8
      clear c8
      by_cases c9 : 62 ≤ 65
      ·rw [if_pos c9] at H
       have c9b0 := eq_true c9
       have c9b1 : decide (62 ≤ 65) = true := decide_eq_true c9
       clear c9
       obtain ⟨ji10,hji10⟩ : ∃ j_ : ByteArray,((⟨#[48,49,50,51,52,53,54,55,56,57,97,98,99,100,101,102,103,104,105,106,107,108,109,110,111,112,113,114,115,116,117,118,119,120,121,122,65,66,67,68,69,70,71,72,73,74,75,76,77,78,79,80,81,82,83,84,85,86,87,88,89,90,46,43,126]⟩ : ByteArray).extract 10 62) = j_ := ⟨_,rfl⟩
       replace H : ((strings_IndexByte.f (ji10) (bt a0 a1)).bind fun t218 => (if t218 ≥ 0 then (some (wrap64 (bt a0 a1))) else (some (wrap64 ((wrap64 (bt a0 a1)) + 256))))) = some r := by first|(rw [hji10] at H;exact H)|(simp only [hji10] at H ⊢;exact H)
       replace H := Option.bind_eq_some_iff.mp H
       obtain ⟨t218,A120,H⟩ := H
       replace H : (if t218 ≥ 0 then (some (wrap64 (bt a0 a1))) else (some (wrap64 ((wrap64 (bt a0 a1)) + 256)))) = some r := H
       have A12 := Aside0.mk A120
       clear A120
       by_cases c13 : t218 ≥ 0
       ·rw [if_pos c13] at H
        have c13b0 : decide (0 ≤ t218) = true := decide_eq_true c13
        clear c13
        obtain rfl := Option.some.inj H
        have p6 : 0 ≤ (a1 : Int) := of_decide_eq_true (by assumption)
        have q6 : a1 < (a0.size : Int) := of_decide_eq_true (by assumption)
        have hx6 := bt_at a0 a1
        replace p6 := eq_true p6
        replace q6 := eq_true q6
        have p11 : 0 ≤ (a1 : Int) := of_decide_eq_true (by assumption)
        have q11 : a1 < (a0.size : Int) := of_decide_eq_true (by assumption)
        have hx11 := bt_at a0 a1
        replace p11 := eq_true p11
        replace q11 := eq_true q11
        go_enter Tryz.func193,Tryz.ntmps193
        go_wp2_with (first|(go_at_call 105;(with_reducible refine (strings_IndexByte.calls ji10 (bt a0 a1) t218 _ (by first|exact hG|(repeat (first|exact hG|apply GL.drewN|apply GL.drew)))  A12.out).mono ?_);rintro e w' ⟨rfl,⟨nd,rfl⟩⟩;(try first|exact ⟨rfl,_,World.drewN_drewN _ _ _⟩|exact ⟨rfl,_,Eq.trans (World.drewN_drewN _ _ _) (congrArg (World.drewN _) (Nat.add_assoc _ _ _))⟩);have p14 : 0 ≤ (a1 : Int) := of_decide_eq_true (by assumption);have q14 : a1 < (a0.size : Int) := of_decide_eq_true (by assumption);have hx14 := bt_at a0 a1;replace p14 := eq_true p14;replace q14 := eq_true q14))
        repeat (go_quiet (first|(go_at_call 105;(with_reducible refine (strings_IndexByte.calls ji10 (bt a0 a1) t218 _ (by first|exact hG|(repeat (first|exact hG|apply GL.drewN|apply GL.drew)))  A12.out).mono ?_);rintro e w' ⟨rfl,⟨nd,rfl⟩⟩;(try first|exact ⟨rfl,_,World.drewN_drewN _ _ _⟩|exact ⟨rfl,_,Eq.trans (World.drewN_drewN _ _ _) (congrArg (World.drewN _) (Nat.add_assoc _ _ _))⟩);have p14 : 0 ≤ (a1 : Int) := of_decide_eq_true (by assumption);have q14 : a1 < (a0.size : Int) := of_decide_eq_true (by assumption);have hx14 := bt_at a0 a1;replace p14 := eq_true p14;replace q14 := eq_true q14));try go_wp2_with (first|(go_at_call 105;(with_reducible refine (strings_IndexByte.calls ji10 (bt a0 a1) t218 _ (by first|exact hG|(repeat (first|exact hG|apply GL.drewN|apply GL.drew)))  A12.out).mono ?_);rintro e w' ⟨rfl,⟨nd,rfl⟩⟩;(try first|exact ⟨rfl,_,World.drewN_drewN _ _ _⟩|exact ⟨rfl,_,Eq.trans (World.drewN_drewN _ _ _) (congrArg (World.drewN _) (Nat.add_assoc _ _ _))⟩);have p14 : 0 ≤ (a1 : Int) := of_decide_eq_true (by assumption);have q14 : a1 < (a0.size : Int) := of_decide_eq_true (by assumption);have hx14 := bt_at a0 a1;replace p14 := eq_true p14;replace q14 := eq_true q14)))
        go_ret
        exact ⟨by first|rfl|(simp;done)|(simp only [← hji10]<;>(first|rfl|simp))|(simp [*];done),by repeat (first|exact Drawn0.refl _|apply Drawn0.step)⟩
       ·rw [if_neg c13] at H
        have c13b0 : decide (0 ≤ t218) = false := decide_eq_false c13
        clear c13
        obtain rfl := Option.some.inj H
        have p6 : 0 ≤ (a1 : Int) := of_decide_eq_true (by assumption)
        have q6 : a1 < (a0.size : Int) := of_decide_eq_true (by assumption)
        have hx6 := bt_at a0 a1
        replace p6 := eq_true p6
        replace q6 := eq_true q6
        have p11 : 0 ≤ (a1 : Int) := of_decide_eq_true (by assumption)
        have q11 : a1 < (a0.size : Int) := of_decide_eq_true (by assumption)
        have hx11 := bt_at a0 a1
        replace p11 := eq_true p11
        replace q11 := eq_true q11
        go_enter Tryz.func193,Tryz.ntmps193
        go_wp2_with (first|(go_at_call 105;(with_reducible refine (strings_IndexByte.calls ji10 (bt a0 a1) t218 _ (by first|exact hG|(repeat (first|exact hG|apply GL.drewN|apply GL.drew)))  A12.out).mono ?_);rintro e w' ⟨rfl,⟨nd,rfl⟩⟩;(try first|exact ⟨rfl,_,World.drewN_drewN _ _ _⟩|exact ⟨rfl,_,Eq.trans (World.drewN_drewN _ _ _) (congrArg (World.drewN _) (Nat.add_assoc _ _ _))⟩);have p15 : 0 ≤ (a1 : Int) := of_decide_eq_true (by assumption);have q15 : a1 < (a0.size : Int) := of_decide_eq_true (by assumption);have hx15 := bt_at a0 a1;replace p15 := eq_true p15;replace q15 := eq_true q15))
        repeat (go_quiet (first|(go_at_call 105;(with_reducible refine (strings_IndexByte.calls ji10 (bt a0 a1) t218 _ (by first|exact hG|(repeat (first|exact hG|apply GL.drewN|apply GL.drew)))  A12.out).mono ?_);rintro e w' ⟨rfl,⟨nd,rfl⟩⟩;(try first|exact ⟨rfl,_,World.drewN_drewN _ _ _⟩|exact ⟨rfl,_,Eq.trans (World.drewN_drewN _ _ _) (congrArg (World.drewN _) (Nat.add_assoc _ _ _))⟩);have p15 : 0 ≤ (a1 : Int) := of_decide_eq_true (by assumption);have q15 : a1 < (a0.size : Int) := of_decide_eq_true (by assumption);have hx15 := bt_at a0 a1;replace p15 := eq_true p15;replace q15 := eq_true q15));try go_wp2_with (first|(go_at_call 105;(with_reducible refine (strings_IndexByte.calls ji10 (bt a0 a1) t218 _ (by first|exact hG|(repeat (first|exact hG|apply GL.drewN|apply GL.drew)))  A12.out).mono ?_);rintro e w' ⟨rfl,⟨nd,rfl⟩⟩;(try first|exact ⟨rfl,_,World.drewN_drewN _ _ _⟩|exact ⟨rfl,_,Eq.trans (World.drewN_drewN _ _ _) (congrArg (World.drewN _) (Nat.add_assoc _ _ _))⟩);have p15 : 0 ≤ (a1 : Int) := of_decide_eq_true (by assumption);have q15 : a1 < (a0.size : Int) := of_decide_eq_true (by assumption);have hx15 := bt_at a0 a1;replace p15 := eq_true p15;replace q15 := eq_true q15)))
        go_ret
        exact ⟨by first|rfl|(simp;done)|(simp only [← hji10]<;>(first|rfl|simp))|(simp [*];done),by repeat (first|exact Drawn0.refl _|apply Drawn0.step)⟩
      ·rw [if_neg c9] at H
       exact absurd H (by simp)
     ·rw [if_neg c8] at H
      exact absurd H (by simp)
   ·rw [if_neg c5] at H
    exact absurd H (by simp)
  ·rw [if_neg c4] at H
   exact absurd H (by simp)
def version_words.l0 : Nat → ByteArray → ByteArray → Int → Int → Option (Int)
 | 0,_,_,_,_ => none
 | k + 1,x0,x1,x11,x12 => if x12 < x11 then ((version_weight.f x0 x12).bind fun t219 => ((version_weight.f x1 x12).bind fun t220 => ((cmp_Compare_int.f t219 t220).bind fun t221 => (if t221 = 0 then (version_words.l0 k x0 x1 x11 (wrap64 (x12 + 1))) else (some t221))))) else (some 0)
def version_words.f (k : Nat) (a0 : ByteArray) (a1 : ByteArray) : Option (Int) := version_words.l0 k a0 a1 (mx (a0.size : Int) (a1.size : Int)) 0
theorem version_words.mono_l : ∀ k,(∀ y0 y1 y2 y3,LeO (version_words.l0 k y0 y1 y2 y3) (version_words.l0 (k + 1) y0 y1 y2 y3))
 | 0 => fun _ _ _ _ r h => by simp [version_words.l0] at h
 | k + 1 => by
  have ih0 := version_words.mono_l k
  ·intro y0 y1 y2 y3
   unfold version_words.l0
   repeat' first
   | (with_reducible exact ih0 _ _ _ _)
   | (with_reducible exact LeO.refl _)
   | (with_reducible exact LeO.none _)
   | (with_reducible refine LeO.ite ?_ ?_)
   | (with_reducible refine LeO.bind ?_ (fun _ => ?_))
theorem version_words.mono : ∀ a0 a1 k,LeO (version_words.f k a0 a1) (version_words.f (k + 1) a0 a1) := by
 intro a0 a1 k
 have ih0 := version_words.mono_l k
 unfold version_words.f
 repeat' first
   | (with_reducible exact ih0 _ _ _ _)
   | (with_reducible exact LeO.refl _)
   | (with_reducible exact LeO.none _)
   | (with_reducible refine LeO.ite ?_ ?_)
   | (with_reducible refine LeO.bind ?_ (fun _ => ?_))
theorem version_words.calls (k : Nat) (a0 : ByteArray) (a1 : ByteArray) (r : Int) (w : World) (hG : GL w) (h : version_words.f k a0 a1 = some r) :
  Calls Tryz.prog 161 #[.string a0,.string a1] w fun e w' => e = .returned (.int .i64 r) ∧ Below w.heap.size w w' := by
 have HB := Aside0.mk (Below.refl w.heap.size w)
 have H : (version_words.l0 k a0 a1 (mx (a0.size : Int) (a1.size : Int)) 0) = some r := h
 clear h
 obtain ⟨ji3,hji3⟩ : ∃ j_ : Int,(mx (a0.size : Int) (a1.size : Int)) = j_ := ⟨_,rfl⟩
 replace H : (version_words.l0 k a0 a1 ji3 0) = some r := by first|(rw [hji3] at H;exact H)|(simp only [hji3] at H ⊢;exact H)
 (try (have hji3l : 0 ≤ ji3 := by (rw [← hji3];unfold mx;(repeat' split)<;>omega)))
 (try (have hji3m : 0 ≤ ji3 := by omega))
 have hji3_ : (if (a0.size : Int) < (a1.size : Int) then (a1.size : Int) else (a0.size : Int)) = ji3 := hji3
 (try (have hji3n := hji3_;simp only [Int.ofNat_lt] at hji3n))
 have H' := Aside0.mk H
 clear H
 go_enter Tryz.func161,Tryz.ntmps161
 go_wp2
 go_loopg [12] k (fun kq v12 w' => ∃ (x12_1 : Int),v12 = .int .i64 x12_1 ∧ Aside0 (version_words.l0 kq a0 a1 ji3 x12_1 = some r) ∧ Aside0 (kq ≤ k) ∧ Aside0 (Below w.heap.size w w'))
 case atStart => exact ⟨(0),(by first|rfl|(simp;done)|(simp [*];done)|(simp [qam];done)),H',⟨Nat.le_refl _⟩,⟨by repeat (with_reducible first|exact HB.out|apply qab|apply qaa|apply qac)⟩⟩
 case round =>
  clear H'
  try clear c1
  try clear p2
  obtain ⟨x12_1,rfl,HA,HK1,HB⟩ := hrel
  cases gk with
  | zero => exact absurd HA.out (by simp [version_words.l0])
  | succ k1 =>
   have H := HA.out
   clear HA
   simp only [version_words.l0] at H
   by_cases c4 : x12_1 < ji3
   ·rw [if_pos c4] at H
    have c4b0 : decide (x12_1 < ji3) = true := decide_eq_true c4
    clear c4
    replace H := Option.bind_eq_some_iff.mp H
    obtain ⟨t219,A50,H⟩ := H
    replace H : ((version_weight.f a1 x12_1).bind fun t220 => ((cmp_Compare_int.f t219 t220).bind fun t221 => (if t221 = 0 then (version_words.l0 k1 a0 a1 ji3 (wrap64 (x12_1 + 1))) else (some t221)))) = some r := H
    have A5 := Aside0.mk A50
    clear A50
    replace H := Option.bind_eq_some_iff.mp H
    obtain ⟨t220,A60,H⟩ := H
    replace H : ((cmp_Compare_int.f t219 t220).bind fun t221 => (if t221 = 0 then (version_words.l0 k1 a0 a1 ji3 (wrap64 (x12_1 + 1))) else (some t221))) = some r := H
    have A6 := Aside0.mk A60
    clear A60
    replace H := Option.bind_eq_some_iff.mp H
    obtain ⟨t221,A70,H⟩ := H
    replace H : (if t221 = 0 then (version_words.l0 k1 a0 a1 ji3 (wrap64 (x12_1 + 1))) else (some t221)) = some r := H
    have A7 := Aside0.mk A70
    clear A70
    by_cases c8 : t221 = 0
    ·rw [if_pos c8] at H
     have c8b0 : (t221 == 0) = true := beq_iff_eq.mpr c8
     have c8b1 : (t221 != 0) = false := bne_eq_false_iff_eq.mpr c8
     clear c8
     have H' := Aside0.mk H
     clear H
     go_wp2_with (first|((with_reducible refine qal (f := 193) rfl ?_);refine goesL_ (some 17) rfl rfl Tryz.func193 (by kernel_rfl) rfl #[.string a0,.int .i64 x12_1] rfl (by first|rfl|(simp only [List.map_toArray,List.map_cons,List.map_nil,List.length_drop,List.length_take];rfl)|simp only [List.map_toArray,List.map_cons,List.map_nil]) ?_;(with_reducible refine (version_weight.calls a0 x12_1 t219 _ (by first|exact hG|exact GL.below hG (by repeat (with_reducible first|exact HB.out|apply qab|apply qaa|apply qac)))  A5.out).mono ?_);rintro e w' ⟨rfl,⟨nd,rfl⟩⟩;refine ⟨_,rfl,?_⟩)|((with_reducible refine qal (f := 193) rfl ?_);refine goesL_ (some 20) rfl rfl Tryz.func193 (by kernel_rfl) rfl #[.string a1,.int .i64 x12_1] rfl (by first|rfl|(simp only [List.map_toArray,List.map_cons,List.map_nil,List.length_drop,List.length_take];rfl)|simp only [List.map_toArray,List.map_cons,List.map_nil]) ?_;(with_reducible refine (version_weight.calls a1 x12_1 t220 _ (by first|exact hG|exact GL.below hG (by repeat (with_reducible first|exact HB.out|apply qab|apply qaa|apply qac)))  A6.out).mono ?_);rintro e w' ⟨rfl,⟨nd,rfl⟩⟩;refine ⟨_,rfl,?_⟩)|((with_reducible refine qal (f := 129) rfl ?_);refine goesL_ (some 21) rfl rfl Tryz.func129 (by kernel_rfl) rfl #[.int .i64 t219,.int .i64 t220] rfl (by first|rfl|(simp only [List.map_toArray,List.map_cons,List.map_nil,List.length_drop,List.length_take];rfl)|simp only [List.map_toArray,List.map_cons,List.map_nil]) ?_;(with_reducible refine (cmp_Compare_int.calls t219 t220 t221 _ (by first|exact hG|exact GL.below hG (by repeat (with_reducible first|exact HB.out|apply qab|apply qaa|apply qac)))  A7.out).mono ?_);rintro e w' ⟨rfl,⟨nd,rfl⟩⟩;refine ⟨_,rfl,?_⟩))
     go_roundg k1
     case measure => have := HK1.out;omega
     case rel => exact ⟨(wrap64 (x12_1 + 1)),(by first|rfl|(simp;done)|(simp [*];done)|(simp [qam];done)),H',⟨by have := HK1.out;omega⟩,⟨by repeat (with_reducible first|exact HB.out|apply qab|apply qaa|apply qac)⟩⟩
    ·rw [if_neg c8] at H
     have c8b0 : (t221 == 0) = false := beq_eq_false_iff_ne.mpr c8
     have c8b1 : (t221 != 0) = true := bne_iff_ne.mpr c8
     obtain rfl := Option.some.inj H
     go_wp2_with (first|((with_reducible refine qal (f := 193) rfl ?_);refine goesL_ (some 17) rfl rfl Tryz.func193 (by kernel_rfl) rfl #[.string a0,.int .i64 x12_1] rfl (by first|rfl|(simp only [List.map_toArray,List.map_cons,List.map_nil,List.length_drop,List.length_take];rfl)|simp only [List.map_toArray,List.map_cons,List.map_nil]) ?_;(with_reducible refine (version_weight.calls a0 x12_1 t219 _ (by first|exact hG|exact GL.below hG (by repeat (with_reducible first|exact HB.out|apply qab|apply qaa|apply qac)))  A5.out).mono ?_);rintro e w' ⟨rfl,⟨nd,rfl⟩⟩;refine ⟨_,rfl,?_⟩)|((with_reducible refine qal (f := 193) rfl ?_);refine goesL_ (some 20) rfl rfl Tryz.func193 (by kernel_rfl) rfl #[.string a1,.int .i64 x12_1] rfl (by first|rfl|(simp only [List.map_toArray,List.map_cons,List.map_nil,List.length_drop,List.length_take];rfl)|simp only [List.map_toArray,List.map_cons,List.map_nil]) ?_;(with_reducible refine (version_weight.calls a1 x12_1 t220 _ (by first|exact hG|exact GL.below hG (by repeat (with_reducible first|exact HB.out|apply qab|apply qaa|apply qac)))  A6.out).mono ?_);rintro e w' ⟨rfl,⟨nd,rfl⟩⟩;refine ⟨_,rfl,?_⟩)|((with_reducible refine qal (f := 129) rfl ?_);refine goesL_ (some 21) rfl rfl Tryz.func129 (by kernel_rfl) rfl #[.int .i64 t219,.int .i64 t220] rfl (by first|rfl|(simp only [List.map_toArray,List.map_cons,List.map_nil,List.length_drop,List.length_take];rfl)|simp only [List.map_toArray,List.map_cons,List.map_nil]) ?_;(with_reducible refine (cmp_Compare_int.calls t219 t220 t221 _ (by first|exact hG|exact GL.below hG (by repeat (with_reducible first|exact HB.out|apply qab|apply qaa|apply qac)))  A7.out).mono ?_);rintro e w' ⟨rfl,⟨nd,rfl⟩⟩;refine ⟨_,rfl,?_⟩))
     go_ret
     exact ⟨by first|rfl|(simp [qaj,qak]<;>rfl)|(simp only [← hji3];first|rfl|(simp [qaj,qak]<;>rfl))|(simp [*,qaj,qak]<;>rfl),by repeat (with_reducible first|exact HB.out|apply qab|apply qaa|apply qac)⟩
   ·rw [if_neg c4] at H
    have c4b0 : decide (x12_1 < ji3) = false := decide_eq_false c4
    clear c4
    obtain rfl := Option.some.inj H
    go_wp2
    go_ret
    exact ⟨by first|rfl|(simp [qaj,qak]<;>rfl)|(simp only [← hji3];first|rfl|(simp [qaj,qak]<;>rfl))|(simp [*,qaj,qak]<;>rfl),by repeat (with_reducible first|exact HB.out|apply qab|apply qaa|apply qac)⟩
def cmp_isNaN_string.f (a0 : ByteArray) : Option (Bool) := some (a0.toList != a0.toList)
theorem cmp_isNaN_string.calls (a0 : ByteArray) (r : Bool) (w : World) (hG : GL w) (h : cmp_isNaN_string.f a0 = some r) :
  Calls Tryz.prog 224 #[.string a0] w fun e w' => e = .returned (.bool r) ∧ Drawn0 w w' := by
 have H : (some (a0.toList != a0.toList)) = some r := h
 clear h
 obtain rfl := Option.some.inj H
 go_enter Tryz.func224,Tryz.ntmps224
 go_wp2
 go_ret
 exact ⟨by first|rfl|(simp;done)|(simp [*];done)|(simp [qam];done),by repeat (first|exact Drawn0.refl _|apply Drawn0.step)⟩
def cmp_Compare_string.f (a0 : ByteArray) (a1 : ByteArray) : Option (Int) := (cmp_isNaN_string.f a0).bind fun t222 => ((cmp_isNaN_string.f a1).bind fun t223 => (if t222 = true then (if t223 = true then (some 0) else (some (-1))) else (if t223 = true then (some 1) else (if (Op.bytesLess a0.toList a1.toList) = true then (some (-1)) else (if (Op.bytesLess a1.toList a0.toList) = true then (some 1) else (some 0))))))
theorem cmp_Compare_string.calls (a0 : ByteArray) (a1 : ByteArray) (r : Int) (w : World) (hG : GL w) (h : cmp_Compare_string.f a0 a1 = some r) :
  Calls Tryz.prog 195 #[.string a0,.string a1] w fun e w' => e = .returned (.int .i64 r) ∧ Drawn0 w w' := by
 have H : ((cmp_isNaN_string.f a0).bind fun t222 => ((cmp_isNaN_string.f a1).bind fun t223 => (if t222 = true then (if t223 = true then (some 0) else (some (-1))) else (if t223 = true then (some 1) else (if (Op.bytesLess a0.toList a1.toList) = true then (some (-1)) else (if (Op.bytesLess a1.toList a0.toList) = true then (some 1) else (some 0))))))) = some r := h
 clear h
 replace H := Option.bind_eq_some_iff.mp H
 obtain ⟨t222,A30,H⟩ := H
 replace H : ((cmp_isNaN_string.f a1).bind fun t223 => (if t222 = true then (if t223 = true then (some 0) else (some (-1))) else (if t223 = true then (some 1) else (if (Op.bytesLess a0.toList a1.toList) = true then (some (-1)) else (if (Op.bytesLess a1.toList a0.toList) = true then (some 1) else (some 0)))))) = some r := H
 have A3 := Aside0.mk A30
 clear A30
 replace H := Option.bind_eq_some_iff.mp H
 obtain ⟨t223,A40,H⟩ := H
 replace H : (if t222 = true then (if t223 = true then (some 0) else (some (-1))) else (if t223 = true then (some 1) else (if (Op.bytesLess a0.toList a1.toList) = true then (some (-1)) else (if (Op.bytesLess a1.toList a0.toList) = true then (some 1) else (some 0))))) = some r := H
 have A4 := Aside0.mk A40
 clear A40
 by_cases c5 : t222 = true
 ·subst c5
  have H1 : (if t223 = true then (some 0) else (some (-1))) = some r := by rw [if_pos rfl] at H;exact H
  clear H
  have H := H1
  clear H1
  by_cases c6 : t223 = true
  ·subst c6
   have H1 : (some 0) = some r := by rw [if_pos rfl] at H;exact H
   clear H
   have H := H1
   clear H1
   obtain rfl := Option.some.inj H
   go_enter Tryz.func195,Tryz.ntmps195
   go_wp2_with (first|((with_reducible refine qal (f := 224) rfl ?_);refine goesL_ (some 8) rfl rfl Tryz.func224 (by kernel_rfl) rfl #[.string a0] rfl (by first|rfl|(simp only [List.map_toArray,List.map_cons,List.map_nil,List.length_drop,List.length_take];rfl)|simp only [List.map_toArray,List.map_cons,List.map_nil]) ?_;(with_reducible refine (cmp_isNaN_string.calls a0 true _ (by first|exact hG|(repeat (first|exact hG|apply GL.drewN|apply GL.drew)))  A3.out).mono ?_);rintro e w' ⟨rfl,⟨nd,rfl⟩⟩;refine ⟨_,rfl,?_⟩)|((with_reducible refine qal (f := 224) rfl ?_);refine goesL_ (some 10) rfl rfl Tryz.func224 (by kernel_rfl) rfl #[.string a1] rfl (by first|rfl|(simp only [List.map_toArray,List.map_cons,List.map_nil,List.length_drop,List.length_take];rfl)|simp only [List.map_toArray,List.map_cons,List.map_nil]) ?_;(with_reducible refine (cmp_isNaN_string.calls a1 true _ (by first|exact hG|(repeat (first|exact hG|apply GL.drewN|apply GL.drew)))  A4.out).mono ?_);rintro e w' ⟨rfl,⟨nd,rfl⟩⟩;refine ⟨_,rfl,?_⟩))
   go_ret
   exact ⟨by first|rfl|(simp;done)|(simp [*];done)|(simp [qam];done),by repeat (first|exact Drawn0.refl _|apply Drawn0.step)⟩
  ·replace c6 := Bool.eq_false_iff.mpr c6
   subst c6
   have H1 : (some (-1)) = some r := by rw [if_neg (show ¬ (false = true) by decide)] at H;exact H
   clear H
   have H := H1
   clear H1
   obtain rfl := Option.some.inj H
   go_enter Tryz.func195,Tryz.ntmps195
   go_wp2_with (first|((with_reducible refine qal (f := 224) rfl ?_);refine goesL_ (some 8) rfl rfl Tryz.func224 (by kernel_rfl) rfl #[.string a0] rfl (by first|rfl|(simp only [List.map_toArray,List.map_cons,List.map_nil,List.length_drop,List.length_take];rfl)|simp only [List.map_toArray,List.map_cons,List.map_nil]) ?_;(with_reducible refine (cmp_isNaN_string.calls a0 true _ (by first|exact hG|(repeat (first|exact hG|apply GL.drewN|apply GL.drew)))  A3.out).mono ?_);rintro e w' ⟨rfl,⟨nd,rfl⟩⟩;refine ⟨_,rfl,?_⟩)|((with_reducible refine qal (f := 224) rfl ?_);refine goesL_ (some 10) rfl rfl Tryz.func224 (by kernel_rfl) rfl #[.string a1] rfl (by first|rfl|(simp only [List.map_toArray,List.map_cons,List.map_nil,List.length_drop,List.length_take];rfl)|simp only [List.map_toArray,List.map_cons,List.map_nil]) ?_;(with_reducible refine (cmp_isNaN_string.calls a1 false _ (by first|exact hG|(repeat (first|exact hG|apply GL.drewN|apply GL.drew)))  A4.out).mono ?_);rintro e w' ⟨rfl,⟨nd,rfl⟩⟩;refine ⟨_,rfl,?_⟩))
   go_ret
   exact ⟨by first|rfl|(simp;done)|(simp [*];done)|(simp [qam];done),by repeat (first|exact Drawn0.refl _|apply Drawn0.step)⟩
 ·replace c5 := Bool.eq_false_iff.mpr c5
  subst c5
  have H1 : (if t223 = true then (some 1) else (if (Op.bytesLess a0.toList a1.toList) = true then (some (-1)) else (if (Op.bytesLess a1.toList a0.toList) = true then (some 1) else (some 0)))) = some r := by rw [if_neg (show ¬ (false = true) by decide)] at H;exact H
  clear H
  have H := H1
  clear H1
  by_cases c7 : t223 = true
  ·subst c7
   have H1 : (some 1) = some r := by rw [if_pos rfl] at H;exact H
   clear H
   have H := H1
   clear H1
   obtain rfl := Option.some.inj H
   go_enter Tryz.func195,Tryz.ntmps195
   go_wp2_with (first|((with_reducible refine qal (f := 224) rfl ?_);refine goesL_ (some 8) rfl rfl Tryz.func224 (by kernel_rfl) rfl #[.string a0] rfl (by first|rfl|(simp only [List.map_toArray,List.map_cons,List.map_nil,List.length_drop,List.length_take];rfl)|simp only [List.map_toArray,List.map_cons,List.map_nil]) ?_;(with_reducible refine (cmp_isNaN_string.calls a0 false _ (by first|exact hG|(repeat (first|exact hG|apply GL.drewN|apply GL.drew)))  A3.out).mono ?_);rintro e w' ⟨rfl,⟨nd,rfl⟩⟩;refine ⟨_,rfl,?_⟩)|((with_reducible refine qal (f := 224) rfl ?_);refine goesL_ (some 10) rfl rfl Tryz.func224 (by kernel_rfl) rfl #[.string a1] rfl (by first|rfl|(simp only [List.map_toArray,List.map_cons,List.map_nil,List.length_drop,List.length_take];rfl)|simp only [List.map_toArray,List.map_cons,List.map_nil]) ?_;(with_reducible refine (cmp_isNaN_string.calls a1 true _ (by first|exact hG|(repeat (first|exact hG|apply GL.drewN|apply GL.drew)))  A4.out).mono ?_);rintro e w' ⟨rfl,⟨nd,rfl⟩⟩;refine ⟨_,rfl,?_⟩))
   go_ret
   exact ⟨by first|rfl|(simp;done)|(simp [*];done)|(simp [qam];done),by repeat (first|exact Drawn0.refl _|apply Drawn0.step)⟩
  ·replace c7 := Bool.eq_false_iff.mpr c7
   subst c7
   have H1 : (if (Op.bytesLess a0.toList a1.toList) = true then (some (-1)) else (if (Op.bytesLess a1.toList a0.toList) = true then (some 1) else (some 0))) = some r := by rw [if_neg (show ¬ (false = true) by decide)] at H;exact H
   clear H
   have H := H1
   clear H1
   by_cases c8 : (Op.bytesLess a0.toList a1.toList) = true
   ·rw [if_pos c8] at H
    have c8b0 : (Op.bytesLess a0.toList a1.toList) = true := c8
    clear c8
    obtain rfl := Option.some.inj H
    go_enter Tryz.func195,Tryz.ntmps195
    go_wp2_with (first|((with_reducible refine qal (f := 224) rfl ?_);refine goesL_ (some 8) rfl rfl Tryz.func224 (by kernel_rfl) rfl #[.string a0] rfl (by first|rfl|(simp only [List.map_toArray,List.map_cons,List.map_nil,List.length_drop,List.length_take];rfl)|simp only [List.map_toArray,List.map_cons,List.map_nil]) ?_;(with_reducible refine (cmp_isNaN_string.calls a0 false _ (by first|exact hG|(repeat (first|exact hG|apply GL.drewN|apply GL.drew)))  A3.out).mono ?_);rintro e w' ⟨rfl,⟨nd,rfl⟩⟩;refine ⟨_,rfl,?_⟩)|((with_reducible refine qal (f := 224) rfl ?_);refine goesL_ (some 10) rfl rfl Tryz.func224 (by kernel_rfl) rfl #[.string a1] rfl (by first|rfl|(simp only [List.map_toArray,List.map_cons,List.map_nil,List.length_drop,List.length_take];rfl)|simp only [List.map_toArray,List.map_cons,List.map_nil]) ?_;(with_reducible refine (cmp_isNaN_string.calls a1 false _ (by first|exact hG|(repeat (first|exact hG|apply GL.drewN|apply GL.drew)))  A4.out).mono ?_);rintro e w' ⟨rfl,⟨nd,rfl⟩⟩;refine ⟨_,rfl,?_⟩))
    go_ret
    exact ⟨by first|rfl|(simp;done)|(simp [*];done)|(simp [qam];done),by repeat (first|exact Drawn0.refl _|apply Drawn0.step)⟩
   ·rw [if_neg c8] at H
    have c8b0 : (Op.bytesLess a0.toList a1.toList) = false := by simpa using c8
    clear c8
    by_cases c9 : (Op.bytesLess a1.toList a0.toList) = true
    ·rw [if_pos c9] at H
     have c9b0 : (Op.bytesLess a1.toList a0.toList) = true := c9
     clear c9
     obtain rfl := Option.some.inj H
     go_enter Tryz.func195,Tryz.ntmps195
     go_wp2_with (first|((with_reducible refine qal (f := 224) rfl ?_);refine goesL_ (some 8) rfl rfl Tryz.func224 (by kernel_rfl) rfl #[.string a0] rfl (by first|rfl|(simp only [List.map_toArray,List.map_cons,List.map_nil,List.length_drop,List.length_take];rfl)|simp only [List.map_toArray,List.map_cons,List.map_nil]) ?_;(with_reducible refine (cmp_isNaN_string.calls a0 false _ (by first|exact hG|(repeat (first|exact hG|apply GL.drewN|apply GL.drew)))  A3.out).mono ?_);rintro e w' ⟨rfl,⟨nd,rfl⟩⟩;refine ⟨_,rfl,?_⟩)|((with_reducible refine qal (f := 224) rfl ?_);refine goesL_ (some 10) rfl rfl Tryz.func224 (by kernel_rfl) rfl #[.string a1] rfl (by first|rfl|(simp only [List.map_toArray,List.map_cons,List.map_nil,List.length_drop,List.length_take];rfl)|simp only [List.map_toArray,List.map_cons,List.map_nil]) ?_;(with_reducible refine (cmp_isNaN_string.calls a1 false _ (by first|exact hG|(repeat (first|exact hG|apply GL.drewN|apply GL.drew)))  A4.out).mono ?_);rintro e w' ⟨rfl,⟨nd,rfl⟩⟩;refine ⟨_,rfl,?_⟩))
     go_ret
     exact ⟨by first|rfl|(simp;done)|(simp [*];done)|(simp [qam];done),by repeat (first|exact Drawn0.refl _|apply Drawn0.step)⟩
    ·rw [if_neg c9] at H
     have c9b0 : (Op.bytesLess a1.toList a0.toList) = false := by simpa using c9
     clear c9
     obtain rfl := Option.some.inj H
     go_enter Tryz.func195,Tryz.ntmps195
     go_wp2_with (first|((with_reducible refine qal (f := 224) rfl ?_);refine goesL_ (some 8) rfl rfl Tryz.func224 (by kernel_rfl) rfl #[.string a0] rfl (by first|rfl|(simp only [List.map_toArray,List.map_cons,List.map_nil,List.length_drop,List.length_take];rfl)|simp only [List.map_toArray,List.map_cons,List.map_nil]) ?_;(with_reducible refine (cmp_isNaN_string.calls a0 false _ (by first|exact hG|(repeat (first|exact hG|apply GL.drewN|apply GL.drew)))  A3.out).mono ?_);rintro e w' ⟨rfl,⟨nd,rfl⟩⟩;refine ⟨_,rfl,?_⟩)|((with_reducible refine qal (f := 224) rfl ?_);refine goesL_ (some 10) rfl rfl Tryz.func224 (by kernel_rfl) rfl #[.string a1] rfl (by first|rfl|(simp only [List.map_toArray,List.map_cons,List.map_nil,List.length_drop,List.length_take];rfl)|simp only [List.map_toArray,List.map_cons,List.map_nil]) ?_;(with_reducible refine (cmp_isNaN_string.calls a1 false _ (by first|exact hG|(repeat (first|exact hG|apply GL.drewN|apply GL.drew)))  A4.out).mono ?_);rintro e w' ⟨rfl,⟨nd,rfl⟩⟩;refine ⟨_,rfl,?_⟩))
     go_ret
     exact ⟨by first|rfl|(simp;done)|(simp [*];done)|(simp [qam];done),by repeat (first|exact Drawn0.refl _|apply Drawn0.step)⟩
def version_numbers.f (k : Nat) (a0 : ByteArray) (a1 : ByteArray) : Option (Int) := (strings_TrimLeft.f a0 (⟨#[48]⟩ : ByteArray)).bind fun t224 => ((strings_TrimLeft.f a1 (⟨#[48]⟩ : ByteArray)).bind fun t225 => ((cmp_Compare_int.f (t224.size : Int) (t225.size : Int)).bind fun t226 => ((cmp_Compare_string.f t224 t225).bind fun t227 => ((cmp_Or_int.f k (([t226,t227] : List Int))).bind fun t231 => (some t231)))))
theorem version_numbers.mono : ∀ a0 a1 k,LeO (version_numbers.f k a0 a1) (version_numbers.f (k + 1) a0 a1) := by
 intro a0 a1 k
 unfold version_numbers.f
 repeat' first
   | (with_reducible exact cmp_Or_int.mono _ _)
   | (with_reducible exact LeO.refl _)
   | (with_reducible exact LeO.none _)
   | (with_reducible refine LeO.ite ?_ ?_)
   | (with_reducible refine LeO.bind ?_ (fun _ => ?_))
theorem version_numbers.calls (k : Nat) (a0 : ByteArray) (a1 : ByteArray) (r : Int) (w : World) (hG : GL w) (h : version_numbers.f k a0 a1 = some r) :
  Calls Tryz.prog 162 #[.string a0,.string a1] w fun e w' => e = .returned (.int .i64 r) ∧ Below w.heap.size w w' := by
 have HB := Aside0.mk (Below.refl w.heap.size w)
 have H : ((strings_TrimLeft.f a0 (⟨#[48]⟩ : ByteArray)).bind fun t224 => ((strings_TrimLeft.f a1 (⟨#[48]⟩ : ByteArray)).bind fun t225 => ((cmp_Compare_int.f (t224.size : Int) (t225.size : Int)).bind fun t226 => ((cmp_Compare_string.f t224 t225).bind fun t227 => ((cmp_Or_int.f k (([t226,t227] : List Int))).bind fun t231 => (some t231)))))) = some r := h
 clear h
 replace H := Option.bind_eq_some_iff.mp H
 obtain ⟨t224,A30,H⟩ := H
 replace H : ((strings_TrimLeft.f a1 (⟨#[48]⟩ : ByteArray)).bind fun t225 => ((cmp_Compare_int.f (t224.size : Int) (t225.size : Int)).bind fun t226 => ((cmp_Compare_string.f t224 t225).bind fun t227 => ((cmp_Or_int.f k (([t226,t227] : List Int))).bind fun t231 => (some t231))))) = some r := H
 have A3 := Aside0.mk A30
 clear A30
 replace H := Option.bind_eq_some_iff.mp H
 obtain ⟨t225,A40,H⟩ := H
 replace H : ((cmp_Compare_int.f (t224.size : Int) (t225.size : Int)).bind fun t226 => ((cmp_Compare_string.f t224 t225).bind fun t227 => ((cmp_Or_int.f k (([t226,t227] : List Int))).bind fun t231 => (some t231)))) = some r := H
 have A4 := Aside0.mk A40
 clear A40
 replace H := Option.bind_eq_some_iff.mp H
 obtain ⟨t226,A50,H⟩ := H
 replace H : ((cmp_Compare_string.f t224 t225).bind fun t227 => ((cmp_Or_int.f k (([t226,t227] : List Int))).bind fun t231 => (some t231))) = some r := H
 have A5 := Aside0.mk A50
 clear A50
 replace H := Option.bind_eq_some_iff.mp H
 obtain ⟨t227,A60,H⟩ := H
 replace H : ((cmp_Or_int.f k (([t226,t227] : List Int))).bind fun t231 => (some t231)) = some r := H
 have A6 := Aside0.mk A60
 clear A60
 obtain ⟨y228,hy228⟩ : ∃ y_ : List Int,y_ = (([t226,t227] : List Int)) := ⟨_,rfl⟩
 replace H : ((cmp_Or_int.f k y228).bind fun t231 => (some t231)) = some r := by first|(rw [hy228];with_reducible exact H)|(have H2_ := (Option.bind_some _ _).symm.trans H;rw [hy228];with_reducible exact H2_)|(have H2_ := (Option.bind_some _ _).symm.trans H;with_reducible exact H2_) | with_reducible exact H|(rw [hy228];exact H)|exact H
 have Ny228 := Aside0.mk hy228
 clear hy228
 replace H := Option.bind_eq_some_iff.mp H
 obtain ⟨t231,A70,H⟩ := H
 replace H : (some t231) = some r := H
 have A7 := Aside0.mk A70
 clear A70
 obtain rfl := Option.some.inj H
 go_enter Tryz.func162,Tryz.ntmps162
 go_wp2_with (first|((with_reducible refine qal (f := 194) rfl ?_);refine goesL_ (some 6) rfl rfl Tryz.func194 (by kernel_rfl) rfl #[.string a0,.string (⟨#[48]⟩ : ByteArray)] rfl (by first|rfl|(simp only [List.map_toArray,List.map_cons,List.map_nil,List.length_drop,List.length_take];rfl)|simp only [List.map_toArray,List.map_cons,List.map_nil]) ?_;(with_reducible refine (strings_TrimLeft.calls a0 (⟨#[48]⟩ : ByteArray) t224 _ (by first|exact hG|exact GL.below hG (by repeat (with_reducible first|exact HB.out|apply qab|apply qaa|apply qac)))  A3.out).mono ?_);rintro e w' ⟨rfl,⟨nd,rfl⟩⟩;refine ⟨_,rfl,?_⟩)|((with_reducible refine qal (f := 194) rfl ?_);refine goesL_ (some 8) rfl rfl Tryz.func194 (by kernel_rfl) rfl #[.string a1,.string (⟨#[48]⟩ : ByteArray)] rfl (by first|rfl|(simp only [List.map_toArray,List.map_cons,List.map_nil,List.length_drop,List.length_take];rfl)|simp only [List.map_toArray,List.map_cons,List.map_nil]) ?_;(with_reducible refine (strings_TrimLeft.calls a1 (⟨#[48]⟩ : ByteArray) t225 _ (by first|exact hG|exact GL.below hG (by repeat (with_reducible first|exact HB.out|apply qab|apply qaa|apply qac)))  A4.out).mono ?_);rintro e w' ⟨rfl,⟨nd,rfl⟩⟩;refine ⟨_,rfl,?_⟩)|((with_reducible refine qal (f := 129) rfl ?_);refine goesL_ (some 13) rfl rfl Tryz.func129 (by kernel_rfl) rfl #[.int .i64 (t224.size : Int),.int .i64 (t225.size : Int)] rfl (by first|rfl|(simp only [List.map_toArray,List.map_cons,List.map_nil,List.length_drop,List.length_take];rfl)|simp only [List.map_toArray,List.map_cons,List.map_nil]) ?_;(with_reducible refine (cmp_Compare_int.calls (t224.size : Int) (t225.size : Int) t226 _ (by first|exact hG|exact GL.below hG (by repeat (with_reducible first|exact HB.out|apply qab|apply qaa|apply qac)))  A5.out).mono ?_);rintro e w' ⟨rfl,⟨nd,rfl⟩⟩;refine ⟨_,rfl,?_⟩)|((with_reducible refine qal (f := 195) rfl ?_);refine goesL_ (some 16) rfl rfl Tryz.func195 (by kernel_rfl) rfl #[.string t224,.string t225] rfl (by first|rfl|(simp only [List.map_toArray,List.map_cons,List.map_nil,List.length_drop,List.length_take];rfl)|simp only [List.map_toArray,List.map_cons,List.map_nil]) ?_;(with_reducible refine (cmp_Compare_string.calls t224 t225 t227 _ (by first|exact hG|exact GL.below hG (by repeat (with_reducible first|exact HB.out|apply qab|apply qaa|apply qac)))  A6.out).mono ?_);rintro e w' ⟨rfl,⟨nd,rfl⟩⟩;refine ⟨_,rfl,?_⟩)|((with_reducible refine gate_dst (N := 17) rfl ?_);refine Kd.R_lit (Kd.int .i64) _ 3 ?hg (N := 17) ?hd (xs := ([t226,t227] : List Int)) (inner := [.int .i64 t226,.int .i64 t227]) (ok := fun _ => True) (okp := fun _ => True) ?hr ?hp (fun _ hk => hk) trivial (Below.refl _ _) (Nat.le_refl _) (by simp) ?_;(case hd => rfl);(case hg => rfl);(case hr => first|(go_simp;done)|(go_simp;rfl));(case hp => exact (Reps.one (show Kd.M (Kd.int .i64) _ _ _ t226 [.int .i64 t226] from rfl) (Reps.one (show Kd.M (Kd.int .i64) _ _ _ t227 [.int .i64 t227] from rfl) (Reps.none _ _))));intro v229 w8 ho9 hb hg_ hnew_;clear hg_ hnew_;(first|rw [← Ny228.out] at ho9|(simp only [Int.reduceToNat] at ho9;rw [← Ny228.out] at ho9));have n0_ := Aside0.mk (Kd.R_lower ho9 (qao (by repeat (with_reducible first|exact HB.out|apply qab|apply qaa|apply qac))));have n1_ := Aside0.mk (qan (by repeat (with_reducible first|exact HB.out|apply qab|apply qaa|apply qac)) hb);clear HB;have HO230 := n0_;have HB := n1_;clear n0_ n1_;clear hb ho9;obtain ⟨Ao10,co10,eo10⟩ := Kd.R_slice HO230.out;subst eo10)|((with_reducible refine qal (f := 128) rfl ?_);refine goesL_ (some 18) rfl rfl Tryz.func128 (by kernel_rfl) rfl #[.slice Ao10 y228.length co10] rfl (by first|rfl|(simp only [List.map_toArray,List.map_cons,List.map_nil,List.length_drop,List.length_take];rfl)|simp only [List.map_toArray,List.map_cons,List.map_nil]) ?_;(with_reducible refine (cmp_Or_int.calls k _ _ y228 t231 _ (by first|exact hG|exact GL.below hG (by repeat (with_reducible first|exact HB.out|apply qab|apply qaa|apply qac)))  ?side1 ?side2 A7.out).mono ?_);(case side1 => repeat (first|exact (Kd.R_reads' HO230.out).2.2|(with_reducible refine Kd.C_alloc ?_ _)|(with_reducible refine Kd.C_drewN ?_ _)|(with_reducible refine Kd.C_drew ?_)));(case side2 => exact (Kd.R_reads' HO230.out).2.1);rintro e w' ⟨rfl,⟨nd,rfl⟩⟩;refine ⟨_,rfl,?_⟩))
 go_ret
 exact ⟨by first|rfl|(simp [qaj,qak]<;>rfl)|(simp [*,qaj,qak]<;>rfl),by repeat (with_reducible first|exact HB.out|apply qab|apply qaa|apply qac)⟩
def version_part_159.l0 : Nat → ByteArray → Int → Option (ByteArray × ByteArray)
 | 0,_,_ => none
 | k + 1,x0,x6 => if x6 < (x0.size : Int) then (if 0 ≤ x6 then ((version_CompareText_1.f (bt x0 x6)).bind fun t232 => (if t232 = true then (version_part_159.l0 k x0 (wrap64 (x6 + 1))) else (if x6 ≤ (x0.size : Int) then (some (x0.extract 0 (x6 : Int).toNat,x0.extract (x6 : Int).toNat x0.size)) else (none)))) else (none)) else (if 0 ≤ x6 then (if x6 ≤ (x0.size : Int) then (some (x0.extract 0 (x6 : Int).toNat,x0.extract (x6 : Int).toNat x0.size)) else (none)) else (none))
def version_part_159.f (k : Nat) (a0 : ByteArray) (a1 : Nat) : Option (ByteArray × ByteArray) := version_part_159.l0 k a0 0
theorem version_part_159.mono_l : ∀ k,(∀ y0 y1,LeO (version_part_159.l0 k y0 y1) (version_part_159.l0 (k + 1) y0 y1))
 | 0 => fun _ _ r h => by simp [version_part_159.l0] at h
 | k + 1 => by
  have ih0 := version_part_159.mono_l k
  ·intro y0 y1
   unfold version_part_159.l0
   repeat' first
   | (with_reducible exact ih0 _ _)
   | (with_reducible exact LeO.refl _)
   | (with_reducible exact LeO.none _)
   | (with_reducible refine LeO.ite ?_ ?_)
   | (with_reducible refine LeO.bind ?_ (fun _ => ?_))
theorem version_part_159.mono : ∀ a0 a1 k,LeO (version_part_159.f k a0 a1) (version_part_159.f (k + 1) a0 a1) := by
 intro a0 a1 k
 have ih0 := version_part_159.mono_l k
 unfold version_part_159.f
 repeat' first
   | (with_reducible exact ih0 _ _)
   | (with_reducible exact LeO.refl _)
   | (with_reducible exact LeO.none _)
   | (with_reducible refine LeO.ite ?_ ?_)
   | (with_reducible refine LeO.bind ?_ (fun _ => ?_))
theorem version_part_159.calls (k : Nat) (a0 : ByteArray) (a1 : Nat) (r1 : ByteArray) (r2 : ByteArray) (w : World) (hG : GL w) (h : version_part_159.f k a0 a1 = some (r1,r2)) :
  Calls Tryz.prog 160 #[.string a0,.func (.func 159) #[] #[]] w fun e w' => e = .returned (.tuple #[.string r1,.string r2]) ∧ Drawn0 w w' := by
 have H : (version_part_159.l0 k a0 0) = some (r1,r2) := h
 clear h
 have H' := Aside0.mk H
 clear H
 go_enter Tryz.func160,Tryz.ntmps160
 go_wp2
 repeat (go_quiet (fail);try go_wp2)
 go_loopg [6] k (fun kq v6 w' => ∃ (x6_1 : Int),v6 = .int .i64 x6_1 ∧ Aside0 (version_part_159.l0 kq a0 x6_1 = some (r1,r2)) ∧ Aside0 (kq ≤ k) ∧ Drawn0 w w')
 case atStart => exact ⟨(0),(by first|rfl|(simp;done)|(simp [*];done)|(simp [qam];done)),H',⟨Nat.le_refl _⟩,by repeat (first|exact Drawn0.refl _|apply Drawn0.step)⟩
 case round =>
  clear H'
  try clear p2
  obtain ⟨x6_1,rfl,HA,HK1,⟨m1,rfl⟩⟩ := hrel
  cases gk with
  | zero => exact absurd HA.out (by simp [version_part_159.l0])
  | succ k1 =>
   have H := HA.out
   clear HA
   simp only [version_part_159.l0] at H
   by_cases c3 : x6_1 < (a0.size : Int)
   ·rw [if_pos c3] at H
    have c3b0 : decide (x6_1 < (a0.size : Int)) = true := decide_eq_true c3
    clear c3
    by_cases c4 : 0 ≤ x6_1
    ·rw [if_pos c4] at H
     have c4b0 : decide (0 ≤ x6_1) = true := decide_eq_true c4
     clear c4
     replace H := Option.bind_eq_some_iff.mp H
     obtain ⟨t232,A60,H⟩ := H
     replace H : (if t232 = true then (version_part_159.l0 k1 a0 (wrap64 (x6_1 + 1))) else (if x6_1 ≤ (a0.size : Int) then (some (a0.extract 0 (x6_1 : Int).toNat,a0.extract (x6_1 : Int).toNat a0.size)) else (none))) = some (r1,r2) := H
     have A6 := Aside0.mk A60
     clear A60
     by_cases c7 : t232 = true
     ·subst c7
      have H1 : (version_part_159.l0 k1 a0 (wrap64 (x6_1 + 1))) = some (r1,r2) := by rw [if_pos rfl] at H;exact H
      clear H
      have H := H1
      clear H1
      have H' := Aside0.mk H
      clear H
      have p5 : 0 ≤ (x6_1 : Int) := of_decide_eq_true (by assumption)
      have q5 : x6_1 < (a0.size : Int) := of_decide_eq_true (by assumption)
      have hx5 := bt_at a0 x6_1
      replace p5 := eq_true p5
      replace q5 := eq_true q5
      go_wp2_with (first|(go_at_call 159;(with_reducible refine (version_CompareText_1.calls (bt a0 x6_1) true _ (by first|exact hG|(repeat (first|exact hG|apply GL.drewN|apply GL.drew)))  A6.out).mono ?_);rintro e w' ⟨rfl,⟨nd,rfl⟩⟩;(try first|exact ⟨rfl,_,World.drewN_drewN _ _ _⟩|exact ⟨rfl,_,Eq.trans (World.drewN_drewN _ _ _) (congrArg (World.drewN _) (Nat.add_assoc _ _ _))⟩)))
      repeat (go_quiet (first|(go_at_call 159;(with_reducible refine (version_CompareText_1.calls (bt a0 x6_1) true _ (by first|exact hG|(repeat (first|exact hG|apply GL.drewN|apply GL.drew)))  A6.out).mono ?_);rintro e w' ⟨rfl,⟨nd,rfl⟩⟩;(try first|exact ⟨rfl,_,World.drewN_drewN _ _ _⟩|exact ⟨rfl,_,Eq.trans (World.drewN_drewN _ _ _) (congrArg (World.drewN _) (Nat.add_assoc _ _ _))⟩)));try go_wp2_with (first|(go_at_call 159;(with_reducible refine (version_CompareText_1.calls (bt a0 x6_1) true _ (by first|exact hG|(repeat (first|exact hG|apply GL.drewN|apply GL.drew)))  A6.out).mono ?_);rintro e w' ⟨rfl,⟨nd,rfl⟩⟩;(try first|exact ⟨rfl,_,World.drewN_drewN _ _ _⟩|exact ⟨rfl,_,Eq.trans (World.drewN_drewN _ _ _) (congrArg (World.drewN _) (Nat.add_assoc _ _ _))⟩))))
      go_roundg k1
      case measure => have := HK1.out;omega
      case rel => exact ⟨(wrap64 (x6_1 + 1)),(by first|rfl|(simp;done)|(simp [*];done)|(simp [qam];done)),H',⟨by have := HK1.out;omega⟩,by repeat (first|exact Drawn0.refl _|apply Drawn0.step)⟩
     ·replace c7 := Bool.eq_false_iff.mpr c7
      subst c7
      have H1 : (if x6_1 ≤ (a0.size : Int) then (some (a0.extract 0 (x6_1 : Int).toNat,a0.extract (x6_1 : Int).toNat a0.size)) else (none)) = some (r1,r2) := by rw [if_neg (show ¬ (false = true) by decide)] at H;exact H
      clear H
      have H := H1
      clear H1
      have c8b0 := eq_true (of_decide_eq_true (by assumption) : 0 ≤ x6_1)
      by_cases c9 : x6_1 ≤ (a0.size : Int)
      ·rw [if_pos c9] at H
       have c9b0 := eq_true c9
       have c9b1 : decide (x6_1 ≤ (a0.size : Int)) = true := decide_eq_true c9
       clear c9
       have c10b0 := eq_true (of_decide_eq_true (by assumption) : 0 ≤ x6_1)
       have c11b0 := eq_true (of_decide_eq_true (by assumption) : x6_1 ≤ (a0.size : Int))
       simp only [Option.some.injEq,Prod.mk.injEq] at H
       obtain ⟨rfl,rfl⟩ := H
       have p5 : 0 ≤ (x6_1 : Int) := of_decide_eq_true (by assumption)
       have q5 : x6_1 < (a0.size : Int) := of_decide_eq_true (by assumption)
       have hx5 := bt_at a0 x6_1
       replace p5 := eq_true p5
       replace q5 := eq_true q5
       go_wp2_with (first|(go_at_call 159;(with_reducible refine (version_CompareText_1.calls (bt a0 x6_1) false _ (by first|exact hG|(repeat (first|exact hG|apply GL.drewN|apply GL.drew)))  A6.out).mono ?_);rintro e w' ⟨rfl,⟨nd,rfl⟩⟩;(try first|exact ⟨rfl,_,World.drewN_drewN _ _ _⟩|exact ⟨rfl,_,Eq.trans (World.drewN_drewN _ _ _) (congrArg (World.drewN _) (Nat.add_assoc _ _ _))⟩)))
       repeat (go_quiet (first|(go_at_call 159;(with_reducible refine (version_CompareText_1.calls (bt a0 x6_1) false _ (by first|exact hG|(repeat (first|exact hG|apply GL.drewN|apply GL.drew)))  A6.out).mono ?_);rintro e w' ⟨rfl,⟨nd,rfl⟩⟩;(try first|exact ⟨rfl,_,World.drewN_drewN _ _ _⟩|exact ⟨rfl,_,Eq.trans (World.drewN_drewN _ _ _) (congrArg (World.drewN _) (Nat.add_assoc _ _ _))⟩)));try go_wp2_with (first|(go_at_call 159;(with_reducible refine (version_CompareText_1.calls (bt a0 x6_1) false _ (by first|exact hG|(repeat (first|exact hG|apply GL.drewN|apply GL.drew)))  A6.out).mono ?_);rintro e w' ⟨rfl,⟨nd,rfl⟩⟩;(try first|exact ⟨rfl,_,World.drewN_drewN _ _ _⟩|exact ⟨rfl,_,Eq.trans (World.drewN_drewN _ _ _) (congrArg (World.drewN _) (Nat.add_assoc _ _ _))⟩))))
       go_ret2
       exact ⟨by first|rfl|(simp;done)|(simp [*];done)|(simp [qam];done),by repeat (first|exact Drawn0.refl _|apply Drawn0.step)⟩
      ·rw [if_neg c9] at H
       exact absurd H (by simp)
    ·rw [if_neg c4] at H
     exact absurd H (by simp)
   ·rw [if_neg c3] at H
    have c3b0 : decide (x6_1 < (a0.size : Int)) = false := decide_eq_false c3
    clear c3
    by_cases c12 : 0 ≤ x6_1
    ·rw [if_pos c12] at H
     have c12b0 := eq_true c12
     have c12b1 : decide (0 ≤ x6_1) = true := decide_eq_true c12
     clear c12
     by_cases c13 : x6_1 ≤ (a0.size : Int)
     ·rw [if_pos c13] at H
      have c13b0 := eq_true c13
      have c13b1 : decide (x6_1 ≤ (a0.size : Int)) = true := decide_eq_true c13
      clear c13
      have c14b0 := eq_true (of_decide_eq_true (by assumption) : 0 ≤ x6_1)
      have c15b0 := eq_true (of_decide_eq_true (by assumption) : x6_1 ≤ (a0.size : Int))
      simp only [Option.some.injEq,Prod.mk.injEq] at H
      obtain ⟨rfl,rfl⟩ := H
      go_wp2
      repeat (go_quiet (fail);try go_wp2)
      go_ret2
      exact ⟨by first|rfl|(simp;done)|(simp [*];done)|(simp [qam];done),by repeat (first|exact Drawn0.refl _|apply Drawn0.step)⟩
     ·rw [if_neg c13] at H
      exact absurd H (by simp)
    ·rw [if_neg c12] at H
     exact absurd H (by simp)
end Go.Proofs.YtiidmjmkgjfaeaaGreatDoor.PA
