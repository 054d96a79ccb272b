
import Derived.Test.YtooomjcdlfdnmaaGreatDoorPAx0
import Derived.Test.YtooomjcdlfdnmaaGreatDoorPAx2
import Derived.Test.YtooomjcdlfdnmaaGreatDoorPAx3
import Derived.Test.YtooomjcdlfdnmaaGreatDoorPAx4
namespace Go.Proofs.YtooomjcdlfdnmaaGreatDoor.PA
open Go.RowKit Go.Proofs.YtooomjcdlfdnmaaGreatDoorW.PrintWords Go.Proofs.YtooomjcdlfdnmaaGreatDoorW.PrintLast Go.Proofs.YtooomjcdlfdnmaaGreatDoorW.PrintMore
attribute [local go_sem] max2_int min2_int max_two min_two max_three min_three max_four min_four
set_option maxHeartbeats 8000000
set_option maxRecDepth 100000
set_option linter.unusedVariables false
set_option linter.unusedSimpArgs false
attribute [local go_sem high] eqA49
def keelsonlaw6_sameFields.l0 : Nat → List (S49) → List (S49) → Int → Option (Bool)
 | 0,_,_,_ => none
 | k + 1,x0,x1,x5 => if x5 < (x0.length : Int) then (if 0 ≤ x5 then (if x5 < (x1.length : Int) then (if (!((((rd_T49 x0 x5).f0).toList) == (((rd_T49 x1 x5).f0).toList)) || (!((((rd_T49 x0 x5).f1).toList) == (((rd_T49 x1 x5).f1).toList)))) = true then (some false) else (keelsonlaw6_sameFields.l0 k x0 x1 (wrap64 (x5 + 1)))) else (none)) else (none)) else (some true)
def keelsonlaw6_sameFields.f (k : Nat) (l0 : List (S49)) (l1 : List (S49)) : Option (Bool) := if (l0.length : Int) = (l1.length : Int) then (keelsonlaw6_sameFields.l0 k l0 l1 0) else (some false)
theorem keelsonlaw6_sameFields.mono_l : ∀ k,(∀ y0 y1 y2,LeO (keelsonlaw6_sameFields.l0 k y0 y1 y2) (keelsonlaw6_sameFields.l0 (k + 1) y0 y1 y2))
 | 0 => fun _ _ _ r h => by simp [keelsonlaw6_sameFields.l0] at h
 | k + 1 => by
  have ih0 := keelsonlaw6_sameFields.mono_l k
  ·intro y0 y1 y2
   unfold keelsonlaw6_sameFields.l0
   repeat' first
   | (with_reducible exact ih0 _ _ _)
   | (with_reducible exact LeO.refl _)
   | (with_reducible exact LeO.none _)
   | (with_reducible refine LeO.ite ?_ ?_)
   | (with_reducible refine LeO.bind ?_ (fun _ => ?_))
   | exact ih0 _ _ _
   | exact LeO.none _
   | refine LeO.ite ?_ ?_
   | refine LeO.bind ?_ (fun _ => ?_)
theorem keelsonlaw6_sameFields.mono : ∀ a0 a1 k,LeO (keelsonlaw6_sameFields.f k a0 a1) (keelsonlaw6_sameFields.f (k + 1) a0 a1) := by
 intro a0 a1 k
 have ih0 := keelsonlaw6_sameFields.mono_l k
 unfold keelsonlaw6_sameFields.f
 repeat' first
   | (with_reducible exact ih0 _ _ _)
   | (with_reducible exact LeO.refl _)
   | (with_reducible exact LeO.none _)
   | (with_reducible refine LeO.ite ?_ ?_)
   | (with_reducible refine LeO.bind ?_ (fun _ => ?_))
   | exact ih0 _ _ _
   | exact LeO.none _
   | refine LeO.ite ?_ ?_
   | refine LeO.bind ?_ (fun _ => ?_)
theorem keelsonlaw6_sameFields.calls (k : Nat) (A0 : Option Addr) (c0 : Nat) (l0 : List (S49)) (A1 : Option Addr) (c1 : Nat) (l1 : List (S49)) (r : Bool) (w : World) (hG : GL w) (hr0 : Kd.C k49 w A0 l0.length l0) (hc0 : l0.length ≤ c0) (hr1 : Kd.C k49 w A1 l1.length l1) (hc1 : l1.length ≤ c1) (h : keelsonlaw6_sameFields.f k l0 l1 = some r) :
  Calls Tryz.prog 23 #[.slice A0 l0.length c0,.slice A1 l1.length c1] w fun e w' => e = .returned (.bool r) ∧ Drawn0 w w' := by
 have hu49 := Tryz.underlying49
 have HR0 := Aside0.mk hr0
 have HC0 := Aside0.mk hc0
 clear hr0 hc0
 have HR1 := Aside0.mk hr1
 have HC1 := Aside0.mk hc1
 clear hr1 hc1
 have H : (if (l0.length : Int) = (l1.length : Int) then (keelsonlaw6_sameFields.l0 k l0 l1 0) else (some false)) = some r := h
 clear h
 by_cases c3 : (l0.length : Int) = (l1.length : Int)
 ·rw [if_pos c3] at H
  have c3b0 : ((l0.length : Int) == (l1.length : Int)) = true := beq_iff_eq.mpr c3
  have c3b1 : ((l0.length : Int) != (l1.length : Int)) = false := bne_eq_false_iff_eq.mpr c3
  have c3b2 : (l0.length == l1.length) = true := by first|simpa using c3|(simp at c3 ⊢;omega)
  clear c3
  have H' := Aside0.mk H
  clear H
  go_enter Tryz.func23,Tryz.ntmps23
  go_wp2
  repeat (go_quiet (fail);try go_wp2)
  go_loopg [5] k (fun kq v5 w' => ∃ (x5_1 : Int),v5 = .int .i64 x5_1 ∧ Aside0 (keelsonlaw6_sameFields.l0 kq l0 l1 x5_1 = some r) ∧ Aside0 (kq ≤ k) ∧ Drawn0 w w')
  case atStart => exact ⟨(0),(by first|rfl|(simp;done)|(simp [*];done)|(simp [qam];done)),H',⟨Nat.le_refl _⟩,by repeat (first|exact Drawn0.refl _|apply Drawn0.step)⟩
  case round =>
   clear H'
   try clear c1
   try clear c2
   try clear p2
   try clear c3
   try clear c3b0
   try clear c3b1
   try clear c3b2
   obtain ⟨x5_1,rfl,HA,HK1,⟨m1,rfl⟩⟩ := hrel
   cases gk with
   | zero => exact absurd HA.out (by simp [keelsonlaw6_sameFields.l0])
   | succ k1 =>
    have H := HA.out
    clear HA
    simp only [keelsonlaw6_sameFields.l0] at H
    by_cases c4 : x5_1 < (l0.length : Int)
    ·rw [if_pos c4] at H
     have c4b0 : decide (x5_1 < (l0.length : Int)) = true := decide_eq_true c4
     clear c4
     by_cases c5 : 0 ≤ x5_1
     ·rw [if_pos c5] at H
      have c5b0 : decide (0 ≤ x5_1) = true := decide_eq_true c5
      clear c5
      by_cases c6 : x5_1 < (l1.length : Int)
      ·rw [if_pos c6] at H
       have c6b0 : decide (x5_1 < (l1.length : Int)) = true := decide_eq_true c6
       clear c6
       by_cases c7 : (!((((rd_T49 l0 x5_1).f0).toList) == (((rd_T49 l1 x5_1).f0).toList)) || (!((((rd_T49 l0 x5_1).f1).toList) == (((rd_T49 l1 x5_1).f1).toList)))) = true
       ·rw [if_pos c7] at H
        have c7b0 : (!((((rd_T49 l0 x5_1).f0).toList) == (((rd_T49 l1 x5_1).f0).toList)) || (!((((rd_T49 l0 x5_1).f1).toList) == (((rd_T49 l1 x5_1).f1).toList)))) = true := c7
        clear c7
        obtain rfl := Option.some.inj H
        have p193 : 0 ≤ (x5_1 : Int) := of_decide_eq_true (by assumption)
        have q193 : x5_1 < (l0.length : Int) := of_decide_eq_true (by assumption)
        obtain ⟨ad193,e193,hx193_0,hx193_1⟩ := at_T49 HR0.out x5_1 p193 q193
        cases e193
        replace p193 := eq_true p193
        replace q193 := eq_true q193
        have p194 : 0 ≤ (x5_1 : Int) := of_decide_eq_true (by assumption)
        have q194 : x5_1 < (l1.length : Int) := of_decide_eq_true (by assumption)
        obtain ⟨ad194,e194,hx194_0,hx194_1⟩ := at_T49 HR1.out x5_1 p194 q194
        cases e194
        replace p194 := eq_true p194
        replace q194 := eq_true q194
        go_wp2
        repeat (go_quiet (fail);try go_wp2)
        go_ret
        exact ⟨by first|rfl|(simp;done)|(simp [*];done)|(simp [qam];done),by repeat (first|exact Drawn0.refl _|apply Drawn0.step)⟩
       ·rw [if_neg c7] at H
        have c7b0 : (!((((rd_T49 l0 x5_1).f0).toList) == (((rd_T49 l1 x5_1).f0).toList)) || (!((((rd_T49 l0 x5_1).f1).toList) == (((rd_T49 l1 x5_1).f1).toList)))) = false := by simpa using c7
        clear c7
        have H' := Aside0.mk H
        clear H
        have p193 : 0 ≤ (x5_1 : Int) := of_decide_eq_true (by assumption)
        have q193 : x5_1 < (l0.length : Int) := of_decide_eq_true (by assumption)
        obtain ⟨ad193,e193,hx193_0,hx193_1⟩ := at_T49 HR0.out x5_1 p193 q193
        cases e193
        replace p193 := eq_true p193
        replace q193 := eq_true q193
        have p194 : 0 ≤ (x5_1 : Int) := of_decide_eq_true (by assumption)
        have q194 : x5_1 < (l1.length : Int) := of_decide_eq_true (by assumption)
        obtain ⟨ad194,e194,hx194_0,hx194_1⟩ := at_T49 HR1.out x5_1 p194 q194
        cases e194
        replace p194 := eq_true p194
        replace q194 := eq_true q194
        go_wp2
        repeat (go_quiet (fail);try go_wp2)
        go_roundg k1
        case measure => have := HK1.out;omega
        case rel => exact ⟨(wrap64 (x5_1 + 1)),(by first|rfl|(simp;done)|(simp [*];done)|(simp [qam];done)),H',⟨by have := HK1.out;omega⟩,by repeat (first|exact Drawn0.refl _|apply Drawn0.step)⟩
      ·rw [if_neg c6] at H
       exact absurd H (by simp)
     ·rw [if_neg c5] at H
      exact absurd H (by simp)
    ·rw [if_neg c4] at H
     have c4b0 : decide (x5_1 < (l0.length : Int)) = false := decide_eq_false c4
     clear c4
     obtain rfl := Option.some.inj H
     go_wp2
     repeat (go_quiet (fail);try go_wp2)
     go_ret
     exact ⟨by first|rfl|(simp;done)|(simp [*];done)|(simp [qam];done),by repeat (first|exact Drawn0.refl _|apply Drawn0.step)⟩
 ·rw [if_neg c3] at H
  have c3b0 : ((l0.length : Int) == (l1.length : Int)) = false := beq_eq_false_iff_ne.mpr c3
  have c3b1 : ((l0.length : Int) != (l1.length : Int)) = true := bne_iff_ne.mpr c3
  have c3b2 : (l0.length == l1.length) = false := by first|simpa using c3|(simp at c3 ⊢;omega)
  obtain rfl := Option.some.inj H
  go_enter Tryz.func23,Tryz.ntmps23
  go_wp2
  repeat (go_quiet (fail);try go_wp2)
  go_ret
  exact ⟨by first|rfl|(simp;done)|(simp [*];done)|(simp [qam];done),by repeat (first|exact Drawn0.refl _|apply Drawn0.step)⟩
def relation_Name_1.f (a0 : Int) : Option (Bool) := (strings_IndexByte.f (⟨#[97,98,99,100,101,102,103,104,105,106,107,108,109,110,111,112,113,114,115,116,117,118,119,120,121,122,48,49,50,51,52,53,54,55,56,57,43,45,46]⟩ : ByteArray) a0).bind fun t195 => (some (decide (t195 < 0)))
theorem relation_Name_1.calls (a0 : Int) (r : Bool) (w : World) (hG : GL w) (h : relation_Name_1.f a0 = some r) :
  Calls Tryz.prog 119 #[.int .u8 a0] w fun e w' => e = .returned (.bool r) ∧ Drawn0 w w' := by
 have H : ((strings_IndexByte.f (⟨#[97,98,99,100,101,102,103,104,105,106,107,108,109,110,111,112,113,114,115,116,117,118,119,120,121,122,48,49,50,51,52,53,54,55,56,57,43,45,46]⟩ : ByteArray) a0).bind fun t195 => (some (decide (t195 < 0)))) = some r := h
 clear h
 replace H := Option.bind_eq_some_iff.mp H
 obtain ⟨t195,A20,H⟩ := H
 replace H : (some (decide (t195 < 0))) = some r := H
 have A2 := Aside0.mk A20
 clear A20
 obtain rfl := Option.some.inj H
 go_enter Tryz.func119,Tryz.ntmps119
 go_wp2_with (first|((with_reducible refine qal (f := 117) rfl ?_);refine goesL_ (some 4) rfl rfl Tryz.func117 (by kernel_rfl) rfl #[.string (⟨#[97,98,99,100,101,102,103,104,105,106,107,108,109,110,111,112,113,114,115,116,117,118,119,120,121,122,48,49,50,51,52,53,54,55,56,57,43,45,46]⟩ : ByteArray),.int .u8 a0] rfl (by first|rfl|(simp only [List.map_toArray,List.map_cons,List.map_nil,List.length_drop,List.length_take];rfl)|simp only [List.map_toArray,List.map_cons,List.map_nil]) ?_;(with_reducible refine (strings_IndexByte.calls (⟨#[97,98,99,100,101,102,103,104,105,106,107,108,109,110,111,112,113,114,115,116,117,118,119,120,121,122,48,49,50,51,52,53,54,55,56,57,43,45,46]⟩ : ByteArray) a0 t195 _ (by first|exact hG|(repeat (first|exact hG|apply GL.drewN|apply GL.drew)))  A2.out).mono ?_);rintro e w' ⟨rfl,⟨nd,rfl⟩⟩;refine ⟨_,rfl,?_⟩))
 go_ret
 exact ⟨by first|rfl|(simp;done)|(simp [*];done)|(simp [qam];done),by repeat (first|exact Drawn0.refl _|apply Drawn0.step)⟩
def slices_IndexFunc_byte_byte_119.l0 : Nat → List Int → Int → Int → Option (Int)
 | 0,_,_,_ => none
 | k + 1,x0,x7,x8 => if x8 < x7 then (if 0 ≤ x8 then (if x8 < (x0.length : Int) then ((relation_Name_1.f (rd x0 x8)).bind fun t197 => (if t197 = true then (some x8) else (slices_IndexFunc_byte_byte_119.l0 k x0 x7 (wrap64 (x8 + 1))))) else (none)) else (none)) else (some (-1))
def slices_IndexFunc_byte_byte_119.f (k : Nat) (l0 : List Int) (a1 : Nat) : Option (Int) := slices_IndexFunc_byte_byte_119.l0 k l0 (l0.length : Int) 0
theorem slices_IndexFunc_byte_byte_119.mono_l : ∀ k,(∀ y0 y1 y2,LeO (slices_IndexFunc_byte_byte_119.l0 k y0 y1 y2) (slices_IndexFunc_byte_byte_119.l0 (k + 1) y0 y1 y2))
 | 0 => fun _ _ _ r h => by simp [slices_IndexFunc_byte_byte_119.l0] at h
 | k + 1 => by
  have ih0 := slices_IndexFunc_byte_byte_119.mono_l k
  ·intro y0 y1 y2
   unfold slices_IndexFunc_byte_byte_119.l0
   repeat' first
   | (with_reducible exact ih0 _ _ _)
   | (with_reducible exact LeO.refl _)
   | (with_reducible exact LeO.none _)
   | (with_reducible refine LeO.ite ?_ ?_)
   | (with_reducible refine LeO.bind ?_ (fun _ => ?_))
   | exact ih0 _ _ _
   | exact LeO.none _
   | refine LeO.ite ?_ ?_
   | refine LeO.bind ?_ (fun _ => ?_)
theorem slices_IndexFunc_byte_byte_119.mono : ∀ a0 a1 k,LeO (slices_IndexFunc_byte_byte_119.f k a0 a1) (slices_IndexFunc_byte_byte_119.f (k + 1) a0 a1) := by
 intro a0 a1 k
 have ih0 := slices_IndexFunc_byte_byte_119.mono_l k
 unfold slices_IndexFunc_byte_byte_119.f
 repeat' first
   | (with_reducible exact ih0 _ _ _)
   | (with_reducible exact LeO.refl _)
   | (with_reducible exact LeO.none _)
   | (with_reducible refine LeO.ite ?_ ?_)
   | (with_reducible refine LeO.bind ?_ (fun _ => ?_))
   | exact ih0 _ _ _
   | exact LeO.none _
   | refine LeO.ite ?_ ?_
   | refine LeO.bind ?_ (fun _ => ?_)
theorem slices_IndexFunc_byte_byte_119.calls (k : Nat) (A0 : Option Addr) (c0 : Nat) (l0 : List Int) (a1 : Nat) (r : Int) (w : World) (hG : GL w) (hr0 : Kd.C (Kd.int .u8) w A0 l0.length l0) (hc0 : l0.length ≤ c0) (h : slices_IndexFunc_byte_byte_119.f k l0 a1 = some r) :
  Calls Tryz.prog 177 #[.slice A0 l0.length c0,.func (.func 119) #[] #[]] w fun e w' => e = .returned (.int .i64 r) ∧ Drawn0 w w' := by
 have HR0 := Aside0.mk hr0
 have HC0 := Aside0.mk hc0
 clear hr0 hc0
 have H : (slices_IndexFunc_byte_byte_119.l0 k l0 (l0.length : Int) 0) = some r := h
 clear h
 have H' := Aside0.mk H
 clear H
 go_enter Tryz.func177,Tryz.ntmps177
 go_wp2
 go_loopg [8] k (fun kq v8 w' => ∃ (x8_1 : Int),v8 = .int .i64 x8_1 ∧ Aside0 (slices_IndexFunc_byte_byte_119.l0 kq l0 (l0.length : Int) x8_1 = some r) ∧ Aside0 (kq ≤ k) ∧ Drawn0 w w')
 case atStart => exact ⟨(0),(by first|rfl|(simp;done)|(simp [*];done)|(simp [qam];done)),H',⟨Nat.le_refl _⟩,by repeat (first|exact Drawn0.refl _|apply Drawn0.step)⟩
 case round =>
  clear H'
  try clear p2
  obtain ⟨x8_1,rfl,HA,HK1,⟨m1,rfl⟩⟩ := hrel
  cases gk with
  | zero => exact absurd HA.out (by simp [slices_IndexFunc_byte_byte_119.l0])
  | succ k1 =>
   have H := HA.out
   clear HA
   simp only [slices_IndexFunc_byte_byte_119.l0] at H
   by_cases c3 : x8_1 < (l0.length : Int)
   ·rw [if_pos c3] at H
    have c3b0 : decide (x8_1 < (l0.length : Int)) = true := decide_eq_true c3
    clear c3
    by_cases c4 : 0 ≤ x8_1
    ·rw [if_pos c4] at H
     have c4b0 : decide (0 ≤ x8_1) = true := decide_eq_true c4
     clear c4
     by_cases c5 : x8_1 < (l0.length : Int)
     ·rw [if_pos c5] at H
      have c5b0 : decide (x8_1 < (l0.length : Int)) = true := decide_eq_true c5
      clear c5
      replace H := Option.bind_eq_some_iff.mp H
      obtain ⟨t197,A60,H⟩ := H
      replace H : (if t197 = true then (some x8_1) else (slices_IndexFunc_byte_byte_119.l0 k1 l0 (l0.length : Int) (wrap64 (x8_1 + 1)))) = some r := H
      have A6 := Aside0.mk A60
      clear A60
      by_cases c7 : t197 = true
      ·subst c7
       have H1 : (some x8_1) = some r := by rw [if_pos rfl] at H;exact H
       clear H
       have H := H1
       clear H1
       obtain rfl := Option.some.inj H
       have p196 : 0 ≤ (x8_1 : Int) := of_decide_eq_true (by assumption)
       have q196 : x8_1 < (l0.length : Int) := of_decide_eq_true (by assumption)
       obtain ⟨ad196,e196,hx196_0⟩ := Kd.at_int HR0.out x8_1 p196 q196
       cases e196
       replace p196 := eq_true p196
       replace q196 := eq_true q196
       go_wp2_with (first|(go_at_call 119;(with_reducible refine (relation_Name_1.calls (rd l0 x8_1) true _ (by first|exact hG|(repeat (first|exact hG|apply GL.drewN|apply GL.drew)))  A6.out).mono ?_);rintro e w' ⟨rfl,⟨nd,rfl⟩⟩))
       go_ret
       exact ⟨by first|rfl|(simp;done)|(simp [*];done)|(simp [qam];done),by repeat (first|exact Drawn0.refl _|apply Drawn0.step)⟩
      ·replace c7 := Bool.eq_false_iff.mpr c7
       subst c7
       have H1 : (slices_IndexFunc_byte_byte_119.l0 k1 l0 (l0.length : Int) (wrap64 (x8_1 + 1))) = some r := by rw [if_neg (show ¬ (false = true) by decide)] at H;exact H
       clear H
       have H := H1
       clear H1
       have H' := Aside0.mk H
       clear H
       have p196 : 0 ≤ (x8_1 : Int) := of_decide_eq_true (by assumption)
       have q196 : x8_1 < (l0.length : Int) := of_decide_eq_true (by assumption)
       obtain ⟨ad196,e196,hx196_0⟩ := Kd.at_int HR0.out x8_1 p196 q196
       cases e196
       replace p196 := eq_true p196
       replace q196 := eq_true q196
       go_wp2_with (first|(go_at_call 119;(with_reducible refine (relation_Name_1.calls (rd l0 x8_1) false _ (by first|exact hG|(repeat (first|exact hG|apply GL.drewN|apply GL.drew)))  A6.out).mono ?_);rintro e w' ⟨rfl,⟨nd,rfl⟩⟩))
       go_roundg k1
       case measure => have := HK1.out;omega
       case rel => exact ⟨(wrap64 (x8_1 + 1)),(by first|rfl|(simp;done)|(simp [*];done)|(simp [qam];done)),H',⟨by have := HK1.out;omega⟩,by repeat (first|exact Drawn0.refl _|apply Drawn0.step)⟩
     ·rw [if_neg c5] at H
      exact absurd H (by simp)
    ·rw [if_neg c4] at H
     exact absurd H (by simp)
   ·rw [if_neg c3] at H
    have c3b0 : decide (x8_1 < (l0.length : Int)) = false := decide_eq_false c3
    clear c3
    obtain rfl := Option.some.inj H
    go_wp2
    go_ret
    exact ⟨by first|rfl|(simp;done)|(simp [*];done)|(simp [qam];done),by repeat (first|exact Drawn0.refl _|apply Drawn0.step)⟩
def slices_ContainsFunc_byte_byte_119.f (k : Nat) (l0 : List Int) (a1 : Nat) : Option (Bool) := (slices_IndexFunc_byte_byte_119.f k l0 a1).bind fun t198 => (some (decide (t198 ≥ 0)))
theorem slices_ContainsFunc_byte_byte_119.mono : ∀ a0 a1 k,LeO (slices_ContainsFunc_byte_byte_119.f k a0 a1) (slices_ContainsFunc_byte_byte_119.f (k + 1) a0 a1) := by
 intro a0 a1 k
 unfold slices_ContainsFunc_byte_byte_119.f
 repeat' first
   | (with_reducible exact slices_IndexFunc_byte_byte_119.mono _ _ _)
   | (with_reducible exact LeO.refl _)
   | (with_reducible exact LeO.none _)
   | (with_reducible refine LeO.ite ?_ ?_)
   | (with_reducible refine LeO.bind ?_ (fun _ => ?_))
   | exact slices_IndexFunc_byte_byte_119.mono _ _ _
   | exact LeO.none _
   | refine LeO.ite ?_ ?_
   | refine LeO.bind ?_ (fun _ => ?_)
theorem slices_ContainsFunc_byte_byte_119.calls (k : Nat) (A0 : Option Addr) (c0 : Nat) (l0 : List Int) (a1 : Nat) (r : Bool) (w : World) (hG : GL w) (hr0 : Kd.C (Kd.int .u8) w A0 l0.length l0) (hc0 : l0.length ≤ c0) (h : slices_ContainsFunc_byte_byte_119.f k l0 a1 = some r) :
  Calls Tryz.prog 118 #[.slice A0 l0.length c0,.func (.func 119) #[] #[]] w fun e w' => e = .returned (.bool r) ∧ Drawn0 w w' := by
 have HR0 := Aside0.mk hr0
 have HC0 := Aside0.mk hc0
 clear hr0 hc0
 have H : ((slices_IndexFunc_byte_byte_119.f k l0 a1).bind fun t198 => (some (decide (t198 ≥ 0)))) = some r := h
 clear h
 replace H := Option.bind_eq_some_iff.mp H
 obtain ⟨t198,A30,H⟩ := H
 replace H : (some (decide (t198 ≥ 0))) = some r := H
 have A3 := Aside0.mk A30
 clear A30
 obtain rfl := Option.some.inj H
 go_enter Tryz.func118,Tryz.ntmps118
 go_wp2_with (first|((with_reducible refine qal (f := 177) rfl ?_);refine goesL_ (some 7) rfl rfl Tryz.func177 (by kernel_rfl) rfl #[.slice A0 l0.length c0,.func (.func 119) #[] #[]] rfl (by first|rfl|(simp only [List.map_toArray,List.map_cons,List.map_nil,List.length_drop,List.length_take];rfl)|simp only [List.map_toArray,List.map_cons,List.map_nil]) ?_;(with_reducible refine (slices_IndexFunc_byte_byte_119.calls k _ _ l0 a1 t198 _ (by first|exact hG|(repeat (first|exact hG|apply GL.drewN|apply GL.drew)))  ?side1 ?side2 A3.out).mono ?_);(case side1 => repeat (first|exact HR0.out|(with_reducible refine Kd.C_alloc ?_ _)|(with_reducible refine Kd.C_drewN ?_ _)|(with_reducible refine Kd.C_drew ?_)));(case side2 => exact HC0.out);rintro e w' ⟨rfl,⟨nd,rfl⟩⟩;refine ⟨_,rfl,?_⟩))
 go_ret
 exact ⟨by first|rfl|(simp;done)|(simp [*];done)|(simp [qam];done),by repeat (first|exact Drawn0.refl _|apply Drawn0.step)⟩
def relation_Name.f (k : Nat) (a0 : ByteArray) : Option (Bool) := if 2 ≤ (a0.size : Int) then (if (a0.size : Int) ≤ 40 then ((strings_IndexByte.f (⟨#[97,98,99,100,101,102,103,104,105,106,107,108,109,110,111,112,113,114,115,116,117,118,119,120,121,122,48,49,50,51,52,53,54,55,56,57]⟩ : ByteArray) (bt a0 0)).bind fun t => if 0 ≤ t then ((slices_ContainsFunc_byte_byte_119.f k (bytesOf a0) 0).bind fun c => some (!c)) else some false) else some false) else some false
theorem relation_Name.mono : ∀ a0 k,LeO (relation_Name.f k a0) (relation_Name.f (k + 1) a0) := by
 intro a0 k
 unfold relation_Name.f
 repeat' first
   | (with_reducible exact slices_ContainsFunc_byte_byte_119.mono _ _ _)
   | (with_reducible exact LeO.refl _)
   | (with_reducible refine LeO.ite ?_ ?_)
   | (with_reducible refine LeO.bind ?_ (fun _ => ?_))
set_option maxHeartbeats 1000000 in
theorem relation_Name.calls (k : Nat) (a0 : ByteArray) (r : Bool) (w : World) (hG : GL w) (h : relation_Name.f k a0 = some r) :
  Calls Tryz.prog 58 #[.string a0] w fun e w' => e = .returned (.bool r) ∧ Below w.heap.size w w' := by
 have HB := Aside0.mk (Below.refl w.heap.size w)
 unfold relation_Name.f at h
 by_cases c1 : 2 ≤ (a0.size : Int)
 ·rw [if_pos c1] at h
  have b1 : decide (2 ≤ (a0.size : Int)) = true := decide_eq_true c1
  have b1' : decide ((0 : Int) < (a0.size : Int)) = true := decide_eq_true (by omega)
  have b1'' : 0 < a0.size := by omega
  have hx0 : ((a0[0]'b1'').toNat : Int) = bt a0 0 := bt_at a0 0 b1''
  by_cases c2 : (a0.size : Int) ≤ 40
  ·rw [if_pos c2] at h
   have b2 : decide ((a0.size : Int) ≤ 40) = true := decide_eq_true c2
   replace h := Option.bind_eq_some_iff.mp h
   obtain ⟨t,hti,h⟩ := h
   have A1 := Aside0.mk hti
   clear hti
   by_cases c3 : 0 ≤ t
   ·have h1 : ((slices_ContainsFunc_byte_byte_119.f k (bytesOf a0) 0).bind fun c => some (!c)) = some r := by rw [if_pos c3] at h;exact h
    clear h
    have b3 : decide (0 ≤ t) = true := decide_eq_true c3
    replace h1 := Option.bind_eq_some_iff.mp h1
    obtain ⟨c,hc,h1⟩ := h1
    have A2 := Aside0.mk hc
    clear hc c1 c2 c3
    obtain rfl := Option.some.inj h1
    have kb : ∀ W : World,(convert 9 134 (.string a0)).run Tryz.prog W = .ok (.slice (some ⟨W.heap.size,0,none⟩) a0.size (grownCap W a0.size 0 5)) (Lib.bytesWorld W 5 a0) := fun W => print_bytes 9 134 5 Tryz.underlying9 Tryz.underlying134 Tryz.underlying5 a0 W
    have hBW : ∀ n : Nat,Below w.heap.size w (Lib.bytesWorld (w.drewN n) 5 a0) := fun n => by
     have h1 : Below w.heap.size w (w.drewN n) := Drawn0.below ⟨⟨n,rfl⟩⟩
     exact bytes_below h1 h1.size 5 a0
    have hKW : ∀ n : Nat,Kd.C (Kd.int .u8) (Lib.bytesWorld (w.drewN n) 5 a0) (some ⟨(w.drewN n).heap.size,0,none⟩) a0.size (bytesOf a0) := fun n =>
     Kd.C_of_reads (enc := Value.int .u8) (d := (0 : Int)) (h1 := fun _ => rfl) (bytes_reads (w.drewN n) 5 a0 (by have := of_decide_eq_true b2;omega))
    have CC : ∀ (W : World) (A0 : Option Addr) (c0 : Nat),GL W → Kd.C (Kd.int .u8) W A0 a0.size (bytesOf a0) → a0.size ≤ c0 → Calls Tryz.prog 118 #[.slice A0 a0.size c0,.func (.func 119) #[] #[]] W fun e w' => e = .returned (.bool c) ∧ Drawn0 W w' := by
     intro W A0 c0 hg hr hc
     have := slices_ContainsFunc_byte_byte_119.calls k A0 c0 (bytesOf a0) 0 c W hg (by rw [bytesOf_length];exact hr) (by rw [bytesOf_length];exact hc) A2.out
     rw [bytesOf_length] at this
     exact this
    go_enter Tryz.func58,Tryz.ntmps58
    go_wp2_with (first|(go_at_call 117;go_loud (refine calls_of_args (args' := #[.string (⟨#[97,98,99,100,101,102,103,104,105,106,107,108,109,110,111,112,113,114,115,116,117,118,119,120,121,122,48,49,50,51,52,53,54,55,56,57]⟩ : ByteArray),.int .u8 (bt a0 0)]) (by first|rfl | rw [hx0]) ?_;(with_reducible refine (strings_IndexByte.calls _ _ t _ hG A1.out).mono ?_);rintro e w' ⟨rfl,⟨nd,rfl⟩⟩))|(go_at_call 118;go_loud (refine (CC _ _ _ ?g ?k ?c).mono ?_);(case g => exact hG.below (hBW nd));(case k => exact hKW nd);(case c => exact grownCap_ge _ _ _ _);rintro e w' ⟨rfl,⟨nd,rfl⟩⟩))
    go_ret
    exact ⟨by first|rfl|(simp;done),by first|exact qan (hBW _) (Drawn0.below ⟨⟨_,rfl⟩⟩)⟩
   ·have h1 : some false = some r := by rw [if_neg c3] at h;exact h
    clear h
    have b3 : decide (0 ≤ t) = false := decide_eq_false c3
    clear c1 c2 c3
    obtain rfl := Option.some.inj h1
    go_enter Tryz.func58,Tryz.ntmps58
    go_wp2_with (first|(go_at_call 117;(refine calls_of_args (args' := #[.string (⟨#[97,98,99,100,101,102,103,104,105,106,107,108,109,110,111,112,113,114,115,116,117,118,119,120,121,122,48,49,50,51,52,53,54,55,56,57]⟩ : ByteArray),.int .u8 (bt a0 0)]) (by first|rfl | rw [hx0]) ?_;(with_reducible refine (strings_IndexByte.calls _ _ t _ hG A1.out).mono ?_);rintro e w' ⟨rfl,⟨nd,rfl⟩⟩)))
    go_ret
    exact ⟨by first|rfl|(simp;done),Drawn0.below ⟨⟨_,rfl⟩⟩⟩
  ·have h1 : some false = some r := by rw [if_neg c2] at h;exact h
   clear h
   have b2 : decide ((a0.size : Int) ≤ 40) = false := decide_eq_false c2
   clear c1 c2
   obtain rfl := Option.some.inj h1
   go_enter Tryz.func58,Tryz.ntmps58
   go_wp2
   go_ret
   exact ⟨by first|rfl|(simp;done),HB.out⟩
 ·have h1 : some false = some r := by rw [if_neg c1] at h;exact h
  clear h
  have b1 : decide (2 ≤ (a0.size : Int)) = false := decide_eq_false c1
  clear c1
  obtain rfl := Option.some.inj h1
  go_enter Tryz.func58,Tryz.ntmps58
  go_wp2
  go_ret
  exact ⟨by first|rfl|(simp;done),HB.out⟩
def version_Print.f (k : Nat) (a0_0 : Int) (a0_1 : ByteArray) (a0_2 : ByteArray) : Option (ByteArray) := (version_Right.f k a0_0 a0_1 a0_2).bind fun t200 => (if t200 = true then ((version_text.f a0_0 a0_1 a0_2).bind fun t201 => (some t201)) else (some (⟨#[]⟩ : ByteArray)))
theorem version_Print.mono : ∀ a0 a1 a2 k,LeO (version_Print.f k a0 a1 a2) (version_Print.f (k + 1) a0 a1 a2) := by
 intro a0 a1 a2 k
 unfold version_Print.f
 repeat' first
   | (with_reducible exact version_Right.mono _ _ _ _)
   | (with_reducible exact LeO.refl _)
   | (with_reducible exact LeO.none _)
   | (with_reducible refine LeO.ite ?_ ?_)
   | (with_reducible refine LeO.bind ?_ (fun _ => ?_))
   | exact version_Right.mono _ _ _ _
   | exact LeO.none _
   | refine LeO.ite ?_ ?_
   | refine LeO.bind ?_ (fun _ => ?_)
theorem version_Print.calls (k : Nat) (a0_0 : Int) (a0_1 : ByteArray) (a0_2 : ByteArray) (r : ByteArray) (w : World) (hG : GL w) (h : version_Print.f k a0_0 a0_1 a0_2 = some r) :
  Calls Tryz.prog 120 #[.agg #[.int .i64 a0_0,.string a0_1,.string a0_2]] w fun e w' => e = .returned (.string r) ∧ Below w.heap.size w w' := by
 have hu128 := Tryz.underlying128
 have HB := Aside0.mk (Below.refl w.heap.size w)
 have H : ((version_Right.f k a0_0 a0_1 a0_2).bind fun t200 => (if t200 = true then ((version_text.f a0_0 a0_1 a0_2).bind fun t201 => (some t201)) else (some (⟨#[]⟩ : ByteArray)))) = some r := h
 clear h
 replace H := Option.bind_eq_some_iff.mp H
 obtain ⟨t200,A20,H⟩ := H
 replace H : (if t200 = true then ((version_text.f a0_0 a0_1 a0_2).bind fun t201 => (some t201)) else (some (⟨#[]⟩ : ByteArray))) = some r := H
 have A2 := Aside0.mk A20
 clear A20
 by_cases c3 : t200 = true
 ·subst c3
  have H1 : ((version_text.f a0_0 a0_1 a0_2).bind fun t201 => (some t201)) = some r := by rw [if_pos rfl] at H;exact H
  clear H
  have H := H1
  clear H1
  replace H := Option.bind_eq_some_iff.mp H
  obtain ⟨t201,A40,H⟩ := H
  replace H : (some t201) = some r := H
  have A4 := Aside0.mk A40
  clear A40
  obtain rfl := Option.some.inj H
  go_enter Tryz.func120,Tryz.ntmps120
  go_wp2_with (first|((with_reducible refine gate_dst (N := 1) rfl ?_);refine box_event ?hg (N := 1) ?hd (cs := #[.int .i64 a0_0,.string a0_1,.string a0_2]) (t := 128) ?hr ?_;(case hd => rfl);(case hg => rfl);(case hr => first|(go_simp;done)|(go_simp;rfl));intro gb199 hg w5 hbox hb;have n0_ := Aside0.mk (qan (by repeat (with_reducible first|exact HB.out|apply qab|apply qaa|apply qac)) hb);have n1_ := Aside0.mk (hbox);have n2_ := Aside0.mk ((by rw [hg];exact (qao (by repeat (with_reducible first|exact HB.out|apply qab|apply qaa|apply qac))) : w.heap.size ≤ gb199));have n3_ := Aside0.mk ((by rw [hg];exact (qao (by repeat (with_reducible first|exact HB.out|apply qab|apply qaa|apply qac))) : w.heap.size ≤ gb199));clear HB;have HB := n0_;have BK199 := n1_;have GW199 := n2_;have GE199 := n3_;clear n0_ n1_ n2_ n3_;clear hb hbox hg;have hcz6_0 : w5.cell? ⟨gb199,0,none⟩ = some (.int .i64 a0_0) := (qae BK199.out 0).trans rfl;have hcz6_1 : w5.cell? ⟨gb199,1,none⟩ = some (.string a0_1) := (qae BK199.out 1).trans rfl;have hcz6_2 : w5.cell? ⟨gb199,2,none⟩ = some (.string a0_2) := (qae BK199.out 2).trans rfl;have hfz6_0 := qad BK199.out 0;have hfz6_1 := qad BK199.out 1;have hfz6_2 := qad BK199.out 2)|((with_reducible refine qal (f := 173) rfl ?_);refine goesL_ (some 4) rfl rfl Tryz.func173 (by kernel_rfl) rfl #[.agg #[.int .i64 a0_0,.string a0_1,.string a0_2]] rfl (by first|rfl|(simp only [List.map_toArray,List.map_cons,List.map_nil,List.length_drop,List.length_take];rfl)|simp only [List.map_toArray,List.map_cons,List.map_nil]) ?_;(with_reducible refine (version_Right.calls k a0_0 a0_1 a0_2 true _ (by first|exact hG|exact GL.below hG (by repeat (first|(with_reducible first|exact HB.out|apply qab|apply qaa|apply qac|refine qaf ?_ GE199.out)|exact HB.out)))  A2.out).mono ?_);rintro e w7 ⟨rfl,hb⟩;refine ⟨_,rfl,?_⟩;have n0_ := Aside0.mk (qaq (g := gb199) (o := .cells #[.int .i64 a0_0,.string a0_1,.string a0_2] 128 (0,0)) (by (with_reducible repeat (first|refine qah ?_ _|refine qai ?_|refine qag ?_ _));exact BK199.out) hb);have n1_ := Aside0.mk (qan (by repeat (first|(with_reducible first|exact HB.out|apply qab|apply qaa|apply qac|refine qaf ?_ GE199.out)|exact HB.out)) hb);clear BK199;clear HB;have BK199 := n0_;have HB := n1_;clear n0_ n1_;(try clear hb);(try clear hb2);(try clear hk);(try clear hi);have hcz8_0 : w7.cell? ⟨gb199,0,none⟩ = some (.int .i64 a0_0) := (qae BK199.out 0).trans rfl;have hcz8_1 : w7.cell? ⟨gb199,1,none⟩ = some (.string a0_1) := (qae BK199.out 1).trans rfl;have hcz8_2 : w7.cell? ⟨gb199,2,none⟩ = some (.string a0_2) := (qae BK199.out 2).trans rfl;have hfz8_0 := qad BK199.out 0;have hfz8_1 := qad BK199.out 1;have hfz8_2 := qad BK199.out 2)|((with_reducible refine qal (f := 178) rfl ?_);refine goesL_ (some 7) rfl rfl Tryz.func178 (by kernel_rfl) rfl #[.agg #[.int .i64 a0_0,.string a0_1,.string a0_2]] rfl (by first|rfl|(simp only [List.map_toArray,List.map_cons,List.map_nil,List.length_drop,List.length_take];rfl)|simp only [List.map_toArray,List.map_cons,List.map_nil]) ?_;(with_reducible refine (version_text.calls a0_0 a0_1 a0_2 t201 _ (by first|exact hG|exact GL.below hG (by repeat (first|(with_reducible first|exact HB.out|apply qab|apply qaa|apply qac|refine qaf ?_ GE199.out)|exact HB.out)))  A4.out).mono ?_);rintro e w9 ⟨rfl,hb⟩;refine ⟨_,rfl,?_⟩;have n0_ := Aside0.mk (qaq (g := gb199) (o := .cells #[.int .i64 a0_0,.string a0_1,.string a0_2] 128 (0,0)) (by (with_reducible repeat (first|refine qah ?_ _|refine qai ?_|refine qag ?_ _));exact BK199.out) hb);have n1_ := Aside0.mk (qan (by repeat (first|(with_reducible first|exact HB.out|apply qab|apply qaa|apply qac|refine qaf ?_ GE199.out)|exact HB.out)) hb);clear BK199;clear HB;have BK199 := n0_;have HB := n1_;clear n0_ n1_;(try clear hb);(try clear hb2);(try clear hk);(try clear hi)))
  go_ret
  exact ⟨by first|rfl|(simp [qaj,qak]<;>rfl)|(simp [*,qaj,qak]<;>rfl),by repeat (first|(with_reducible first|exact HB.out|apply qab|apply qaa|apply qac|refine qaf ?_ GE199.out)|exact HB.out)⟩
 ·replace c3 := Bool.eq_false_iff.mpr c3
  subst c3
  have H1 : (some (⟨#[]⟩ : ByteArray)) = some r := by rw [if_neg (show ¬ (false = true) by decide)] at H;exact H
  clear H
  have H := H1
  clear H1
  obtain rfl := Option.some.inj H
  go_enter Tryz.func120,Tryz.ntmps120
  go_wp2_with (first|((with_reducible refine gate_dst (N := 1) rfl ?_);refine box_event ?hg (N := 1) ?hd (cs := #[.int .i64 a0_0,.string a0_1,.string a0_2]) (t := 128) ?hr ?_;(case hd => rfl);(case hg => rfl);(case hr => first|(go_simp;done)|(go_simp;rfl));intro gb199 hg w10 hbox hb;have n0_ := Aside0.mk (qan (by repeat (with_reducible first|exact HB.out|apply qab|apply qaa|apply qac)) hb);have n1_ := Aside0.mk (hbox);have n2_ := Aside0.mk ((by rw [hg];exact (qao (by repeat (with_reducible first|exact HB.out|apply qab|apply qaa|apply qac))) : w.heap.size ≤ gb199));have n3_ := Aside0.mk ((by rw [hg];exact (qao (by repeat (with_reducible first|exact HB.out|apply qab|apply qaa|apply qac))) : w.heap.size ≤ gb199));clear HB;have HB := n0_;have BK199 := n1_;have GW199 := n2_;have GE199 := n3_;clear n0_ n1_ n2_ n3_;clear hb hbox hg;have hcz11_0 : w10.cell? ⟨gb199,0,none⟩ = some (.int .i64 a0_0) := (qae BK199.out 0).trans rfl;have hcz11_1 : w10.cell? ⟨gb199,1,none⟩ = some (.string a0_1) := (qae BK199.out 1).trans rfl;have hcz11_2 : w10.cell? ⟨gb199,2,none⟩ = some (.string a0_2) := (qae BK199.out 2).trans rfl;have hfz11_0 := qad BK199.out 0;have hfz11_1 := qad BK199.out 1;have hfz11_2 := qad BK199.out 2)|((with_reducible refine qal (f := 173) rfl ?_);refine goesL_ (some 4) rfl rfl Tryz.func173 (by kernel_rfl) rfl #[.agg #[.int .i64 a0_0,.string a0_1,.string a0_2]] rfl (by first|rfl|(simp only [List.map_toArray,List.map_cons,List.map_nil,List.length_drop,List.length_take];rfl)|simp only [List.map_toArray,List.map_cons,List.map_nil]) ?_;(with_reducible refine (version_Right.calls k a0_0 a0_1 a0_2 false _ (by first|exact hG|exact GL.below hG (by repeat (first|(with_reducible first|exact HB.out|apply qab|apply qaa|apply qac|refine qaf ?_ GE199.out)|exact HB.out)))  A2.out).mono ?_);rintro e w12 ⟨rfl,hb⟩;refine ⟨_,rfl,?_⟩;have n0_ := Aside0.mk (qaq (g := gb199) (o := .cells #[.int .i64 a0_0,.string a0_1,.string a0_2] 128 (0,0)) (by (with_reducible repeat (first|refine qah ?_ _|refine qai ?_|refine qag ?_ _));exact BK199.out) hb);have n1_ := Aside0.mk (qan (by repeat (first|(with_reducible first|exact HB.out|apply qab|apply qaa|apply qac|refine qaf ?_ GE199.out)|exact HB.out)) hb);clear BK199;clear HB;have BK199 := n0_;have HB := n1_;clear n0_ n1_;(try clear hb);(try clear hb2);(try clear hk);(try clear hi)))
  go_ret
  exact ⟨by first|rfl|(simp [qaj,qak]<;>rfl)|(simp [*,qaj,qak]<;>rfl),by repeat (first|(with_reducible first|exact HB.out|apply qab|apply qaa|apply qac|refine qaf ?_ GE199.out)|exact HB.out)⟩
def entry_plain.f (k : Nat) (a0 : ByteArray) : Option (Bool) := (version_Parse.f k a0).bind fun bt202 => (if bt202.2.2.2 = 0 then ((version_Print.f k bt202.1 bt202.2.1 bt202.2.2.1).bind fun t207 => (some (t207.toList == a0.toList))) else (some false))
theorem entry_plain.mono : ∀ a0 k,LeO (entry_plain.f k a0) (entry_plain.f (k + 1) a0) := by
 intro a0 k
 unfold entry_plain.f
 repeat' first
   | (with_reducible exact version_Parse.mono _ _)
   | (with_reducible exact version_Print.mono _ _ _ _)
   | (with_reducible exact LeO.refl _)
   | (with_reducible exact LeO.none _)
   | (with_reducible refine LeO.ite ?_ ?_)
   | (with_reducible refine LeO.bind ?_ (fun _ => ?_))
   | exact version_Parse.mono _ _
   | exact version_Print.mono _ _ _ _
   | exact LeO.none _
   | refine LeO.ite ?_ ?_
   | refine LeO.bind ?_ (fun _ => ?_)
theorem entry_plain.calls (k : Nat) (a0 : ByteArray) (r : Bool) (w : World) (hG : GL w) (h : entry_plain.f k a0 = some r) :
  Calls Tryz.prog 59 #[.string a0] w fun e w' => e = .returned (.bool r) ∧ Below w.heap.size w w' := by
 have hu128 := Tryz.underlying128
 have HB := Aside0.mk (Below.refl w.heap.size w)
 have H : ((version_Parse.f k a0).bind fun bt202 => (if bt202.2.2.2 = 0 then ((version_Print.f k bt202.1 bt202.2.1 bt202.2.2.1).bind fun t207 => (some (t207.toList == a0.toList))) else (some false))) = some r := h
 clear h
 replace H := Option.bind_eq_some_iff.mp H
 obtain ⟨⟨t202,t203,t204,t205⟩,A20,H⟩ := H
 replace H : (if t205 = 0 then ((version_Print.f k t202 t203 t204).bind fun t207 => (some (t207.toList == a0.toList))) else (some false)) = some r := H
 have A2 := Aside0.mk A20
 clear A20
 by_cases c3 : t205 = 0
 ·rw [if_pos c3] at H
  have c3b0 : (t205 == 0) = true := beq_iff_eq.mpr c3
  have c3b1 : (t205 != 0) = false := bne_eq_false_iff_eq.mpr c3
  clear c3
  replace H := Option.bind_eq_some_iff.mp H
  obtain ⟨t207,A40,H⟩ := H
  replace H : (some (t207.toList == a0.toList)) = some r := H
  have A4 := Aside0.mk A40
  clear A40
  obtain rfl := Option.some.inj H
  go_enter Tryz.func59,Tryz.ntmps59
  go_wp2_with (first|((with_reducible refine qal (f := 115) rfl ?_);refine goesL_ (some 7) rfl rfl Tryz.func115 (by kernel_rfl) rfl #[.string a0] rfl (by first|rfl|(simp only [List.map_toArray,List.map_cons,List.map_nil,List.length_drop,List.length_take];rfl)|simp only [List.map_toArray,List.map_cons,List.map_nil]) ?_;(with_reducible refine (version_Parse.calls k a0 t202 t203 t204 t205 _ (by first|exact hG|exact GL.below hG (by repeat (with_reducible first|exact HB.out|apply qab|apply qaa|apply qac)))  A2.out).mono ?_);rintro e w5 ⟨rfl,hb⟩;refine ⟨_,rfl,?_⟩;have n0_ := Aside0.mk (qan (by repeat (with_reducible first|exact HB.out|apply qab|apply qaa|apply qac)) hb);clear HB;have HB := n0_;clear n0_;(try clear hb);(try clear hb2);(try clear hk);(try clear hi))|((with_reducible refine gate_dst (N := 3) rfl ?_);refine box_event ?hg (N := 3) ?hd (cs := #[.int .i64 0,.string (⟨#[]⟩ : ByteArray),.string (⟨#[]⟩ : ByteArray)]) (t := 128) ?hr ?_;(case hd => rfl);(case hg => rfl);(case hr => first|(go_simp;done)|(go_simp;rfl));intro gb206 hg w6 hbox hb;have n0_ := Aside0.mk (qan (by repeat (with_reducible first|exact HB.out|apply qab|apply qaa|apply qac)) hb);have n1_ := Aside0.mk (hbox);have n2_ := Aside0.mk ((by rw [hg];exact (qao (by repeat (with_reducible first|exact HB.out|apply qab|apply qaa|apply qac))) : w.heap.size ≤ gb206));have n3_ := Aside0.mk ((by rw [hg];exact (qao (by repeat (with_reducible first|exact HB.out|apply qab|apply qaa|apply qac))) : w.heap.size ≤ gb206));clear HB;have HB := n0_;have BK206 := n1_;have GW206 := n2_;have GE206 := n3_;clear n0_ n1_ n2_ n3_;clear hb hbox hg;have hcz7_0 : w6.cell? ⟨gb206,0,none⟩ = some (.int .i64 0) := (qae BK206.out 0).trans rfl;have hcz7_1 : w6.cell? ⟨gb206,1,none⟩ = some (.string (⟨#[]⟩ : ByteArray)) := (qae BK206.out 1).trans rfl;have hcz7_2 : w6.cell? ⟨gb206,2,none⟩ = some (.string (⟨#[]⟩ : ByteArray)) := (qae BK206.out 2).trans rfl;have hfz7_0 := qad BK206.out 0;have hfz7_1 := qad BK206.out 1;have hfz7_2 := qad BK206.out 2)|(go_at_call 120;(with_reducible refine (version_Print.calls k t202 t203 t204 t207 _ (by first|exact hG|exact GL.below hG (by repeat (first|(with_reducible first|exact HB.out|apply qab|apply qaa|apply qac|refine qaf ?_ GE206.out)|exact HB.out)))  A4.out).mono ?_);rintro e w8 ⟨rfl,hb⟩;have n0_ := Aside0.mk (qaq (g := gb206) (o := .cells #[.int .i64 t202,.string t203,.string t204] 128 (0,0)) (by (with_reducible repeat (first|refine qah ?_ _|refine qai ?_|refine qag ?_ _));refine blk_put (cs := #[.int .i64 t202,.string t203,.string (⟨#[]⟩ : ByteArray)]) ?_ 2 _ rfl;(with_reducible repeat (first|refine qah ?_ _|refine qai ?_|refine qag ?_ _));refine blk_put (cs := #[.int .i64 t202,.string (⟨#[]⟩ : ByteArray),.string (⟨#[]⟩ : ByteArray)]) ?_ 1 _ rfl;(with_reducible repeat (first|refine qah ?_ _|refine qai ?_|refine qag ?_ _));refine blk_put (cs := #[.int .i64 0,.string (⟨#[]⟩ : ByteArray),.string (⟨#[]⟩ : ByteArray)]) ?_ 0 _ rfl;(with_reducible repeat (first|refine qah ?_ _|refine qai ?_|refine qag ?_ _));exact BK206.out) hb);have n1_ := Aside0.mk (qan (by repeat (first|(with_reducible first|exact HB.out|apply qab|apply qaa|apply qac|refine qaf ?_ GE206.out)|exact HB.out)) hb);clear BK206;clear HB;have BK206 := n0_;have HB := n1_;clear n0_ n1_;(try clear hb);(try clear hb2);(try clear hk);(try clear hi)))
  go_ret
  exact ⟨by first|rfl|(simp [qaj,qak]<;>rfl)|(simp [*,qaj,qak]<;>rfl),by repeat (first|(with_reducible first|exact HB.out|apply qab|apply qaa|apply qac|refine qaf ?_ GE206.out)|exact HB.out)⟩
 ·rw [if_neg c3] at H
  have c3b0 : (t205 == 0) = false := beq_eq_false_iff_ne.mpr c3
  have c3b1 : (t205 != 0) = true := bne_iff_ne.mpr c3
  obtain rfl := Option.some.inj H
  go_enter Tryz.func59,Tryz.ntmps59
  go_wp2_with (first|((with_reducible refine qal (f := 115) rfl ?_);refine goesL_ (some 7) rfl rfl Tryz.func115 (by kernel_rfl) rfl #[.string a0] rfl (by first|rfl|(simp only [List.map_toArray,List.map_cons,List.map_nil,List.length_drop,List.length_take];rfl)|simp only [List.map_toArray,List.map_cons,List.map_nil]) ?_;(with_reducible refine (version_Parse.calls k a0 t202 t203 t204 t205 _ (by first|exact hG|exact GL.below hG (by repeat (with_reducible first|exact HB.out|apply qab|apply qaa|apply qac)))  A2.out).mono ?_);rintro e w9 ⟨rfl,hb⟩;refine ⟨_,rfl,?_⟩;have n0_ := Aside0.mk (qan (by repeat (with_reducible first|exact HB.out|apply qab|apply qaa|apply qac)) hb);clear HB;have HB := n0_;clear n0_;(try clear hb);(try clear hb2);(try clear hk);(try clear hi))|((with_reducible refine gate_dst (N := 3) rfl ?_);refine box_event ?hg (N := 3) ?hd (cs := #[.int .i64 0,.string (⟨#[]⟩ : ByteArray),.string (⟨#[]⟩ : ByteArray)]) (t := 128) ?hr ?_;(case hd => rfl);(case hg => rfl);(case hr => first|(go_simp;done)|(go_simp;rfl));intro gb206 hg w10 hbox hb;have n0_ := Aside0.mk (qan (by repeat (with_reducible first|exact HB.out|apply qab|apply qaa|apply qac)) hb);have n1_ := Aside0.mk (hbox);have n2_ := Aside0.mk ((by rw [hg];exact (qao (by repeat (with_reducible first|exact HB.out|apply qab|apply qaa|apply qac))) : w.heap.size ≤ gb206));have n3_ := Aside0.mk ((by rw [hg];exact (qao (by repeat (with_reducible first|exact HB.out|apply qab|apply qaa|apply qac))) : w.heap.size ≤ gb206));clear HB;have HB := n0_;have BK206 := n1_;have GW206 := n2_;have GE206 := n3_;clear n0_ n1_ n2_ n3_;clear hb hbox hg;have hcz11_0 : w10.cell? ⟨gb206,0,none⟩ = some (.int .i64 0) := (qae BK206.out 0).trans rfl;have hcz11_1 : w10.cell? ⟨gb206,1,none⟩ = some (.string (⟨#[]⟩ : ByteArray)) := (qae BK206.out 1).trans rfl;have hcz11_2 : w10.cell? ⟨gb206,2,none⟩ = some (.string (⟨#[]⟩ : ByteArray)) := (qae BK206.out 2).trans rfl;have hfz11_0 := qad BK206.out 0;have hfz11_1 := qad BK206.out 1;have hfz11_2 := qad BK206.out 2))
  go_ret
  exact ⟨by first|rfl|(simp [qaj,qak]<;>rfl)|(simp [*,qaj,qak]<;>rfl),by repeat (first|(with_reducible first|exact HB.out|apply qab|apply qaa|apply qac|refine qaf ?_ GE206.out)|exact HB.out)⟩
def relation_plain.f (k : Nat) (a0 : ByteArray) : Option (Bool) := (version_Parse.f k a0).bind fun bt208 => (if bt208.2.2.2 = 0 then ((version_Print.f k bt208.1 bt208.2.1 bt208.2.2.1).bind fun t213 => (some (t213.toList == a0.toList))) else (some false))
theorem relation_plain.mono : ∀ a0 k,LeO (relation_plain.f k a0) (relation_plain.f (k + 1) a0) := by
 intro a0 k
 unfold relation_plain.f
 repeat' first
   | (with_reducible exact version_Parse.mono _ _)
   | (with_reducible exact version_Print.mono _ _ _ _)
   | (with_reducible exact LeO.refl _)
   | (with_reducible exact LeO.none _)
   | (with_reducible refine LeO.ite ?_ ?_)
   | (with_reducible refine LeO.bind ?_ (fun _ => ?_))
   | exact version_Parse.mono _ _
   | exact version_Print.mono _ _ _ _
   | exact LeO.none _
   | refine LeO.ite ?_ ?_
   | refine LeO.bind ?_ (fun _ => ?_)
theorem relation_plain.calls (k : Nat) (a0 : ByteArray) (r : Bool) (w : World) (hG : GL w) (h : relation_plain.f k a0 = some r) :
  Calls Tryz.prog 124 #[.string a0] w fun e w' => e = .returned (.bool r) ∧ Below w.heap.size w w' := by
 have hu128 := Tryz.underlying128
 have HB := Aside0.mk (Below.refl w.heap.size w)
 have H : ((version_Parse.f k a0).bind fun bt208 => (if bt208.2.2.2 = 0 then ((version_Print.f k bt208.1 bt208.2.1 bt208.2.2.1).bind fun t213 => (some (t213.toList == a0.toList))) else (some false))) = some r := h
 clear h
 replace H := Option.bind_eq_some_iff.mp H
 obtain ⟨⟨t208,t209,t210,t211⟩,A20,H⟩ := H
 replace H : (if t211 = 0 then ((version_Print.f k t208 t209 t210).bind fun t213 => (some (t213.toList == a0.toList))) else (some false)) = some r := H
 have A2 := Aside0.mk A20
 clear A20
 by_cases c3 : t211 = 0
 ·rw [if_pos c3] at H
  have c3b0 : (t211 == 0) = true := beq_iff_eq.mpr c3
  have c3b1 : (t211 != 0) = false := bne_eq_false_iff_eq.mpr c3
  clear c3
  replace H := Option.bind_eq_some_iff.mp H
  obtain ⟨t213,A40,H⟩ := H
  replace H : (some (t213.toList == a0.toList)) = some r := H
  have A4 := Aside0.mk A40
  clear A40
  obtain rfl := Option.some.inj H
  go_enter Tryz.func124,Tryz.ntmps124
  go_wp2_with (first|((with_reducible refine qal (f := 115) rfl ?_);refine goesL_ (some 7) rfl rfl Tryz.func115 (by kernel_rfl) rfl #[.string a0] rfl (by first|rfl|(simp only [List.map_toArray,List.map_cons,List.map_nil,List.length_drop,List.length_take];rfl)|simp only [List.map_toArray,List.map_cons,List.map_nil]) ?_;(with_reducible refine (version_Parse.calls k a0 t208 t209 t210 t211 _ (by first|exact hG|exact GL.below hG (by repeat (with_reducible first|exact HB.out|apply qab|apply qaa|apply qac)))  A2.out).mono ?_);rintro e w5 ⟨rfl,hb⟩;refine ⟨_,rfl,?_⟩;have n0_ := Aside0.mk (qan (by repeat (with_reducible first|exact HB.out|apply qab|apply qaa|apply qac)) hb);clear HB;have HB := n0_;clear n0_;(try clear hb);(try clear hb2);(try clear hk);(try clear hi))|((with_reducible refine gate_dst (N := 3) rfl ?_);refine box_event ?hg (N := 3) ?hd (cs := #[.int .i64 0,.string (⟨#[]⟩ : ByteArray),.string (⟨#[]⟩ : ByteArray)]) (t := 128) ?hr ?_;(case hd => rfl);(case hg => rfl);(case hr => first|(go_simp;done)|(go_simp;rfl));intro gb212 hg w6 hbox hb;have n0_ := Aside0.mk (qan (by repeat (with_reducible first|exact HB.out|apply qab|apply qaa|apply qac)) hb);have n1_ := Aside0.mk (hbox);have n2_ := Aside0.mk ((by rw [hg];exact (qao (by repeat (with_reducible first|exact HB.out|apply qab|apply qaa|apply qac))) : w.heap.size ≤ gb212));have n3_ := Aside0.mk ((by rw [hg];exact (qao (by repeat (with_reducible first|exact HB.out|apply qab|apply qaa|apply qac))) : w.heap.size ≤ gb212));clear HB;have HB := n0_;have BK212 := n1_;have GW212 := n2_;have GE212 := n3_;clear n0_ n1_ n2_ n3_;clear hb hbox hg;have hcz7_0 : w6.cell? ⟨gb212,0,none⟩ = some (.int .i64 0) := (qae BK212.out 0).trans rfl;have hcz7_1 : w6.cell? ⟨gb212,1,none⟩ = some (.string (⟨#[]⟩ : ByteArray)) := (qae BK212.out 1).trans rfl;have hcz7_2 : w6.cell? ⟨gb212,2,none⟩ = some (.string (⟨#[]⟩ : ByteArray)) := (qae BK212.out 2).trans rfl;have hfz7_0 := qad BK212.out 0;have hfz7_1 := qad BK212.out 1;have hfz7_2 := qad BK212.out 2)|(go_at_call 120;(with_reducible refine (version_Print.calls k t208 t209 t210 t213 _ (by first|exact hG|exact GL.below hG (by repeat (first|(with_reducible first|exact HB.out|apply qab|apply qaa|apply qac|refine qaf ?_ GE212.out)|exact HB.out)))  A4.out).mono ?_);rintro e w8 ⟨rfl,hb⟩;have n0_ := Aside0.mk (qaq (g := gb212) (o := .cells #[.int .i64 t208,.string t209,.string t210] 128 (0,0)) (by (with_reducible repeat (first|refine qah ?_ _|refine qai ?_|refine qag ?_ _));refine blk_put (cs := #[.int .i64 t208,.string t209,.string (⟨#[]⟩ : ByteArray)]) ?_ 2 _ rfl;(with_reducible repeat (first|refine qah ?_ _|refine qai ?_|refine qag ?_ _));refine blk_put (cs := #[.int .i64 t208,.string (⟨#[]⟩ : ByteArray),.string (⟨#[]⟩ : ByteArray)]) ?_ 1 _ rfl;(with_reducible repeat (first|refine qah ?_ _|refine qai ?_|refine qag ?_ _));refine blk_put (cs := #[.int .i64 0,.string (⟨#[]⟩ : ByteArray),.string (⟨#[]⟩ : ByteArray)]) ?_ 0 _ rfl;(with_reducible repeat (first|refine qah ?_ _|refine qai ?_|refine qag ?_ _));exact BK212.out) hb);have n1_ := Aside0.mk (qan (by repeat (first|(with_reducible first|exact HB.out|apply qab|apply qaa|apply qac|refine qaf ?_ GE212.out)|exact HB.out)) hb);clear BK212;clear HB;have BK212 := n0_;have HB := n1_;clear n0_ n1_;(try clear hb);(try clear hb2);(try clear hk);(try clear hi)))
  go_ret
  exact ⟨by first|rfl|(simp [qaj,qak]<;>rfl)|(simp [*,qaj,qak]<;>rfl),by repeat (first|(with_reducible first|exact HB.out|apply qab|apply qaa|apply qac|refine qaf ?_ GE212.out)|exact HB.out)⟩
 ·rw [if_neg c3] at H
  have c3b0 : (t211 == 0) = false := beq_eq_false_iff_ne.mpr c3
  have c3b1 : (t211 != 0) = true := bne_iff_ne.mpr c3
  obtain rfl := Option.some.inj H
  go_enter Tryz.func124,Tryz.ntmps124
  go_wp2_with (first|((with_reducible refine qal (f := 115) rfl ?_);refine goesL_ (some 7) rfl rfl Tryz.func115 (by kernel_rfl) rfl #[.string a0] rfl (by first|rfl|(simp only [List.map_toArray,List.map_cons,List.map_nil,List.length_drop,List.length_take];rfl)|simp only [List.map_toArray,List.map_cons,List.map_nil]) ?_;(with_reducible refine (version_Parse.calls k a0 t208 t209 t210 t211 _ (by first|exact hG|exact GL.below hG (by repeat (with_reducible first|exact HB.out|apply qab|apply qaa|apply qac)))  A2.out).mono ?_);rintro e w9 ⟨rfl,hb⟩;refine ⟨_,rfl,?_⟩;have n0_ := Aside0.mk (qan (by repeat (with_reducible first|exact HB.out|apply qab|apply qaa|apply qac)) hb);clear HB;have HB := n0_;clear n0_;(try clear hb);(try clear hb2);(try clear hk);(try clear hi))|((with_reducible refine gate_dst (N := 3) rfl ?_);refine box_event ?hg (N := 3) ?hd (cs := #[.int .i64 0,.string (⟨#[]⟩ : ByteArray),.string (⟨#[]⟩ : ByteArray)]) (t := 128) ?hr ?_;(case hd => rfl);(case hg => rfl);(case hr => first|(go_simp;done)|(go_simp;rfl));intro gb212 hg w10 hbox hb;have n0_ := Aside0.mk (qan (by repeat (with_reducible first|exact HB.out|apply qab|apply qaa|apply qac)) hb);have n1_ := Aside0.mk (hbox);have n2_ := Aside0.mk ((by rw [hg];exact (qao (by repeat (with_reducible first|exact HB.out|apply qab|apply qaa|apply qac))) : w.heap.size ≤ gb212));have n3_ := Aside0.mk ((by rw [hg];exact (qao (by repeat (with_reducible first|exact HB.out|apply qab|apply qaa|apply qac))) : w.heap.size ≤ gb212));clear HB;have HB := n0_;have BK212 := n1_;have GW212 := n2_;have GE212 := n3_;clear n0_ n1_ n2_ n3_;clear hb hbox hg;have hcz11_0 : w10.cell? ⟨gb212,0,none⟩ = some (.int .i64 0) := (qae BK212.out 0).trans rfl;have hcz11_1 : w10.cell? ⟨gb212,1,none⟩ = some (.string (⟨#[]⟩ : ByteArray)) := (qae BK212.out 1).trans rfl;have hcz11_2 : w10.cell? ⟨gb212,2,none⟩ = some (.string (⟨#[]⟩ : ByteArray)) := (qae BK212.out 2).trans rfl;have hfz11_0 := qad BK212.out 0;have hfz11_1 := qad BK212.out 1;have hfz11_2 := qad BK212.out 2))
  go_ret
  exact ⟨by first|rfl|(simp [qaj,qak]<;>rfl)|(simp [*,qaj,qak]<;>rfl),by repeat (first|(with_reducible first|exact HB.out|apply qab|apply qaa|apply qac|refine qaf ?_ GE212.out)|exact HB.out)⟩
def relation_Right.j0 : Nat → Bool → ByteArray → Int → ByteArray → Option (Bool)
 | 0,_,_,_,_ => none
 | k + 1,x3,x215000,x215001,x215002 => if x3 = true then (some false) else (if x215001 = 0 then (some (x215002.toList == ([] : List UInt8))) else ((relation_plain.f k x215002).bind fun t216 => (some t216)))
def relation_Right.f (k : Nat) (a0_0 : ByteArray) (a0_1 : Int) (a0_2 : ByteArray) : Option (Bool) := (relation_Name.f k a0_0).bind fun t215 => (if t215 = true then (if a0_1 < 0 then (relation_Right.j0 k true a0_0 a0_1 a0_2) else (relation_Right.j0 k (decide (a0_1 > 5)) a0_0 a0_1 a0_2)) else (relation_Right.j0 k true a0_0 a0_1 a0_2))
theorem relation_Right.mono_l : ∀ k,(∀ y0 y1 y2 y3,LeO (relation_Right.j0 k y0 y1 y2 y3) (relation_Right.j0 (k + 1) y0 y1 y2 y3))
 | 0 => fun _ _ _ _ r h => by simp [relation_Right.j0] at h
 | k + 1 => by
  have ih0 := relation_Right.mono_l k
  ·intro y0 y1 y2 y3
   unfold relation_Right.j0
   repeat' first
   | (with_reducible exact ih0 _ _ _ _)
   | (with_reducible exact relation_Name.mono _ _)
   | (with_reducible exact relation_plain.mono _ _)
   | (with_reducible exact LeO.refl _)
   | (with_reducible exact LeO.none _)
   | (with_reducible refine LeO.ite ?_ ?_)
   | (with_reducible refine LeO.bind ?_ (fun _ => ?_))
   | exact ih0 _ _ _ _
   | exact relation_Name.mono _ _
   | exact relation_plain.mono _ _
   | exact LeO.none _
   | refine LeO.ite ?_ ?_
   | refine LeO.bind ?_ (fun _ => ?_)
theorem relation_Right.mono : ∀ a0 a1 a2 k,LeO (relation_Right.f k a0 a1 a2) (relation_Right.f (k + 1) a0 a1 a2) := by
 intro a0 a1 a2 k
 have ih0 := relation_Right.mono_l k
 unfold relation_Right.f
 repeat' first
   | (with_reducible exact ih0 _ _ _ _)
   | (with_reducible exact relation_Name.mono _ _)
   | (with_reducible exact relation_plain.mono _ _)
   | (with_reducible exact LeO.refl _)
   | (with_reducible exact LeO.none _)
   | (with_reducible refine LeO.ite ?_ ?_)
   | (with_reducible refine LeO.bind ?_ (fun _ => ?_))
   | exact ih0 _ _ _ _
   | exact relation_Name.mono _ _
   | exact relation_plain.mono _ _
   | exact LeO.none _
   | refine LeO.ite ?_ ?_
   | refine LeO.bind ?_ (fun _ => ?_)
theorem relation_Right.calls (k : Nat) (a0_0 : ByteArray) (a0_1 : Int) (a0_2 : ByteArray) (r : Bool) (w : World) (hG : GL w) (h : relation_Right.f k a0_0 a0_1 a0_2 = some r) :
  Calls Tryz.prog 62 #[.agg #[.string a0_0,.int .i64 a0_1,.string a0_2]] w fun e w' => e = .returned (.bool r) ∧ Below w.heap.size w w' := by
 have hu27 := Tryz.underlying27
 have HB := Aside0.mk (Below.refl w.heap.size w)
 have H : ((relation_Name.f k a0_0).bind fun t215 => (if t215 = true then (if a0_1 < 0 then (relation_Right.j0 k true a0_0 a0_1 a0_2) else (relation_Right.j0 k (decide (a0_1 > 5)) a0_0 a0_1 a0_2)) else (relation_Right.j0 k true a0_0 a0_1 a0_2))) = some r := h
 clear h
 have HC2 := Aside0.mk H
 clear H
 go_enter Tryz.func62,Tryz.ntmps62
 go_upto_region 1 with (first|((with_reducible refine gate_dst (N := 1) rfl ?_);refine box_event ?hg (N := 1) ?hd (cs := #[.string a0_0,.int .i64 a0_1,.string a0_2]) (t := 27) ?hr ?_;(case hd => rfl);(case hg => rfl);(case hr => first|(go_simp;done)|(go_simp;rfl));intro gb214 hg w3 hbox hb;have n0_ := Aside0.mk (qan (by repeat (with_reducible first|exact HB.out|apply qab|apply qaa|apply qac)) hb);have n1_ := Aside0.mk (hbox);have n2_ := Aside0.mk ((by rw [hg];exact (qao (by repeat (with_reducible first|exact HB.out|apply qab|apply qaa|apply qac))) : w.heap.size ≤ gb214));have n3_ := Aside0.mk ((by rw [hg];exact (qao (by repeat (with_reducible first|exact HB.out|apply qab|apply qaa|apply qac))) : w.heap.size ≤ gb214));clear HB;have HB := n0_;have BK214 := n1_;have GW214 := n2_;have GE214 := n3_;clear n0_ n1_ n2_ n3_;clear hb hbox hg))
 (try simp only [Act.put,List.setIfInBounds_toArray,List.set_cons_zero,List.set_cons_succ])
 go_cut [3] (fun v3 wc => ∃ (kq : Nat) (x3_1 : Bool),v3 = .bool x3_1 ∧ Aside0 (relation_Right.j0 kq x3_1 a0_0 a0_1 a0_2 = some r) ∧ Aside0 (kq ≤ k) ∧ Aside0 (wc.heap[gb214]? = some (.cells #[.string a0_0,.int .i64 a0_1,.string a0_2] 27 (0,0))) ∧ Aside0 (Below w.heap.size w wc))
 case first =>
  have H := HC2.out
  clear HC2
  replace H := Option.bind_eq_some_iff.mp H
  obtain ⟨t215,A40,H⟩ := H
  replace H : (if t215 = true then (if a0_1 < 0 then (relation_Right.j0 k true a0_0 a0_1 a0_2) else (relation_Right.j0 k (decide (a0_1 > 5)) a0_0 a0_1 a0_2)) else (relation_Right.j0 k true a0_0 a0_1 a0_2)) = some r := H
  have A4 := Aside0.mk A40
  clear A40
  by_cases c5 : t215 = true
  ·subst c5
   have H1 : (if a0_1 < 0 then (relation_Right.j0 k true a0_0 a0_1 a0_2) else (relation_Right.j0 k (decide (a0_1 > 5)) a0_0 a0_1 a0_2)) = some r := by rw [if_pos rfl] at H;exact H
   clear H
   have H := H1
   clear H1
   by_cases c6 : a0_1 < 0
   ·rw [if_pos c6] at H
    have c6b0 : decide (a0_1 < 0) = true := decide_eq_true c6
    clear c6
    (first|rw [c6b0]|(simp only [i64_w,i32_w];rw [c6b0]) | skip)
    have H' := Aside0.mk H
    clear H
    have hcz7_0 : w3.cell? ⟨gb214,0,none⟩ = some (.string a0_0) := (qae BK214.out 0).trans rfl
    have hcz7_1 : w3.cell? ⟨gb214,1,none⟩ = some (.int .i64 a0_1) := (qae BK214.out 1).trans rfl
    have hcz7_2 : w3.cell? ⟨gb214,2,none⟩ = some (.string a0_2) := (qae BK214.out 2).trans rfl
    have hfz7_0 := qad BK214.out 0
    have hfz7_1 := qad BK214.out 1
    have hfz7_2 := qad BK214.out 2
    go_wp2_with (first|((with_reducible refine qal (f := 58) rfl ?_);refine goesL_ (some 6) rfl rfl Tryz.func58 (by kernel_rfl) rfl #[.string a0_0] rfl (by first|rfl|(simp only [List.map_toArray,List.map_cons,List.map_nil,List.length_drop,List.length_take];rfl)|simp only [List.map_toArray,List.map_cons,List.map_nil]) ?_;(with_reducible refine (relation_Name.calls k a0_0 true _ (by first|exact hG|exact GL.below hG (by repeat (first|(with_reducible first|exact HB.out|apply qab|apply qaa|apply qac|refine qaf ?_ GE214.out)|exact HB.out)))  A4.out).mono ?_);rintro e w8 ⟨rfl,hb⟩;refine ⟨_,rfl,?_⟩;have n0_ := Aside0.mk (qaq (g := gb214) (o := .cells #[.string a0_0,.int .i64 a0_1,.string a0_2] 27 (0,0)) (by (with_reducible repeat (first|refine qah ?_ _|refine qai ?_|refine qag ?_ _));exact BK214.out) hb);have n1_ := Aside0.mk (qan (by repeat (first|(with_reducible first|exact HB.out|apply qab|apply qaa|apply qac|refine qaf ?_ GE214.out)|exact HB.out)) hb);clear BK214;clear HB;have BK214 := n0_;have HB := n1_;clear n0_ n1_;(try clear hb);(try clear hb2);(try clear hk);(try clear hi);have hcz9_0 : w8.cell? ⟨gb214,0,none⟩ = some (.string a0_0) := (qae BK214.out 0).trans rfl;have hcz9_1 : w8.cell? ⟨gb214,1,none⟩ = some (.int .i64 a0_1) := (qae BK214.out 1).trans rfl;have hcz9_2 : w8.cell? ⟨gb214,2,none⟩ = some (.string a0_2) := (qae BK214.out 2).trans rfl;have hfz9_0 := qad BK214.out 0;have hfz9_1 := qad BK214.out 1;have hfz9_2 := qad BK214.out 2))
    go_meet
    case rel => exact ⟨_,(true),(by first|rfl|(simp;done)|(simp [*];done)|(simp [qam];done)),H',⟨by first|omega|exact Nat.le_refl _⟩,⟨by (with_reducible repeat (first|refine qah ?_ _|refine qai ?_|refine qag ?_ _));exact BK214.out⟩,⟨by repeat (first|(with_reducible first|exact HB.out|apply qab|apply qaa|apply qac|refine qaf ?_ GE214.out)|exact HB.out)⟩⟩
   ·rw [if_neg c6] at H
    have c6b0 : decide (a0_1 < 0) = false := decide_eq_false c6
    clear c6
    (first|rw [c6b0]|(simp only [i64_w,i32_w];rw [c6b0]) | skip)
    have H' := Aside0.mk H
    clear H
    have hcz10_0 : w3.cell? ⟨gb214,0,none⟩ = some (.string a0_0) := (qae BK214.out 0).trans rfl
    have hcz10_1 : w3.cell? ⟨gb214,1,none⟩ = some (.int .i64 a0_1) := (qae BK214.out 1).trans rfl
    have hcz10_2 : w3.cell? ⟨gb214,2,none⟩ = some (.string a0_2) := (qae BK214.out 2).trans rfl
    have hfz10_0 := qad BK214.out 0
    have hfz10_1 := qad BK214.out 1
    have hfz10_2 := qad BK214.out 2
    go_wp2_with (first|((with_reducible refine qal (f := 58) rfl ?_);refine goesL_ (some 6) rfl rfl Tryz.func58 (by kernel_rfl) rfl #[.string a0_0] rfl (by first|rfl|(simp only [List.map_toArray,List.map_cons,List.map_nil,List.length_drop,List.length_take];rfl)|simp only [List.map_toArray,List.map_cons,List.map_nil]) ?_;(with_reducible refine (relation_Name.calls k a0_0 true _ (by first|exact hG|exact GL.below hG (by repeat (first|(with_reducible first|exact HB.out|apply qab|apply qaa|apply qac|refine qaf ?_ GE214.out)|exact HB.out)))  A4.out).mono ?_);rintro e w11 ⟨rfl,hb⟩;refine ⟨_,rfl,?_⟩;have n0_ := Aside0.mk (qaq (g := gb214) (o := .cells #[.string a0_0,.int .i64 a0_1,.string a0_2] 27 (0,0)) (by (with_reducible repeat (first|refine qah ?_ _|refine qai ?_|refine qag ?_ _));exact BK214.out) hb);have n1_ := Aside0.mk (qan (by repeat (first|(with_reducible first|exact HB.out|apply qab|apply qaa|apply qac|refine qaf ?_ GE214.out)|exact HB.out)) hb);clear BK214;clear HB;have BK214 := n0_;have HB := n1_;clear n0_ n1_;(try clear hb);(try clear hb2);(try clear hk);(try clear hi);have hcz12_0 : w11.cell? ⟨gb214,0,none⟩ = some (.string a0_0) := (qae BK214.out 0).trans rfl;have hcz12_1 : w11.cell? ⟨gb214,1,none⟩ = some (.int .i64 a0_1) := (qae BK214.out 1).trans rfl;have hcz12_2 : w11.cell? ⟨gb214,2,none⟩ = some (.string a0_2) := (qae BK214.out 2).trans rfl;have hfz12_0 := qad BK214.out 0;have hfz12_1 := qad BK214.out 1;have hfz12_2 := qad BK214.out 2))
    go_meet
    case rel => exact ⟨_,(decide (a0_1 > 5)),(by first|rfl|(simp;done)|(simp [*];done)|(simp [qam];done)),H',⟨by first|omega|exact Nat.le_refl _⟩,⟨by (with_reducible repeat (first|refine qah ?_ _|refine qai ?_|refine qag ?_ _));exact BK214.out⟩,⟨by repeat (first|(with_reducible first|exact HB.out|apply qab|apply qaa|apply qac|refine qaf ?_ GE214.out)|exact HB.out)⟩⟩
  ·replace c5 := Bool.eq_false_iff.mpr c5
   subst c5
   have H1 : (relation_Right.j0 k true a0_0 a0_1 a0_2) = some r := by rw [if_neg (show ¬ (false = true) by decide)] at H;exact H
   clear H
   have H := H1
   clear H1
   have H' := Aside0.mk H
   clear H
   have hcz13_0 : w3.cell? ⟨gb214,0,none⟩ = some (.string a0_0) := (qae BK214.out 0).trans rfl
   have hcz13_1 : w3.cell? ⟨gb214,1,none⟩ = some (.int .i64 a0_1) := (qae BK214.out 1).trans rfl
   have hcz13_2 : w3.cell? ⟨gb214,2,none⟩ = some (.string a0_2) := (qae BK214.out 2).trans rfl
   have hfz13_0 := qad BK214.out 0
   have hfz13_1 := qad BK214.out 1
   have hfz13_2 := qad BK214.out 2
   go_wp2_with (first|((with_reducible refine qal (f := 58) rfl ?_);refine goesL_ (some 6) rfl rfl Tryz.func58 (by kernel_rfl) rfl #[.string a0_0] rfl (by first|rfl|(simp only [List.map_toArray,List.map_cons,List.map_nil,List.length_drop,List.length_take];rfl)|simp only [List.map_toArray,List.map_cons,List.map_nil]) ?_;(with_reducible refine (relation_Name.calls k a0_0 false _ (by first|exact hG|exact GL.below hG (by repeat (first|(with_reducible first|exact HB.out|apply qab|apply qaa|apply qac|refine qaf ?_ GE214.out)|exact HB.out)))  A4.out).mono ?_);rintro e w14 ⟨rfl,hb⟩;refine ⟨_,rfl,?_⟩;have n0_ := Aside0.mk (qaq (g := gb214) (o := .cells #[.string a0_0,.int .i64 a0_1,.string a0_2] 27 (0,0)) (by (with_reducible repeat (first|refine qah ?_ _|refine qai ?_|refine qag ?_ _));exact BK214.out) hb);have n1_ := Aside0.mk (qan (by repeat (first|(with_reducible first|exact HB.out|apply qab|apply qaa|apply qac|refine qaf ?_ GE214.out)|exact HB.out)) hb);clear BK214;clear HB;have BK214 := n0_;have HB := n1_;clear n0_ n1_;(try clear hb);(try clear hb2);(try clear hk);(try clear hi)))
   go_meet
   case rel => exact ⟨_,(true),(by first|rfl|(simp;done)|(simp [*];done)|(simp [qam];done)),H',⟨by first|omega|exact Nat.le_refl _⟩,⟨by (with_reducible repeat (first|refine qah ?_ _|refine qai ?_|refine qag ?_ _));exact BK214.out⟩,⟨by repeat (first|(with_reducible first|exact HB.out|apply qab|apply qaa|apply qac|refine qaf ?_ GE214.out)|exact HB.out)⟩⟩
 case rest =>
  clear HC2
  try clear p2
  try clear c5
  try clear c6
  try clear c6b0
  try clear hcz10_0
  try clear hcz10_1
  try clear hcz10_2
  try clear hcz12_0
  try clear hcz12_1
  try clear hcz12_2
  try clear hcz13_0
  try clear hcz13_1
  try clear hcz13_2
  try clear hcz7_0
  try clear hcz7_1
  try clear hcz7_2
  try clear hcz9_0
  try clear hcz9_1
  try clear hcz9_2
  try clear hfz10_0
  try clear hfz10_1
  try clear hfz10_2
  try clear hfz12_0
  try clear hfz12_1
  try clear hfz12_2
  try clear hfz13_0
  try clear hfz13_1
  try clear hfz13_2
  try clear hfz7_0
  try clear hfz7_1
  try clear hfz7_2
  try clear hfz9_0
  try clear hfz9_1
  try clear hfz9_2
  obtain ⟨kq,x3_1,rfl,HA,HJ1,BK214,HB⟩ := hcut
  cases kq with
  | zero => exact absurd HA.out (by simp [relation_Right.j0])
  | succ kj1 =>
   have H := HA.out
   clear HA
   simp only [relation_Right.j0] at H
   by_cases c15 : x3_1 = true
   ·subst c15
    have H1 : (some false) = some r := by rw [if_pos rfl] at H;exact H
    clear H
    have H := H1
    clear H1
    obtain rfl := Option.some.inj H
    go_wp2
    go_ret
    exact ⟨by first|rfl|(simp [qaj,qak]<;>rfl)|(simp [*,qaj,qak]<;>rfl),by repeat (first|(with_reducible first|exact HB.out|apply qab|apply qaa|apply qac|refine qaf ?_ GE214.out)|exact HB.out)⟩
   ·replace c15 := Bool.eq_false_iff.mpr c15
    subst c15
    have H1 : (if a0_1 = 0 then (some (a0_2.toList == ([] : List UInt8))) else ((relation_plain.f kj1 a0_2).bind fun t216 => (some t216))) = some r := by rw [if_neg (show ¬ (false = true) by decide)] at H;exact H
    clear H
    have H := H1
    clear H1
    by_cases c16 : a0_1 = 0
    ·rw [if_pos c16] at H
     have c16b0 : (a0_1 == 0) = true := beq_iff_eq.mpr c16
     have c16b1 : (a0_1 != 0) = false := bne_eq_false_iff_eq.mpr c16
     clear c16
     obtain rfl := Option.some.inj H
     have hcz17_0 : wc.cell? ⟨gb214,0,none⟩ = some (.string a0_0) := (qae BK214.out 0).trans rfl
     have hcz17_1 : wc.cell? ⟨gb214,1,none⟩ = some (.int .i64 a0_1) := (qae BK214.out 1).trans rfl
     have hcz17_2 : wc.cell? ⟨gb214,2,none⟩ = some (.string a0_2) := (qae BK214.out 2).trans rfl
     have hfz17_0 := qad BK214.out 0
     have hfz17_1 := qad BK214.out 1
     have hfz17_2 := qad BK214.out 2
     go_wp2
     go_ret
     exact ⟨by first|rfl|(simp [qaj,qak]<;>rfl)|(simp [*,qaj,qak]<;>rfl),by repeat (first|(with_reducible first|exact HB.out|apply qab|apply qaa|apply qac|refine qaf ?_ GE214.out)|exact HB.out)⟩
    ·rw [if_neg c16] at H
     have c16b0 : (a0_1 == 0) = false := beq_eq_false_iff_ne.mpr c16
     have c16b1 : (a0_1 != 0) = true := bne_iff_ne.mpr c16
     replace H := Option.bind_eq_some_iff.mp H
     obtain ⟨t216,A180,H⟩ := H
     replace H : (some t216) = some r := H
     have A18 := Aside0.mk A180
     clear A180
     obtain rfl := Option.some.inj H
     have hcz19_0 : wc.cell? ⟨gb214,0,none⟩ = some (.string a0_0) := (qae BK214.out 0).trans rfl
     have hcz19_1 : wc.cell? ⟨gb214,1,none⟩ = some (.int .i64 a0_1) := (qae BK214.out 1).trans rfl
     have hcz19_2 : wc.cell? ⟨gb214,2,none⟩ = some (.string a0_2) := (qae BK214.out 2).trans rfl
     have hfz19_0 := qad BK214.out 0
     have hfz19_1 := qad BK214.out 1
     have hfz19_2 := qad BK214.out 2
     go_wp2_with (first|((with_reducible refine qal (f := 124) rfl ?_);refine goesL_ (some 27) rfl rfl Tryz.func124 (by kernel_rfl) rfl #[.string a0_2] rfl (by first|rfl|(simp only [List.map_toArray,List.map_cons,List.map_nil,List.length_drop,List.length_take];rfl)|simp only [List.map_toArray,List.map_cons,List.map_nil]) ?_;(with_reducible refine (relation_plain.calls kj1 a0_2 t216 _ (by first|exact hG|exact GL.below hG (by repeat (first|(with_reducible first|exact HB.out|apply qab|apply qaa|apply qac|refine qaf ?_ GE214.out)|exact HB.out)))  A18.out).mono ?_);rintro e w20 ⟨rfl,hb⟩;refine ⟨_,rfl,?_⟩;have n0_ := Aside0.mk (qaq (g := gb214) (o := .cells #[.string a0_0,.int .i64 a0_1,.string a0_2] 27 (0,0)) (by (with_reducible repeat (first|refine qah ?_ _|refine qai ?_|refine qag ?_ _));exact BK214.out) hb);have n1_ := Aside0.mk (qan (by repeat (first|(with_reducible first|exact HB.out|apply qab|apply qaa|apply qac|refine qaf ?_ GE214.out)|exact HB.out)) hb);clear BK214;clear HB;have BK214 := n0_;have HB := n1_;clear n0_ n1_;(try clear hb);(try clear hb2);(try clear hk);(try clear hi)))
     go_ret
     exact ⟨by first|rfl|(simp [qaj,qak]<;>rfl)|(simp [*,qaj,qak]<;>rfl),by repeat (first|(with_reducible first|exact HB.out|apply qab|apply qaa|apply qac|refine qaf ?_ GE214.out)|exact HB.out)⟩
def depends_Right_1.f (k : Nat) (a0_0 : ByteArray) (a0_1 : Int) (a0_2 : ByteArray) : Option (Bool) := (relation_Right.f k a0_0 a0_1 a0_2).bind fun t218 => (some (!t218))
theorem depends_Right_1.mono : ∀ a0 a1 a2 k,LeO (depends_Right_1.f k a0 a1 a2) (depends_Right_1.f (k + 1) a0 a1 a2) := by
 intro a0 a1 a2 k
 unfold depends_Right_1.f
 repeat' first
   | (with_reducible exact relation_Right.mono _ _ _ _)
   | (with_reducible exact LeO.refl _)
   | (with_reducible exact LeO.none _)
   | (with_reducible refine LeO.ite ?_ ?_)
   | (with_reducible refine LeO.bind ?_ (fun _ => ?_))
   | exact relation_Right.mono _ _ _ _
   | exact LeO.none _
   | refine LeO.ite ?_ ?_
   | refine LeO.bind ?_ (fun _ => ?_)
theorem depends_Right_1.calls (k : Nat) (a0_0 : ByteArray) (a0_1 : Int) (a0_2 : ByteArray) (r : Bool) (w : World) (hG : GL w) (h : depends_Right_1.f k a0_0 a0_1 a0_2 = some r) :
  Calls Tryz.prog 122 #[.agg #[.string a0_0,.int .i64 a0_1,.string a0_2]] w fun e w' => e = .returned (.bool r) ∧ Below w.heap.size w w' := by
 have hu27 := Tryz.underlying27
 have HB := Aside0.mk (Below.refl w.heap.size w)
 have H : ((relation_Right.f k a0_0 a0_1 a0_2).bind fun t218 => (some (!t218))) = some r := h
 clear h
 replace H := Option.bind_eq_some_iff.mp H
 obtain ⟨t218,A20,H⟩ := H
 replace H : (some (!t218)) = some r := H
 have A2 := Aside0.mk A20
 clear A20
 obtain rfl := Option.some.inj H
 go_enter Tryz.func122,Tryz.ntmps122
 go_wp2_with (first|((with_reducible refine gate_dst (N := 1) rfl ?_);refine box_event ?hg (N := 1) ?hd (cs := #[.string a0_0,.int .i64 a0_1,.string a0_2]) (t := 27) ?hr ?_;(case hd => rfl);(case hg => rfl);(case hr => first|(go_simp;done)|(go_simp;rfl));intro gb217 hg w3 hbox hb;have n0_ := Aside0.mk (qan (by repeat (with_reducible first|exact HB.out|apply qab|apply qaa|apply qac)) hb);have n1_ := Aside0.mk (hbox);have n2_ := Aside0.mk ((by rw [hg];exact (qao (by repeat (with_reducible first|exact HB.out|apply qab|apply qaa|apply qac))) : w.heap.size ≤ gb217));have n3_ := Aside0.mk ((by rw [hg];exact (qao (by repeat (with_reducible first|exact HB.out|apply qab|apply qaa|apply qac))) : w.heap.size ≤ gb217));clear HB;have HB := n0_;have BK217 := n1_;have GW217 := n2_;have GE217 := n3_;clear n0_ n1_ n2_ n3_;clear hb hbox hg;have hcz4_0 : w3.cell? ⟨gb217,0,none⟩ = some (.string a0_0) := (qae BK217.out 0).trans rfl;have hcz4_1 : w3.cell? ⟨gb217,1,none⟩ = some (.int .i64 a0_1) := (qae BK217.out 1).trans rfl;have hcz4_2 : w3.cell? ⟨gb217,2,none⟩ = some (.string a0_2) := (qae BK217.out 2).trans rfl;have hfz4_0 := qad BK217.out 0;have hfz4_1 := qad BK217.out 1;have hfz4_2 := qad BK217.out 2)|((with_reducible refine qal (f := 62) rfl ?_);refine goesL_ (some 4) rfl rfl Tryz.func62 (by kernel_rfl) rfl #[.agg #[.string a0_0,.int .i64 a0_1,.string a0_2]] rfl (by first|rfl|(simp only [List.map_toArray,List.map_cons,List.map_nil,List.length_drop,List.length_take];rfl)|simp only [List.map_toArray,List.map_cons,List.map_nil]) ?_;(with_reducible refine (relation_Right.calls k a0_0 a0_1 a0_2 t218 _ (by first|exact hG|exact GL.below hG (by repeat (first|(with_reducible first|exact HB.out|apply qab|apply qaa|apply qac|refine qaf ?_ GE217.out)|exact HB.out)))  A2.out).mono ?_);rintro e w5 ⟨rfl,hb⟩;refine ⟨_,rfl,?_⟩;have n0_ := Aside0.mk (qaq (g := gb217) (o := .cells #[.string a0_0,.int .i64 a0_1,.string a0_2] 27 (0,0)) (by (with_reducible repeat (first|refine qah ?_ _|refine qai ?_|refine qag ?_ _));exact BK217.out) hb);have n1_ := Aside0.mk (qan (by repeat (first|(with_reducible first|exact HB.out|apply qab|apply qaa|apply qac|refine qaf ?_ GE217.out)|exact HB.out)) hb);clear BK217;clear HB;have BK217 := n0_;have HB := n1_;clear n0_ n1_;(try clear hb);(try clear hb2);(try clear hk);(try clear hi)))
 go_ret
 exact ⟨by first|rfl|(simp [qaj,qak]<;>rfl)|(simp [*,qaj,qak]<;>rfl),by repeat (first|(with_reducible first|exact HB.out|apply qab|apply qaa|apply qac|refine qaf ?_ GE217.out)|exact HB.out)⟩
end Go.Proofs.YtooomjcdlfdnmaaGreatDoor.PA
