
import Derived.Test.YtiidmjmkgjfaeaaGreatDoorPAx0
namespace Go.Proofs.YtiidmjmkgjfaeaaGreatDoor.PA
open Go.RowKit Go.Proofs.YtiidmjmkgjfaeaaGreatDoorW.PrintWords Go.Proofs.YtiidmjmkgjfaeaaGreatDoorW.PrintLast Go.Proofs.YtiidmjmkgjfaeaaGreatDoorW.PrintMore
attribute [local go_sem] max2_int min2_int max_two min_two max_three min_three max_four min_four
set_option maxHeartbeats 8000000
set_option maxRecDepth 100000
set_option linter.unusedVariables false
set_option linter.unusedSimpArgs false
def relation_Name_1.f (a0 : Int) : Option (Bool) := (strings_IndexByte.f (⟨#[97,98,99,100,101,102,103,104,105,106,107,108,109,110,111,112,113,114,115,116,117,118,119,120,121,122,48,49,50,51,52,53,54,55,56,57,43,45,46]⟩ : ByteArray) a0).bind fun t101 => (some (decide (t101 < 0)))
theorem relation_Name_1.calls (a0 : Int) (r : Bool) (w : World) (hG : GL w) (h : relation_Name_1.f a0 = some r) :
  Calls Tryz.prog 107 #[.int .u8 a0] w fun e w' => e = .returned (.bool r) ∧ Drawn0 w w' := by
 have H : ((strings_IndexByte.f (⟨#[97,98,99,100,101,102,103,104,105,106,107,108,109,110,111,112,113,114,115,116,117,118,119,120,121,122,48,49,50,51,52,53,54,55,56,57,43,45,46]⟩ : ByteArray) a0).bind fun t101 => (some (decide (t101 < 0)))) = some r := h
 clear h
 replace H := Option.bind_eq_some_iff.mp H
 obtain ⟨t101,A20,H⟩ := H
 replace H : (some (decide (t101 < 0))) = some r := H
 have A2 := Aside0.mk A20
 clear A20
 obtain rfl := Option.some.inj H
 go_enter Tryz.func107,Tryz.ntmps107
 go_wp2_with (first|((with_reducible refine qal (f := 105) rfl ?_);refine goesL_ (some 4) rfl rfl Tryz.func105 (by kernel_rfl) rfl #[.string (⟨#[97,98,99,100,101,102,103,104,105,106,107,108,109,110,111,112,113,114,115,116,117,118,119,120,121,122,48,49,50,51,52,53,54,55,56,57,43,45,46]⟩ : ByteArray),.int .u8 a0] rfl (by first|rfl|(simp only [List.map_toArray,List.map_cons,List.map_nil,List.length_drop,List.length_take];rfl)|simp only [List.map_toArray,List.map_cons,List.map_nil]) ?_;(with_reducible refine (strings_IndexByte.calls (⟨#[97,98,99,100,101,102,103,104,105,106,107,108,109,110,111,112,113,114,115,116,117,118,119,120,121,122,48,49,50,51,52,53,54,55,56,57,43,45,46]⟩ : ByteArray) a0 t101 _ (by first|exact hG|(repeat (first|exact hG|apply GL.drewN|apply GL.drew)))  A2.out).mono ?_);rintro e w' ⟨rfl,⟨nd,rfl⟩⟩;refine ⟨_,rfl,?_⟩))
 go_ret
 exact ⟨by first|rfl|(simp;done)|(simp [*];done)|(simp [qam];done),by repeat (first|exact Drawn0.refl _|apply Drawn0.step)⟩
def slices_IndexFunc_byte_byte_107.l0 : Nat → List Int → Int → Int → Option (Int)
 | 0,_,_,_ => none
 | k + 1,x0,x7,x8 => if x8 < x7 then (if 0 ≤ x8 then (if x8 < (x0.length : Int) then ((relation_Name_1.f (rd x0 x8)).bind fun t103 => (if t103 = true then (some x8) else (slices_IndexFunc_byte_byte_107.l0 k x0 x7 (wrap64 (x8 + 1))))) else (none)) else (none)) else (some (-1))
def slices_IndexFunc_byte_byte_107.f (k : Nat) (l0 : List Int) (a1 : Nat) : Option (Int) := slices_IndexFunc_byte_byte_107.l0 k l0 (l0.length : Int) 0
theorem slices_IndexFunc_byte_byte_107.mono_l : ∀ k,(∀ y0 y1 y2,LeO (slices_IndexFunc_byte_byte_107.l0 k y0 y1 y2) (slices_IndexFunc_byte_byte_107.l0 (k + 1) y0 y1 y2))
 | 0 => fun _ _ _ r h => by simp [slices_IndexFunc_byte_byte_107.l0] at h
 | k + 1 => by
  have ih0 := slices_IndexFunc_byte_byte_107.mono_l k
  ·intro y0 y1 y2
   unfold slices_IndexFunc_byte_byte_107.l0
   repeat' first
   | (with_reducible exact ih0 _ _ _)
   | (with_reducible exact LeO.refl _)
   | (with_reducible exact LeO.none _)
   | (with_reducible refine LeO.ite ?_ ?_)
   | (with_reducible refine LeO.bind ?_ (fun _ => ?_))
theorem slices_IndexFunc_byte_byte_107.mono : ∀ a0 a1 k,LeO (slices_IndexFunc_byte_byte_107.f k a0 a1) (slices_IndexFunc_byte_byte_107.f (k + 1) a0 a1) := by
 intro a0 a1 k
 have ih0 := slices_IndexFunc_byte_byte_107.mono_l k
 unfold slices_IndexFunc_byte_byte_107.f
 repeat' first
   | (with_reducible exact ih0 _ _ _)
   | (with_reducible exact LeO.refl _)
   | (with_reducible exact LeO.none _)
   | (with_reducible refine LeO.ite ?_ ?_)
   | (with_reducible refine LeO.bind ?_ (fun _ => ?_))
theorem slices_IndexFunc_byte_byte_107.calls (k : Nat) (A0 : Option Addr) (c0 : Nat) (l0 : List Int) (a1 : Nat) (r : Int) (w : World) (hG : GL w) (hr0 : Kd.C (Kd.int .u8) w A0 l0.length l0) (hc0 : l0.length ≤ c0) (h : slices_IndexFunc_byte_byte_107.f k l0 a1 = some r) :
  Calls Tryz.prog 141 #[.slice A0 l0.length c0,.func (.func 107) #[] #[]] w fun e w' => e = .returned (.int .i64 r) ∧ Drawn0 w w' := by
 have HR0 := Aside0.mk hr0
 have HC0 := Aside0.mk hc0
 clear hr0 hc0
 have H : (slices_IndexFunc_byte_byte_107.l0 k l0 (l0.length : Int) 0) = some r := h
 clear h
 have H' := Aside0.mk H
 clear H
 go_enter Tryz.func141,Tryz.ntmps141
 go_wp2
 go_loopg [8] k (fun kq v8 w' => ∃ (x8_1 : Int),v8 = .int .i64 x8_1 ∧ Aside0 (slices_IndexFunc_byte_byte_107.l0 kq l0 (l0.length : Int) x8_1 = some r) ∧ Aside0 (kq ≤ k) ∧ Drawn0 w w')
 case atStart => exact ⟨(0),(by first|rfl|(simp;done)|(simp [*];done)|(simp [qam];done)),H',⟨Nat.le_refl _⟩,by repeat (first|exact Drawn0.refl _|apply Drawn0.step)⟩
 case round =>
  clear H'
  try clear p2
  obtain ⟨x8_1,rfl,HA,HK1,⟨m1,rfl⟩⟩ := hrel
  cases gk with
  | zero => exact absurd HA.out (by simp [slices_IndexFunc_byte_byte_107.l0])
  | succ k1 =>
   have H := HA.out
   clear HA
   simp only [slices_IndexFunc_byte_byte_107.l0] at H
   by_cases c3 : x8_1 < (l0.length : Int)
   ·rw [if_pos c3] at H
    have c3b0 : decide (x8_1 < (l0.length : Int)) = true := decide_eq_true c3
    clear c3
    by_cases c4 : 0 ≤ x8_1
    ·rw [if_pos c4] at H
     have c4b0 : decide (0 ≤ x8_1) = true := decide_eq_true c4
     clear c4
     by_cases c5 : x8_1 < (l0.length : Int)
     ·rw [if_pos c5] at H
      have c5b0 : decide (x8_1 < (l0.length : Int)) = true := decide_eq_true c5
      clear c5
      replace H := Option.bind_eq_some_iff.mp H
      obtain ⟨t103,A60,H⟩ := H
      replace H : (if t103 = true then (some x8_1) else (slices_IndexFunc_byte_byte_107.l0 k1 l0 (l0.length : Int) (wrap64 (x8_1 + 1)))) = some r := H
      have A6 := Aside0.mk A60
      clear A60
      by_cases c7 : t103 = true
      ·subst c7
       have H1 : (some x8_1) = some r := by rw [if_pos rfl] at H;exact H
       clear H
       have H := H1
       clear H1
       obtain rfl := Option.some.inj H
       have p102 : 0 ≤ (x8_1 : Int) := of_decide_eq_true (by assumption)
       have q102 : x8_1 < (l0.length : Int) := of_decide_eq_true (by assumption)
       obtain ⟨ad102,e102,hx102_0⟩ := Kd.at_int HR0.out x8_1 p102 q102
       cases e102
       replace p102 := eq_true p102
       replace q102 := eq_true q102
       go_wp2_with (first|(go_at_call 107;(with_reducible refine (relation_Name_1.calls (rd l0 x8_1) true _ (by first|exact hG|(repeat (first|exact hG|apply GL.drewN|apply GL.drew)))  A6.out).mono ?_);rintro e w' ⟨rfl,⟨nd,rfl⟩⟩))
       go_ret
       exact ⟨by first|rfl|(simp;done)|(simp [*];done)|(simp [qam];done),by repeat (first|exact Drawn0.refl _|apply Drawn0.step)⟩
      ·replace c7 := Bool.eq_false_iff.mpr c7
       subst c7
       have H1 : (slices_IndexFunc_byte_byte_107.l0 k1 l0 (l0.length : Int) (wrap64 (x8_1 + 1))) = some r := by rw [if_neg (show ¬ (false = true) by decide)] at H;exact H
       clear H
       have H := H1
       clear H1
       have H' := Aside0.mk H
       clear H
       have p102 : 0 ≤ (x8_1 : Int) := of_decide_eq_true (by assumption)
       have q102 : x8_1 < (l0.length : Int) := of_decide_eq_true (by assumption)
       obtain ⟨ad102,e102,hx102_0⟩ := Kd.at_int HR0.out x8_1 p102 q102
       cases e102
       replace p102 := eq_true p102
       replace q102 := eq_true q102
       go_wp2_with (first|(go_at_call 107;(with_reducible refine (relation_Name_1.calls (rd l0 x8_1) false _ (by first|exact hG|(repeat (first|exact hG|apply GL.drewN|apply GL.drew)))  A6.out).mono ?_);rintro e w' ⟨rfl,⟨nd,rfl⟩⟩))
       go_roundg k1
       case measure => have := HK1.out;omega
       case rel => exact ⟨(wrap64 (x8_1 + 1)),(by first|rfl|(simp;done)|(simp [*];done)|(simp [qam];done)),H',⟨by have := HK1.out;omega⟩,by repeat (first|exact Drawn0.refl _|apply Drawn0.step)⟩
     ·rw [if_neg c5] at H
      exact absurd H (by simp)
    ·rw [if_neg c4] at H
     exact absurd H (by simp)
   ·rw [if_neg c3] at H
    have c3b0 : decide (x8_1 < (l0.length : Int)) = false := decide_eq_false c3
    clear c3
    obtain rfl := Option.some.inj H
    go_wp2
    go_ret
    exact ⟨by first|rfl|(simp;done)|(simp [*];done)|(simp [qam];done),by repeat (first|exact Drawn0.refl _|apply Drawn0.step)⟩
def slices_ContainsFunc_byte_byte_107.f (k : Nat) (l0 : List Int) (a1 : Nat) : Option (Bool) := (slices_IndexFunc_byte_byte_107.f k l0 a1).bind fun t104 => (some (decide (t104 ≥ 0)))
theorem slices_ContainsFunc_byte_byte_107.mono : ∀ a0 a1 k,LeO (slices_ContainsFunc_byte_byte_107.f k a0 a1) (slices_ContainsFunc_byte_byte_107.f (k + 1) a0 a1) := by
 intro a0 a1 k
 unfold slices_ContainsFunc_byte_byte_107.f
 repeat' first
   | (with_reducible exact slices_IndexFunc_byte_byte_107.mono _ _ _)
   | (with_reducible exact LeO.refl _)
   | (with_reducible exact LeO.none _)
   | (with_reducible refine LeO.ite ?_ ?_)
   | (with_reducible refine LeO.bind ?_ (fun _ => ?_))
theorem slices_ContainsFunc_byte_byte_107.calls (k : Nat) (A0 : Option Addr) (c0 : Nat) (l0 : List Int) (a1 : Nat) (r : Bool) (w : World) (hG : GL w) (hr0 : Kd.C (Kd.int .u8) w A0 l0.length l0) (hc0 : l0.length ≤ c0) (h : slices_ContainsFunc_byte_byte_107.f k l0 a1 = some r) :
  Calls Tryz.prog 106 #[.slice A0 l0.length c0,.func (.func 107) #[] #[]] w fun e w' => e = .returned (.bool r) ∧ Drawn0 w w' := by
 have HR0 := Aside0.mk hr0
 have HC0 := Aside0.mk hc0
 clear hr0 hc0
 have H : ((slices_IndexFunc_byte_byte_107.f k l0 a1).bind fun t104 => (some (decide (t104 ≥ 0)))) = some r := h
 clear h
 replace H := Option.bind_eq_some_iff.mp H
 obtain ⟨t104,A30,H⟩ := H
 replace H : (some (decide (t104 ≥ 0))) = some r := H
 have A3 := Aside0.mk A30
 clear A30
 obtain rfl := Option.some.inj H
 go_enter Tryz.func106,Tryz.ntmps106
 go_wp2_with (first|((with_reducible refine qal (f := 141) rfl ?_);refine goesL_ (some 7) rfl rfl Tryz.func141 (by kernel_rfl) rfl #[.slice A0 l0.length c0,.func (.func 107) #[] #[]] rfl (by first|rfl|(simp only [List.map_toArray,List.map_cons,List.map_nil,List.length_drop,List.length_take];rfl)|simp only [List.map_toArray,List.map_cons,List.map_nil]) ?_;(with_reducible refine (slices_IndexFunc_byte_byte_107.calls k _ _ l0 a1 t104 _ (by first|exact hG|(repeat (first|exact hG|apply GL.drewN|apply GL.drew)))  ?side1 ?side2 A3.out).mono ?_);(case side1 => repeat (first|exact HR0.out|(with_reducible refine Kd.C_alloc ?_ _)|(with_reducible refine Kd.C_drewN ?_ _)|(with_reducible refine Kd.C_drew ?_)));(case side2 => exact HC0.out);rintro e w' ⟨rfl,⟨nd,rfl⟩⟩;refine ⟨_,rfl,?_⟩))
 go_ret
 exact ⟨by first|rfl|(simp;done)|(simp [*];done)|(simp [qam];done),by repeat (first|exact Drawn0.refl _|apply Drawn0.step)⟩
def relation_Name.f (k : Nat) (a0 : ByteArray) : Option (Bool) := if 2 ≤ (a0.size : Int) then (if (a0.size : Int) ≤ 40 then ((strings_IndexByte.f (⟨#[97,98,99,100,101,102,103,104,105,106,107,108,109,110,111,112,113,114,115,116,117,118,119,120,121,122,48,49,50,51,52,53,54,55,56,57]⟩ : ByteArray) (bt a0 0)).bind fun t => if 0 ≤ t then ((slices_ContainsFunc_byte_byte_107.f k (bytesOf a0) 0).bind fun c => some (!c)) else some false) else some false) else some false
theorem relation_Name.mono : ∀ a0 k,LeO (relation_Name.f k a0) (relation_Name.f (k + 1) a0) := by
 intro a0 k
 unfold relation_Name.f
 repeat' first
   | (with_reducible exact slices_ContainsFunc_byte_byte_107.mono _ _ _)
   | (with_reducible exact LeO.refl _)
   | (with_reducible refine LeO.ite ?_ ?_)
   | (with_reducible refine LeO.bind ?_ (fun _ => ?_))
set_option maxHeartbeats 1000000 in
theorem relation_Name.calls (k : Nat) (a0 : ByteArray) (r : Bool) (w : World) (hG : GL w) (h : relation_Name.f k a0 = some r) :
  Calls Tryz.prog 76 #[.string a0] w fun e w' => e = .returned (.bool r) ∧ Below w.heap.size w w' := by
 have HB := Aside0.mk (Below.refl w.heap.size w)
 unfold relation_Name.f at h
 by_cases c1 : 2 ≤ (a0.size : Int)
 ·rw [if_pos c1] at h
  have b1 : decide (2 ≤ (a0.size : Int)) = true := decide_eq_true c1
  have b1' : decide ((0 : Int) < (a0.size : Int)) = true := decide_eq_true (by omega)
  have b1'' : 0 < a0.size := by omega
  have hx0 : ((a0[0]'b1'').toNat : Int) = bt a0 0 := bt_at a0 0 b1''
  by_cases c2 : (a0.size : Int) ≤ 40
  ·rw [if_pos c2] at h
   have b2 : decide ((a0.size : Int) ≤ 40) = true := decide_eq_true c2
   replace h := Option.bind_eq_some_iff.mp h
   obtain ⟨t,hti,h⟩ := h
   have A1 := Aside0.mk hti
   clear hti
   by_cases c3 : 0 ≤ t
   ·have h1 : ((slices_ContainsFunc_byte_byte_107.f k (bytesOf a0) 0).bind fun c => some (!c)) = some r := by rw [if_pos c3] at h;exact h
    clear h
    have b3 : decide (0 ≤ t) = true := decide_eq_true c3
    replace h1 := Option.bind_eq_some_iff.mp h1
    obtain ⟨c,hc,h1⟩ := h1
    have A2 := Aside0.mk hc
    clear hc c1 c2 c3
    obtain rfl := Option.some.inj h1
    have kb : ∀ W : World,(convert 9 116 (.string a0)).run Tryz.prog W = .ok (.slice (some ⟨W.heap.size,0,none⟩) a0.size (grownCap W a0.size 0 5)) (Lib.bytesWorld W 5 a0) := fun W => print_bytes 9 116 5 Tryz.underlying9 Tryz.underlying116 Tryz.underlying5 a0 W
    have hBW : ∀ n : Nat,Below w.heap.size w (Lib.bytesWorld (w.drewN n) 5 a0) := fun n => by
     have h1 : Below w.heap.size w (w.drewN n) := Drawn0.below ⟨⟨n,rfl⟩⟩
     exact bytes_below h1 h1.size 5 a0
    have hKW : ∀ n : Nat,Kd.C (Kd.int .u8) (Lib.bytesWorld (w.drewN n) 5 a0) (some ⟨(w.drewN n).heap.size,0,none⟩) a0.size (bytesOf a0) := fun n =>
     Kd.C_of_reads (enc := Value.int .u8) (d := (0 : Int)) (h1 := fun _ => rfl) (bytes_reads (w.drewN n) 5 a0 (by have := of_decide_eq_true b2;omega))
    have CC : ∀ (W : World) (A0 : Option Addr) (c0 : Nat),GL W → Kd.C (Kd.int .u8) W A0 a0.size (bytesOf a0) → a0.size ≤ c0 → Calls Tryz.prog 106 #[.slice A0 a0.size c0,.func (.func 107) #[] #[]] W fun e w' => e = .returned (.bool c) ∧ Drawn0 W w' := by
     intro W A0 c0 hg hr hc
     have := slices_ContainsFunc_byte_byte_107.calls k A0 c0 (bytesOf a0) 0 c W hg (by rw [bytesOf_length];exact hr) (by rw [bytesOf_length];exact hc) A2.out
     rw [bytesOf_length] at this
     exact this
    go_enter Tryz.func76,Tryz.ntmps76
    go_wp2_with (first|(go_at_call 105;go_loud (refine calls_of_args (args' := #[.string (⟨#[97,98,99,100,101,102,103,104,105,106,107,108,109,110,111,112,113,114,115,116,117,118,119,120,121,122,48,49,50,51,52,53,54,55,56,57]⟩ : ByteArray),.int .u8 (bt a0 0)]) (by first|rfl | rw [hx0]) ?_;(with_reducible refine (strings_IndexByte.calls _ _ t _ hG A1.out).mono ?_);rintro e w' ⟨rfl,⟨nd,rfl⟩⟩))|(go_at_call 106;go_loud (refine (CC _ _ _ ?g ?k ?c).mono ?_);(case g => exact hG.below (hBW nd));(case k => exact hKW nd);(case c => exact grownCap_ge _ _ _ _);rintro e w' ⟨rfl,⟨nd,rfl⟩⟩))
    go_ret
    exact ⟨by first|rfl|(simp;done),by first|exact qan (hBW _) (Drawn0.below ⟨⟨_,rfl⟩⟩)⟩
   ·have h1 : some false = some r := by rw [if_neg c3] at h;exact h
    clear h
    have b3 : decide (0 ≤ t) = false := decide_eq_false c3
    clear c1 c2 c3
    obtain rfl := Option.some.inj h1
    go_enter Tryz.func76,Tryz.ntmps76
    go_wp2_with (first|(go_at_call 105;(refine calls_of_args (args' := #[.string (⟨#[97,98,99,100,101,102,103,104,105,106,107,108,109,110,111,112,113,114,115,116,117,118,119,120,121,122,48,49,50,51,52,53,54,55,56,57]⟩ : ByteArray),.int .u8 (bt a0 0)]) (by first|rfl | rw [hx0]) ?_;(with_reducible refine (strings_IndexByte.calls _ _ t _ hG A1.out).mono ?_);rintro e w' ⟨rfl,⟨nd,rfl⟩⟩)))
    go_ret
    exact ⟨by first|rfl|(simp;done),Drawn0.below ⟨⟨_,rfl⟩⟩⟩
  ·have h1 : some false = some r := by rw [if_neg c2] at h;exact h
   clear h
   have b2 : decide ((a0.size : Int) ≤ 40) = false := decide_eq_false c2
   clear c1 c2
   obtain rfl := Option.some.inj h1
   go_enter Tryz.func76,Tryz.ntmps76
   go_wp2
   go_ret
   exact ⟨by first|rfl|(simp;done),HB.out⟩
 ·have h1 : some false = some r := by rw [if_neg c1] at h;exact h
  clear h
  have b1 : decide (2 ≤ (a0.size : Int)) = false := decide_eq_false c1
  clear c1
  obtain rfl := Option.some.inj h1
  go_enter Tryz.func76,Tryz.ntmps76
  go_wp2
  go_ret
  exact ⟨by first|rfl|(simp;done),HB.out⟩
def version_text.f (a0_0 : Int) (a0_1 : ByteArray) (a0_2 : ByteArray) : Option (ByteArray) := if a0_0 = 0 then (if a0_2.toList = ([] : List UInt8) then (some a0_1) else (if 1 + a0_2.size ≤ 9223372036854775807 then (if a0_1.size + ((⟨#[45]⟩ : ByteArray) ++ a0_2).size ≤ 9223372036854775807 then (some (a0_1 ++ ((⟨#[45]⟩ : ByteArray) ++ a0_2))) else (none)) else (none))) else ((strconv_Itoa.f a0_0).bind fun t106 => (if t106.size + 1 ≤ 9223372036854775807 then (if (t106 ++ (⟨#[58]⟩ : ByteArray)).size + a0_1.size ≤ 9223372036854775807 then (if a0_2.toList = ([] : List UInt8) then (some ((t106 ++ (⟨#[58]⟩ : ByteArray)) ++ a0_1)) else (if 1 + a0_2.size ≤ 9223372036854775807 then (if ((t106 ++ (⟨#[58]⟩ : ByteArray)) ++ a0_1).size + ((⟨#[45]⟩ : ByteArray) ++ a0_2).size ≤ 9223372036854775807 then (some (((t106 ++ (⟨#[58]⟩ : ByteArray)) ++ a0_1) ++ ((⟨#[45]⟩ : ByteArray) ++ a0_2))) else (none)) else (none))) else (none)) else (none)))
theorem version_text.calls (a0_0 : Int) (a0_1 : ByteArray) (a0_2 : ByteArray) (r : ByteArray) (w : World) (hG : GL w) (h : version_text.f a0_0 a0_1 a0_2 = some r) :
  Calls Tryz.prog 142 #[.agg #[.int .i64 a0_0,.string a0_1,.string a0_2]] w fun e w' => e = .returned (.string r) ∧ Below w.heap.size w w' := by
 have hu106 := Tryz.underlying106
 have HB := Aside0.mk (Below.refl w.heap.size w)
 have H : (if a0_0 = 0 then (if a0_2.toList = ([] : List UInt8) then (some a0_1) else (if 1 + a0_2.size ≤ 9223372036854775807 then (if a0_1.size + ((⟨#[45]⟩ : ByteArray) ++ a0_2).size ≤ 9223372036854775807 then (some (a0_1 ++ ((⟨#[45]⟩ : ByteArray) ++ a0_2))) else (none)) else (none))) else ((strconv_Itoa.f a0_0).bind fun t106 => (if t106.size + 1 ≤ 9223372036854775807 then (if (t106 ++ (⟨#[58]⟩ : ByteArray)).size + a0_1.size ≤ 9223372036854775807 then (if a0_2.toList = ([] : List UInt8) then (some ((t106 ++ (⟨#[58]⟩ : ByteArray)) ++ a0_1)) else (if 1 + a0_2.size ≤ 9223372036854775807 then (if ((t106 ++ (⟨#[58]⟩ : ByteArray)) ++ a0_1).size + ((⟨#[45]⟩ : ByteArray) ++ a0_2).size ≤ 9223372036854775807 then (some (((t106 ++ (⟨#[58]⟩ : ByteArray)) ++ a0_1) ++ ((⟨#[45]⟩ : ByteArray) ++ a0_2))) else (none)) else (none))) else (none)) else (none)))) = some r := h
 clear h
 by_cases c2 : a0_0 = 0
 ·rw [if_pos c2] at H
  have c2b0 : (a0_0 == 0) = true := beq_iff_eq.mpr c2
  have c2b1 : (a0_0 != 0) = false := bne_eq_false_iff_eq.mpr c2
  clear c2
  by_cases c3 : a0_2.toList = ([] : List UInt8)
  ·rw [if_pos c3] at H
   have c3b0 : (a0_2.toList == ([] : List UInt8)) = true := beq_iff_eq.mpr c3
   have c3b1 : (a0_2.toList != ([] : List UInt8)) = false := bne_eq_false_iff_eq.mpr c3
   clear c3
   obtain rfl := Option.some.inj H
   go_enter Tryz.func142,Tryz.ntmps142
   go_wp2_with (first|((with_reducible refine gate_dst (N := 1) rfl ?_);refine box_event ?hg (N := 1) ?hd (cs := #[.int .i64 a0_0,.string a0_1,.string a0_2]) (t := 106) ?hr ?_;(case hd => rfl);(case hg => rfl);(case hr => first|(go_simp;done)|(go_simp;rfl));intro gb105 hg w4 hbox hb;have n0_ := Aside0.mk (qan (by repeat (with_reducible first|exact HB.out|apply qab|apply qaa|apply qac)) hb);have n1_ := Aside0.mk (hbox);have n2_ := Aside0.mk ((by rw [hg];exact (qao (by repeat (with_reducible first|exact HB.out|apply qab|apply qaa|apply qac))) : w.heap.size ≤ gb105));have n3_ := Aside0.mk ((by rw [hg];exact (qao (by repeat (with_reducible first|exact HB.out|apply qab|apply qaa|apply qac))) : w.heap.size ≤ gb105));clear HB;have HB := n0_;have BK105 := n1_;have GW105 := n2_;have GE105 := n3_;clear n0_ n1_ n2_ n3_;clear hb hbox hg;have hcz5_0 : w4.cell? ⟨gb105,0,none⟩ = some (.int .i64 a0_0) := (qae BK105.out 0).trans rfl;have hcz5_1 : w4.cell? ⟨gb105,1,none⟩ = some (.string a0_1) := (qae BK105.out 1).trans rfl;have hcz5_2 : w4.cell? ⟨gb105,2,none⟩ = some (.string a0_2) := (qae BK105.out 2).trans rfl;have hfz5_0 := qad BK105.out 0;have hfz5_1 := qad BK105.out 1;have hfz5_2 := qad BK105.out 2))
   go_ret
   exact ⟨by first|rfl|(simp [qaj,qak]<;>rfl)|(simp [*,qaj,qak]<;>rfl),by repeat (first|(with_reducible first|exact HB.out|apply qab|apply qaa|apply qac|refine qaf ?_ GE105.out)|exact HB.out)⟩
  ·rw [if_neg c3] at H
   have c3b0 : (a0_2.toList == ([] : List UInt8)) = false := beq_eq_false_iff_ne.mpr c3
   have c3b1 : (a0_2.toList != ([] : List UInt8)) = true := bne_iff_ne.mpr c3
   by_cases c6 : 1 + a0_2.size ≤ 9223372036854775807
   ·rw [if_pos c6] at H
    have c6b0 := eq_true c6
    have c6b1 : decide (1 + a0_2.size ≤ 9223372036854775807) = true := decide_eq_true c6
    try have c6b2 : (9223372036854775807 < 1 + a0_2.size) = False := eq_false (Nat.not_lt.2 c6)
    by_cases c7 : a0_1.size + ((⟨#[45]⟩ : ByteArray) ++ a0_2).size ≤ 9223372036854775807
    ·rw [if_pos c7] at H
     have c7b0 := eq_true c7
     have c7b1 : decide (a0_1.size + ((⟨#[45]⟩ : ByteArray) ++ a0_2).size ≤ 9223372036854775807) = true := decide_eq_true c7
     try have c7b2 : (9223372036854775807 < a0_1.size + ((⟨#[45]⟩ : ByteArray) ++ a0_2).size) = False := eq_false (Nat.not_lt.2 c7)
     (try (have c7n := c7;simp only [ByteArray.size_append,size_of_lit,List.size_toArray,List.length_cons,List.length_nil,Nat.zero_add,Nat.reduceAdd] at c7n;have c7n1 := eq_false (Nat.not_lt.2 c7n)))
     obtain rfl := Option.some.inj H
     go_enter Tryz.func142,Tryz.ntmps142
     go_wp2_with (first|((with_reducible refine gate_dst (N := 1) rfl ?_);refine box_event ?hg (N := 1) ?hd (cs := #[.int .i64 a0_0,.string a0_1,.string a0_2]) (t := 106) ?hr ?_;(case hd => rfl);(case hg => rfl);(case hr => first|(go_simp;done)|(go_simp;rfl));intro gb105 hg w8 hbox hb;have n0_ := Aside0.mk (qan (by repeat (with_reducible first|exact HB.out|apply qab|apply qaa|apply qac)) hb);have n1_ := Aside0.mk (hbox);have n2_ := Aside0.mk ((by rw [hg];exact (qao (by repeat (with_reducible first|exact HB.out|apply qab|apply qaa|apply qac))) : w.heap.size ≤ gb105));have n3_ := Aside0.mk ((by rw [hg];exact (qao (by repeat (with_reducible first|exact HB.out|apply qab|apply qaa|apply qac))) : w.heap.size ≤ gb105));clear HB;have HB := n0_;have BK105 := n1_;have GW105 := n2_;have GE105 := n3_;clear n0_ n1_ n2_ n3_;clear hb hbox hg;have hcz9_0 : w8.cell? ⟨gb105,0,none⟩ = some (.int .i64 a0_0) := (qae BK105.out 0).trans rfl;have hcz9_1 : w8.cell? ⟨gb105,1,none⟩ = some (.string a0_1) := (qae BK105.out 1).trans rfl;have hcz9_2 : w8.cell? ⟨gb105,2,none⟩ = some (.string a0_2) := (qae BK105.out 2).trans rfl;have hfz9_0 := qad BK105.out 0;have hfz9_1 := qad BK105.out 1;have hfz9_2 := qad BK105.out 2))
     go_ret
     exact ⟨by first|rfl|(simp [qaj,qak]<;>rfl)|(simp [*,qaj,qak]<;>rfl),by repeat (first|(with_reducible first|exact HB.out|apply qab|apply qaa|apply qac|refine qaf ?_ GE105.out)|exact HB.out)⟩
    ·rw [if_neg c7] at H
     exact absurd H (by simp)
   ·rw [if_neg c6] at H
    exact absurd H (by simp)
 ·rw [if_neg c2] at H
  have c2b0 : (a0_0 == 0) = false := beq_eq_false_iff_ne.mpr c2
  have c2b1 : (a0_0 != 0) = true := bne_iff_ne.mpr c2
  replace H := Option.bind_eq_some_iff.mp H
  obtain ⟨t106,A100,H⟩ := H
  replace H : (if t106.size + 1 ≤ 9223372036854775807 then (if (t106 ++ (⟨#[58]⟩ : ByteArray)).size + a0_1.size ≤ 9223372036854775807 then (if a0_2.toList = ([] : List UInt8) then (some ((t106 ++ (⟨#[58]⟩ : ByteArray)) ++ a0_1)) else (if 1 + a0_2.size ≤ 9223372036854775807 then (if ((t106 ++ (⟨#[58]⟩ : ByteArray)) ++ a0_1).size + ((⟨#[45]⟩ : ByteArray) ++ a0_2).size ≤ 9223372036854775807 then (some (((t106 ++ (⟨#[58]⟩ : ByteArray)) ++ a0_1) ++ ((⟨#[45]⟩ : ByteArray) ++ a0_2))) else (none)) else (none))) else (none)) else (none)) = some r := H
  have A10 := Aside0.mk A100
  clear A100
  by_cases c11 : t106.size + 1 ≤ 9223372036854775807
  ·rw [if_pos c11] at H
   have c11b0 := eq_true c11
   have c11b1 : decide (t106.size + 1 ≤ 9223372036854775807) = true := decide_eq_true c11
   try have c11b2 : (9223372036854775807 < t106.size + 1) = False := eq_false (Nat.not_lt.2 c11)
   by_cases c12 : (t106 ++ (⟨#[58]⟩ : ByteArray)).size + a0_1.size ≤ 9223372036854775807
   ·rw [if_pos c12] at H
    have c12b0 := eq_true c12
    have c12b1 : decide ((t106 ++ (⟨#[58]⟩ : ByteArray)).size + a0_1.size ≤ 9223372036854775807) = true := decide_eq_true c12
    try have c12b2 : (9223372036854775807 < (t106 ++ (⟨#[58]⟩ : ByteArray)).size + a0_1.size) = False := eq_false (Nat.not_lt.2 c12)
    (try (have c12n := c12;simp only [ByteArray.size_append,size_of_lit,List.size_toArray,List.length_cons,List.length_nil,Nat.zero_add,Nat.reduceAdd] at c12n;have c12n1 := eq_false (Nat.not_lt.2 c12n)))
    by_cases c13 : a0_2.toList = ([] : List UInt8)
    ·rw [if_pos c13] at H
     have c13b0 : (a0_2.toList == ([] : List UInt8)) = true := beq_iff_eq.mpr c13
     have c13b1 : (a0_2.toList != ([] : List UInt8)) = false := bne_eq_false_iff_eq.mpr c13
     clear c13
     obtain rfl := Option.some.inj H
     go_enter Tryz.func142,Tryz.ntmps142
     go_wp2_with (first|((with_reducible refine gate_dst (N := 1) rfl ?_);refine box_event ?hg (N := 1) ?hd (cs := #[.int .i64 a0_0,.string a0_1,.string a0_2]) (t := 106) ?hr ?_;(case hd => rfl);(case hg => rfl);(case hr => first|(go_simp;done)|(go_simp;rfl));intro gb105 hg w14 hbox hb;have n0_ := Aside0.mk (qan (by repeat (with_reducible first|exact HB.out|apply qab|apply qaa|apply qac)) hb);have n1_ := Aside0.mk (hbox);have n2_ := Aside0.mk ((by rw [hg];exact (qao (by repeat (with_reducible first|exact HB.out|apply qab|apply qaa|apply qac))) : w.heap.size ≤ gb105));have n3_ := Aside0.mk ((by rw [hg];exact (qao (by repeat (with_reducible first|exact HB.out|apply qab|apply qaa|apply qac))) : w.heap.size ≤ gb105));clear HB;have HB := n0_;have BK105 := n1_;have GW105 := n2_;have GE105 := n3_;clear n0_ n1_ n2_ n3_;clear hb hbox hg;have hcz15_0 : w14.cell? ⟨gb105,0,none⟩ = some (.int .i64 a0_0) := (qae BK105.out 0).trans rfl;have hcz15_1 : w14.cell? ⟨gb105,1,none⟩ = some (.string a0_1) := (qae BK105.out 1).trans rfl;have hcz15_2 : w14.cell? ⟨gb105,2,none⟩ = some (.string a0_2) := (qae BK105.out 2).trans rfl;have hfz15_0 := qad BK105.out 0;have hfz15_1 := qad BK105.out 1;have hfz15_2 := qad BK105.out 2)|((with_reducible refine qal (f := 125) rfl ?_);refine goesL_ (some 11) rfl rfl Tryz.func125 (by kernel_rfl) rfl #[.int .i64 a0_0] rfl (by first|rfl|(simp only [List.map_toArray,List.map_cons,List.map_nil,List.length_drop,List.length_take];rfl)|simp only [List.map_toArray,List.map_cons,List.map_nil]) ?_;(with_reducible refine (strconv_Itoa.calls a0_0 t106 _ (by first|exact hG|exact GL.below hG (by repeat (first|(with_reducible first|exact HB.out|apply qab|apply qaa|apply qac|refine qaf ?_ GE105.out)|exact HB.out)))  A10.out).mono ?_);rintro e w16 ⟨rfl,hb⟩;refine ⟨_,rfl,?_⟩;have n0_ := Aside0.mk (qap (g := gb105) (o := .cells #[.int .i64 a0_0,.string a0_1,.string a0_2] 106 (0,0)) (by (with_reducible repeat (first|refine qah ?_ _|refine qai ?_|refine qag ?_ _));exact BK105.out) hb);have n1_ := Aside0.mk (qan (by repeat (first|(with_reducible first|exact HB.out|apply qab|apply qaa|apply qac|refine qaf ?_ GE105.out)|exact HB.out)) hb);clear BK105;clear HB;have BK105 := n0_;have HB := n1_;clear n0_ n1_;(try clear hb);(try clear hb2);(try clear hk);(try clear hi);have hcz17_0 : w16.cell? ⟨gb105,0,none⟩ = some (.int .i64 a0_0) := (qae BK105.out 0).trans rfl;have hcz17_1 : w16.cell? ⟨gb105,1,none⟩ = some (.string a0_1) := (qae BK105.out 1).trans rfl;have hcz17_2 : w16.cell? ⟨gb105,2,none⟩ = some (.string a0_2) := (qae BK105.out 2).trans rfl;have hfz17_0 := qad BK105.out 0;have hfz17_1 := qad BK105.out 1;have hfz17_2 := qad BK105.out 2))
     go_ret
     exact ⟨by first|rfl|(simp [qaj,qak]<;>rfl)|(simp [*,qaj,qak]<;>rfl),by repeat (first|(with_reducible first|exact HB.out|apply qab|apply qaa|apply qac|refine qaf ?_ GE105.out)|exact HB.out)⟩
    ·rw [if_neg c13] at H
     have c13b0 : (a0_2.toList == ([] : List UInt8)) = false := beq_eq_false_iff_ne.mpr c13
     have c13b1 : (a0_2.toList != ([] : List UInt8)) = true := bne_iff_ne.mpr c13
     by_cases c18 : 1 + a0_2.size ≤ 9223372036854775807
     ·rw [if_pos c18] at H
      have c18b0 := eq_true c18
      have c18b1 : decide (1 + a0_2.size ≤ 9223372036854775807) = true := decide_eq_true c18
      try have c18b2 : (9223372036854775807 < 1 + a0_2.size) = False := eq_false (Nat.not_lt.2 c18)
      by_cases c19 : ((t106 ++ (⟨#[58]⟩ : ByteArray)) ++ a0_1).size + ((⟨#[45]⟩ : ByteArray) ++ a0_2).size ≤ 9223372036854775807
      ·rw [if_pos c19] at H
       have c19b0 := eq_true c19
       have c19b1 : decide (((t106 ++ (⟨#[58]⟩ : ByteArray)) ++ a0_1).size + ((⟨#[45]⟩ : ByteArray) ++ a0_2).size ≤ 9223372036854775807) = true := decide_eq_true c19
       try have c19b2 : (9223372036854775807 < ((t106 ++ (⟨#[58]⟩ : ByteArray)) ++ a0_1).size + ((⟨#[45]⟩ : ByteArray) ++ a0_2).size) = False := eq_false (Nat.not_lt.2 c19)
       (try (have c19n := c19;simp only [ByteArray.size_append,size_of_lit,List.size_toArray,List.length_cons,List.length_nil,Nat.zero_add,Nat.reduceAdd] at c19n;have c19n1 := eq_false (Nat.not_lt.2 c19n)))
       obtain rfl := Option.some.inj H
       go_enter Tryz.func142,Tryz.ntmps142
       go_wp2_with (first|((with_reducible refine gate_dst (N := 1) rfl ?_);refine box_event ?hg (N := 1) ?hd (cs := #[.int .i64 a0_0,.string a0_1,.string a0_2]) (t := 106) ?hr ?_;(case hd => rfl);(case hg => rfl);(case hr => first|(go_simp;done)|(go_simp;rfl));intro gb105 hg w20 hbox hb;have n0_ := Aside0.mk (qan (by repeat (with_reducible first|exact HB.out|apply qab|apply qaa|apply qac)) hb);have n1_ := Aside0.mk (hbox);have n2_ := Aside0.mk ((by rw [hg];exact (qao (by repeat (with_reducible first|exact HB.out|apply qab|apply qaa|apply qac))) : w.heap.size ≤ gb105));have n3_ := Aside0.mk ((by rw [hg];exact (qao (by repeat (with_reducible first|exact HB.out|apply qab|apply qaa|apply qac))) : w.heap.size ≤ gb105));clear HB;have HB := n0_;have BK105 := n1_;have GW105 := n2_;have GE105 := n3_;clear n0_ n1_ n2_ n3_;clear hb hbox hg;have hcz21_0 : w20.cell? ⟨gb105,0,none⟩ = some (.int .i64 a0_0) := (qae BK105.out 0).trans rfl;have hcz21_1 : w20.cell? ⟨gb105,1,none⟩ = some (.string a0_1) := (qae BK105.out 1).trans rfl;have hcz21_2 : w20.cell? ⟨gb105,2,none⟩ = some (.string a0_2) := (qae BK105.out 2).trans rfl;have hfz21_0 := qad BK105.out 0;have hfz21_1 := qad BK105.out 1;have hfz21_2 := qad BK105.out 2)|((with_reducible refine qal (f := 125) rfl ?_);refine goesL_ (some 11) rfl rfl Tryz.func125 (by kernel_rfl) rfl #[.int .i64 a0_0] rfl (by first|rfl|(simp only [List.map_toArray,List.map_cons,List.map_nil,List.length_drop,List.length_take];rfl)|simp only [List.map_toArray,List.map_cons,List.map_nil]) ?_;(with_reducible refine (strconv_Itoa.calls a0_0 t106 _ (by first|exact hG|exact GL.below hG (by repeat (first|(with_reducible first|exact HB.out|apply qab|apply qaa|apply qac|refine qaf ?_ GE105.out)|exact HB.out)))  A10.out).mono ?_);rintro e w22 ⟨rfl,hb⟩;refine ⟨_,rfl,?_⟩;have n0_ := Aside0.mk (qap (g := gb105) (o := .cells #[.int .i64 a0_0,.string a0_1,.string a0_2] 106 (0,0)) (by (with_reducible repeat (first|refine qah ?_ _|refine qai ?_|refine qag ?_ _));exact BK105.out) hb);have n1_ := Aside0.mk (qan (by repeat (first|(with_reducible first|exact HB.out|apply qab|apply qaa|apply qac|refine qaf ?_ GE105.out)|exact HB.out)) hb);clear BK105;clear HB;have BK105 := n0_;have HB := n1_;clear n0_ n1_;(try clear hb);(try clear hb2);(try clear hk);(try clear hi);have hcz23_0 : w22.cell? ⟨gb105,0,none⟩ = some (.int .i64 a0_0) := (qae BK105.out 0).trans rfl;have hcz23_1 : w22.cell? ⟨gb105,1,none⟩ = some (.string a0_1) := (qae BK105.out 1).trans rfl;have hcz23_2 : w22.cell? ⟨gb105,2,none⟩ = some (.string a0_2) := (qae BK105.out 2).trans rfl;have hfz23_0 := qad BK105.out 0;have hfz23_1 := qad BK105.out 1;have hfz23_2 := qad BK105.out 2))
       go_ret
       exact ⟨by first|rfl|(simp [qaj,qak]<;>rfl)|(simp [*,qaj,qak]<;>rfl),by repeat (first|(with_reducible first|exact HB.out|apply qab|apply qaa|apply qac|refine qaf ?_ GE105.out)|exact HB.out)⟩
      ·rw [if_neg c19] at H
       exact absurd H (by simp)
     ·rw [if_neg c18] at H
      exact absurd H (by simp)
   ·rw [if_neg c12] at H
    exact absurd H (by simp)
  ·rw [if_neg c11] at H
   exact absurd H (by simp)
def version_digit.f (a0 : Int) : Option (Bool) := if a0 ≥ 48 then (some (decide (a0 ≤ 57))) else (some false)
theorem version_digit.calls (a0 : Int) (r : Bool) (w : World) (hG : GL w) (h : version_digit.f a0 = some r) :
  Calls Tryz.prog 156 #[.int .u8 a0] w fun e w' => e = .returned (.bool r) ∧ Drawn0 w w' := by
 have H : (if a0 ≥ 48 then (some (decide (a0 ≤ 57))) else (some false)) = some r := h
 clear h
 by_cases c2 : a0 ≥ 48
 ·rw [if_pos c2] at H
  have c2b0 : decide (48 ≤ a0) = true := decide_eq_true c2
  clear c2
  obtain rfl := Option.some.inj H
  go_enter Tryz.func156,Tryz.ntmps156
  go_wp2
  go_ret
  exact ⟨by first|rfl|(simp;done)|(simp [*];done)|(simp [qam];done),by repeat (first|exact Drawn0.refl _|apply Drawn0.step)⟩
 ·rw [if_neg c2] at H
  have c2b0 : decide (48 ≤ a0) = false := decide_eq_false c2
  clear c2
  obtain rfl := Option.some.inj H
  go_enter Tryz.func156,Tryz.ntmps156
  go_wp2
  go_ret
  exact ⟨by first|rfl|(simp;done)|(simp [*];done)|(simp [qam];done),by repeat (first|exact Drawn0.refl _|apply Drawn0.step)⟩
def version_only.l0 : Nat → ByteArray → ByteArray → Int → Int → Option (Bool)
 | 0,_,_,_,_ => none
 | k + 1,x0,x1,x7,x8 => if x8 < x7 then (if 0 ≤ x8 then (if x8 < (x0.size : Int) then ((strings_IndexByte.f x1 (bt x0 x8)).bind fun t107 => (if t107 < 0 then (some false) else (version_only.l0 k x0 x1 x7 (wrap64 (x8 + 1))))) else (none)) else (none)) else (some true)
def version_only.f (k : Nat) (a0 : ByteArray) (a1 : ByteArray) : Option (Bool) := version_only.l0 k a0 a1 (a0.size : Int) 0
theorem version_only.mono_l : ∀ k,(∀ y0 y1 y2 y3,LeO (version_only.l0 k y0 y1 y2 y3) (version_only.l0 (k + 1) y0 y1 y2 y3))
 | 0 => fun _ _ _ _ r h => by simp [version_only.l0] at h
 | k + 1 => by
  have ih0 := version_only.mono_l k
  ·intro y0 y1 y2 y3
   unfold version_only.l0
   repeat' first
   | (with_reducible exact ih0 _ _ _ _)
   | (with_reducible exact LeO.refl _)
   | (with_reducible exact LeO.none _)
   | (with_reducible refine LeO.ite ?_ ?_)
   | (with_reducible refine LeO.bind ?_ (fun _ => ?_))
theorem version_only.mono : ∀ a0 a1 k,LeO (version_only.f k a0 a1) (version_only.f (k + 1) a0 a1) := by
 intro a0 a1 k
 have ih0 := version_only.mono_l k
 unfold version_only.f
 repeat' first
   | (with_reducible exact ih0 _ _ _ _)
   | (with_reducible exact LeO.refl _)
   | (with_reducible exact LeO.none _)
   | (with_reducible refine LeO.ite ?_ ?_)
   | (with_reducible refine LeO.bind ?_ (fun _ => ?_))
theorem version_only.calls (k : Nat) (a0 : ByteArray) (a1 : ByteArray) (r : Bool) (w : World) (hG : GL w) (h : version_only.f k a0 a1 = some r) :
  Calls Tryz.prog 157 #[.string a0,.string a1] w fun e w' => e = .returned (.bool r) ∧ Drawn0 w w' := by
 have H : (version_only.l0 k a0 a1 (a0.size : Int) 0) = some r := h
 clear h
 have H' := Aside0.mk H
 clear H
 go_enter Tryz.func157,Tryz.ntmps157
 go_wp2
 go_loopg [8] k (fun kq v8 w' => ∃ (x8_1 : Int),v8 = .int .i64 x8_1 ∧ Aside0 (version_only.l0 kq a0 a1 (a0.size : Int) x8_1 = some r) ∧ Aside0 (kq ≤ k) ∧ Drawn0 w w')
 case atStart => exact ⟨(0),(by first|rfl|(simp;done)|(simp [*];done)|(simp [qam];done)),H',⟨Nat.le_refl _⟩,by repeat (first|exact Drawn0.refl _|apply Drawn0.step)⟩
 case round =>
  clear H'
  try clear c1
  try clear p2
  obtain ⟨x8_1,rfl,HA,HK1,⟨m1,rfl⟩⟩ := hrel
  cases gk with
  | zero => exact absurd HA.out (by simp [version_only.l0])
  | succ k1 =>
   have H := HA.out
   clear HA
   simp only [version_only.l0] at H
   by_cases c3 : x8_1 < (a0.size : Int)
   ·rw [if_pos c3] at H
    have c3b0 : decide (x8_1 < (a0.size : Int)) = true := decide_eq_true c3
    clear c3
    by_cases c4 : 0 ≤ x8_1
    ·rw [if_pos c4] at H
     have c4b0 : decide (0 ≤ x8_1) = true := decide_eq_true c4
     clear c4
     by_cases c5 : x8_1 < (a0.size : Int)
     ·rw [if_pos c5] at H
      have c5b0 : decide (x8_1 < (a0.size : Int)) = true := decide_eq_true c5
      clear c5
      replace H := Option.bind_eq_some_iff.mp H
      obtain ⟨t107,A70,H⟩ := H
      replace H : (if t107 < 0 then (some false) else (version_only.l0 k1 a0 a1 (a0.size : Int) (wrap64 (x8_1 + 1)))) = some r := H
      have A7 := Aside0.mk A70
      clear A70
      by_cases c8 : t107 < 0
      ·rw [if_pos c8] at H
       have c8b0 : decide (t107 < 0) = true := decide_eq_true c8
       clear c8
       obtain rfl := Option.some.inj H
       have p6 : 0 ≤ (x8_1 : Int) := of_decide_eq_true (by assumption)
       have q6 : x8_1 < (a0.size : Int) := of_decide_eq_true (by assumption)
       have hx6 := bt_at a0 x8_1
       replace p6 := eq_true p6
       replace q6 := eq_true q6
       go_wp2_with (first|((with_reducible refine qal (f := 105) rfl ?_);refine goesL_ (some 15) rfl rfl Tryz.func105 (by kernel_rfl) rfl #[.string a1,.int .u8 (bt a0 x8_1)] rfl (by first|rfl|(simp only [List.map_toArray,List.map_cons,List.map_nil,List.length_drop,List.length_take];rfl)|simp only [List.map_toArray,List.map_cons,List.map_nil]) ?_;(with_reducible refine (strings_IndexByte.calls a1 (bt a0 x8_1) t107 _ (by first|exact hG|(repeat (first|exact hG|apply GL.drewN|apply GL.drew)))  A7.out).mono ?_);rintro e w' ⟨rfl,⟨nd,rfl⟩⟩;refine ⟨_,rfl,?_⟩))
       go_ret
       exact ⟨by first|rfl|(simp;done)|(simp [*];done)|(simp [qam];done),by repeat (first|exact Drawn0.refl _|apply Drawn0.step)⟩
      ·rw [if_neg c8] at H
       have c8b0 : decide (t107 < 0) = false := decide_eq_false c8
       clear c8
       have H' := Aside0.mk H
       clear H
       have p6 : 0 ≤ (x8_1 : Int) := of_decide_eq_true (by assumption)
       have q6 : x8_1 < (a0.size : Int) := of_decide_eq_true (by assumption)
       have hx6 := bt_at a0 x8_1
       replace p6 := eq_true p6
       replace q6 := eq_true q6
       go_wp2_with (first|((with_reducible refine qal (f := 105) rfl ?_);refine goesL_ (some 15) rfl rfl Tryz.func105 (by kernel_rfl) rfl #[.string a1,.int .u8 (bt a0 x8_1)] rfl (by first|rfl|(simp only [List.map_toArray,List.map_cons,List.map_nil,List.length_drop,List.length_take];rfl)|simp only [List.map_toArray,List.map_cons,List.map_nil]) ?_;(with_reducible refine (strings_IndexByte.calls a1 (bt a0 x8_1) t107 _ (by first|exact hG|(repeat (first|exact hG|apply GL.drewN|apply GL.drew)))  A7.out).mono ?_);rintro e w' ⟨rfl,⟨nd,rfl⟩⟩;refine ⟨_,rfl,?_⟩))
       go_roundg k1
       case measure => have := HK1.out;omega
       case rel => exact ⟨(wrap64 (x8_1 + 1)),(by first|rfl|(simp;done)|(simp [*];done)|(simp [qam];done)),H',⟨by have := HK1.out;omega⟩,by repeat (first|exact Drawn0.refl _|apply Drawn0.step)⟩
     ·rw [if_neg c5] at H
      exact absurd H (by simp)
    ·rw [if_neg c4] at H
     exact absurd H (by simp)
   ·rw [if_neg c3] at H
    have c3b0 : decide (x8_1 < (a0.size : Int)) = false := decide_eq_false c3
    clear c3
    obtain rfl := Option.some.inj H
    go_wp2
    go_ret
    exact ⟨by first|rfl|(simp;done)|(simp [*];done)|(simp [qam];done),by repeat (first|exact Drawn0.refl _|apply Drawn0.step)⟩
end Go.Proofs.YtiidmjmkgjfaeaaGreatDoor.PA
