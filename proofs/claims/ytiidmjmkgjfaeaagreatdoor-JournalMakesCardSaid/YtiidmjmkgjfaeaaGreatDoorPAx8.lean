
import Derived.Test.YtiidmjmkgjfaeaaGreatDoorPAx0
import Derived.Test.YtiidmjmkgjfaeaaGreatDoorPAx2
import Derived.Test.YtiidmjmkgjfaeaaGreatDoorPAx7
namespace Go.Proofs.YtiidmjmkgjfaeaaGreatDoor.PA
open Go.RowKit Go.Proofs.YtiidmjmkgjfaeaaGreatDoorW.PrintWords Go.Proofs.YtiidmjmkgjfaeaaGreatDoorW.PrintLast Go.Proofs.YtiidmjmkgjfaeaaGreatDoorW.PrintMore
attribute [local go_sem] max2_int min2_int max_two min_two max_three min_three max_four min_four
set_option maxHeartbeats 8000000
set_option maxRecDepth 100000
set_option linter.unusedVariables false
set_option linter.unusedSimpArgs false
def version_part_156.l0 : Nat → ByteArray → Int → Option (ByteArray × ByteArray)
 | 0,_,_ => none
 | k + 1,x0,x6 => if x6 < (x0.size : Int) then (if 0 ≤ x6 then ((version_digit.f (bt x0 x6)).bind fun t232 => (if t232 = true then (version_part_156.l0 k x0 (wrap64 (x6 + 1))) else (if x6 ≤ (x0.size : Int) then (some (x0.extract 0 (x6 : Int).toNat,x0.extract (x6 : Int).toNat x0.size)) else (none)))) else (none)) else (if 0 ≤ x6 then (if x6 ≤ (x0.size : Int) then (some (x0.extract 0 (x6 : Int).toNat,x0.extract (x6 : Int).toNat x0.size)) else (none)) else (none))
def version_part_156.f (k : Nat) (a0 : ByteArray) (a1 : Nat) : Option (ByteArray × ByteArray) := version_part_156.l0 k a0 0
theorem version_part_156.mono_l : ∀ k,(∀ y0 y1,LeO (version_part_156.l0 k y0 y1) (version_part_156.l0 (k + 1) y0 y1))
 | 0 => fun _ _ r h => by simp [version_part_156.l0] at h
 | k + 1 => by
  have ih0 := version_part_156.mono_l k
  ·intro y0 y1
   unfold version_part_156.l0
   repeat' first
   | (with_reducible exact ih0 _ _)
   | (with_reducible exact LeO.refl _)
   | (with_reducible exact LeO.none _)
   | (with_reducible refine LeO.ite ?_ ?_)
   | (with_reducible refine LeO.bind ?_ (fun _ => ?_))
theorem version_part_156.mono : ∀ a0 a1 k,LeO (version_part_156.f k a0 a1) (version_part_156.f (k + 1) a0 a1) := by
 intro a0 a1 k
 have ih0 := version_part_156.mono_l k
 unfold version_part_156.f
 repeat' first
   | (with_reducible exact ih0 _ _)
   | (with_reducible exact LeO.refl _)
   | (with_reducible exact LeO.none _)
   | (with_reducible refine LeO.ite ?_ ?_)
   | (with_reducible refine LeO.bind ?_ (fun _ => ?_))
theorem version_part_156.calls (k : Nat) (a0 : ByteArray) (a1 : Nat) (r1 : ByteArray) (r2 : ByteArray) (w : World) (hG : GL w) (h : version_part_156.f k a0 a1 = some (r1,r2)) :
  Calls Tryz.prog 160 #[.string a0,.func (.func 156) #[] #[]] w fun e w' => e = .returned (.tuple #[.string r1,.string r2]) ∧ Drawn0 w w' := by
 have H : (version_part_156.l0 k a0 0) = some (r1,r2) := h
 clear h
 have H' := Aside0.mk H
 clear H
 go_enter Tryz.func160,Tryz.ntmps160
 go_wp2
 repeat (go_quiet (fail);try go_wp2)
 go_loopg [6] k (fun kq v6 w' => ∃ (x6_1 : Int),v6 = .int .i64 x6_1 ∧ Aside0 (version_part_156.l0 kq a0 x6_1 = some (r1,r2)) ∧ Aside0 (kq ≤ k) ∧ Drawn0 w w')
 case atStart => exact ⟨(0),(by first|rfl|(simp;done)|(simp [*];done)|(simp [qam];done)),H',⟨Nat.le_refl _⟩,by repeat (first|exact Drawn0.refl _|apply Drawn0.step)⟩
 case round =>
  clear H'
  try clear p2
  obtain ⟨x6_1,rfl,HA,HK1,⟨m1,rfl⟩⟩ := hrel
  cases gk with
  | zero => exact absurd HA.out (by simp [version_part_156.l0])
  | succ k1 =>
   have H := HA.out
   clear HA
   simp only [version_part_156.l0] at H
   by_cases c3 : x6_1 < (a0.size : Int)
   ·rw [if_pos c3] at H
    have c3b0 : decide (x6_1 < (a0.size : Int)) = true := decide_eq_true c3
    clear c3
    by_cases c4 : 0 ≤ x6_1
    ·rw [if_pos c4] at H
     have c4b0 : decide (0 ≤ x6_1) = true := decide_eq_true c4
     clear c4
     replace H := Option.bind_eq_some_iff.mp H
     obtain ⟨t232,A60,H⟩ := H
     replace H : (if t232 = true then (version_part_156.l0 k1 a0 (wrap64 (x6_1 + 1))) else (if x6_1 ≤ (a0.size : Int) then (some (a0.extract 0 (x6_1 : Int).toNat,a0.extract (x6_1 : Int).toNat a0.size)) else (none))) = some (r1,r2) := H
     have A6 := Aside0.mk A60
     clear A60
     by_cases c7 : t232 = true
     ·subst c7
      have H1 : (version_part_156.l0 k1 a0 (wrap64 (x6_1 + 1))) = some (r1,r2) := by rw [if_pos rfl] at H;exact H
      clear H
      have H := H1
      clear H1
      have H' := Aside0.mk H
      clear H
      have p5 : 0 ≤ (x6_1 : Int) := of_decide_eq_true (by assumption)
      have q5 : x6_1 < (a0.size : Int) := of_decide_eq_true (by assumption)
      have hx5 := bt_at a0 x6_1
      replace p5 := eq_true p5
      replace q5 := eq_true q5
      go_wp2_with (first|(go_at_call 156;(with_reducible refine (version_digit.calls (bt a0 x6_1) true _ (by first|exact hG|(repeat (first|exact hG|apply GL.drewN|apply GL.drew)))  A6.out).mono ?_);rintro e w' ⟨rfl,⟨nd,rfl⟩⟩;(try first|exact ⟨rfl,_,World.drewN_drewN _ _ _⟩|exact ⟨rfl,_,Eq.trans (World.drewN_drewN _ _ _) (congrArg (World.drewN _) (Nat.add_assoc _ _ _))⟩)))
      repeat (go_quiet (first|(go_at_call 156;(with_reducible refine (version_digit.calls (bt a0 x6_1) true _ (by first|exact hG|(repeat (first|exact hG|apply GL.drewN|apply GL.drew)))  A6.out).mono ?_);rintro e w' ⟨rfl,⟨nd,rfl⟩⟩;(try first|exact ⟨rfl,_,World.drewN_drewN _ _ _⟩|exact ⟨rfl,_,Eq.trans (World.drewN_drewN _ _ _) (congrArg (World.drewN _) (Nat.add_assoc _ _ _))⟩)));try go_wp2_with (first|(go_at_call 156;(with_reducible refine (version_digit.calls (bt a0 x6_1) true _ (by first|exact hG|(repeat (first|exact hG|apply GL.drewN|apply GL.drew)))  A6.out).mono ?_);rintro e w' ⟨rfl,⟨nd,rfl⟩⟩;(try first|exact ⟨rfl,_,World.drewN_drewN _ _ _⟩|exact ⟨rfl,_,Eq.trans (World.drewN_drewN _ _ _) (congrArg (World.drewN _) (Nat.add_assoc _ _ _))⟩))))
      go_roundg k1
      case measure => have := HK1.out;omega
      case rel => exact ⟨(wrap64 (x6_1 + 1)),(by first|rfl|(simp;done)|(simp [*];done)|(simp [qam];done)),H',⟨by have := HK1.out;omega⟩,by repeat (first|exact Drawn0.refl _|apply Drawn0.step)⟩
     ·replace c7 := Bool.eq_false_iff.mpr c7
      subst c7
      have H1 : (if x6_1 ≤ (a0.size : Int) then (some (a0.extract 0 (x6_1 : Int).toNat,a0.extract (x6_1 : Int).toNat a0.size)) else (none)) = some (r1,r2) := by rw [if_neg (show ¬ (false = true) by decide)] at H;exact H
      clear H
      have H := H1
      clear H1
      have c8b0 := eq_true (of_decide_eq_true (by assumption) : 0 ≤ x6_1)
      by_cases c9 : x6_1 ≤ (a0.size : Int)
      ·rw [if_pos c9] at H
       have c9b0 := eq_true c9
       have c9b1 : decide (x6_1 ≤ (a0.size : Int)) = true := decide_eq_true c9
       clear c9
       have c10b0 := eq_true (of_decide_eq_true (by assumption) : 0 ≤ x6_1)
       have c11b0 := eq_true (of_decide_eq_true (by assumption) : x6_1 ≤ (a0.size : Int))
       simp only [Option.some.injEq,Prod.mk.injEq] at H
       obtain ⟨rfl,rfl⟩ := H
       have p5 : 0 ≤ (x6_1 : Int) := of_decide_eq_true (by assumption)
       have q5 : x6_1 < (a0.size : Int) := of_decide_eq_true (by assumption)
       have hx5 := bt_at a0 x6_1
       replace p5 := eq_true p5
       replace q5 := eq_true q5
       go_wp2_with (first|(go_at_call 156;(with_reducible refine (version_digit.calls (bt a0 x6_1) false _ (by first|exact hG|(repeat (first|exact hG|apply GL.drewN|apply GL.drew)))  A6.out).mono ?_);rintro e w' ⟨rfl,⟨nd,rfl⟩⟩;(try first|exact ⟨rfl,_,World.drewN_drewN _ _ _⟩|exact ⟨rfl,_,Eq.trans (World.drewN_drewN _ _ _) (congrArg (World.drewN _) (Nat.add_assoc _ _ _))⟩)))
       repeat (go_quiet (first|(go_at_call 156;(with_reducible refine (version_digit.calls (bt a0 x6_1) false _ (by first|exact hG|(repeat (first|exact hG|apply GL.drewN|apply GL.drew)))  A6.out).mono ?_);rintro e w' ⟨rfl,⟨nd,rfl⟩⟩;(try first|exact ⟨rfl,_,World.drewN_drewN _ _ _⟩|exact ⟨rfl,_,Eq.trans (World.drewN_drewN _ _ _) (congrArg (World.drewN _) (Nat.add_assoc _ _ _))⟩)));try go_wp2_with (first|(go_at_call 156;(with_reducible refine (version_digit.calls (bt a0 x6_1) false _ (by first|exact hG|(repeat (first|exact hG|apply GL.drewN|apply GL.drew)))  A6.out).mono ?_);rintro e w' ⟨rfl,⟨nd,rfl⟩⟩;(try first|exact ⟨rfl,_,World.drewN_drewN _ _ _⟩|exact ⟨rfl,_,Eq.trans (World.drewN_drewN _ _ _) (congrArg (World.drewN _) (Nat.add_assoc _ _ _))⟩))))
       go_ret2
       exact ⟨by first|rfl|(simp;done)|(simp [*];done)|(simp [qam];done),by repeat (first|exact Drawn0.refl _|apply Drawn0.step)⟩
      ·rw [if_neg c9] at H
       exact absurd H (by simp)
    ·rw [if_neg c4] at H
     exact absurd H (by simp)
   ·rw [if_neg c3] at H
    have c3b0 : decide (x6_1 < (a0.size : Int)) = false := decide_eq_false c3
    clear c3
    by_cases c12 : 0 ≤ x6_1
    ·rw [if_pos c12] at H
     have c12b0 := eq_true c12
     have c12b1 : decide (0 ≤ x6_1) = true := decide_eq_true c12
     clear c12
     by_cases c13 : x6_1 ≤ (a0.size : Int)
     ·rw [if_pos c13] at H
      have c13b0 := eq_true c13
      have c13b1 : decide (x6_1 ≤ (a0.size : Int)) = true := decide_eq_true c13
      clear c13
      have c14b0 := eq_true (of_decide_eq_true (by assumption) : 0 ≤ x6_1)
      have c15b0 := eq_true (of_decide_eq_true (by assumption) : x6_1 ≤ (a0.size : Int))
      simp only [Option.some.injEq,Prod.mk.injEq] at H
      obtain ⟨rfl,rfl⟩ := H
      go_wp2
      repeat (go_quiet (fail);try go_wp2)
      go_ret2
      exact ⟨by first|rfl|(simp;done)|(simp [*];done)|(simp [qam];done),by repeat (first|exact Drawn0.refl _|apply Drawn0.step)⟩
     ·rw [if_neg c13] at H
      exact absurd H (by simp)
    ·rw [if_neg c12] at H
     exact absurd H (by simp)
mutual
def version_CompareText.l0 : Nat → ByteArray → ByteArray → Nat → Option (Int)
 | 0,_,_,_ => none
 | k + 1,x0,x1,x5 => if x0.toList = ([] : List UInt8) then (version_CompareText.j1 k x0 x1 x5 (x1.toList != ([] : List UInt8))) else (version_CompareText.j1 k x0 x1 x5 true)
def version_CompareText.j1 : Nat → ByteArray → ByteArray → Nat → Bool → Option (Int)
 | 0,_,_,_,_ => none
 | k + 1,x0,x1,x5,x16 => if x16 = true then ((version_part_159.f k x0 x5).bind fun bt233 => ((version_part_159.f k x1 x5).bind fun bt235 => ((version_part_156.f k bt233.2 0).bind fun bt237 => ((version_part_156.f k bt235.2 0).bind fun bt239 => ((version_words.f k bt233.1 bt235.1).bind fun t241 => ((version_numbers.f k bt237.1 bt239.1).bind fun t242 => ((cmp_Or_int.f k (([t241,t242] : List Int))).bind fun t246 => (if t246 = 0 then (version_CompareText.l0 k bt237.2 bt239.2 x5) else (some t246))))))))) else (some 0)
end
def version_CompareText.f (k : Nat) (a0 : ByteArray) (a1 : ByteArray) : Option (Int) := version_CompareText.l0 k a0 a1 0
theorem version_CompareText.mono_l : ∀ k,(∀ y0 y1 y2,LeO (version_CompareText.l0 k y0 y1 y2) (version_CompareText.l0 (k + 1) y0 y1 y2)) ∧ (∀ y0 y1 y2 y3,LeO (version_CompareText.j1 k y0 y1 y2 y3) (version_CompareText.j1 (k + 1) y0 y1 y2 y3))
 | 0 => ⟨fun _ _ _ r h => by simp [version_CompareText.l0] at h,fun _ _ _ _ r h => by simp [version_CompareText.j1] at h⟩
 | k + 1 => by
  obtain ⟨ih0,ih1⟩ := version_CompareText.mono_l k
  refine ⟨?_,?_⟩
  ·intro y0 y1 y2
   unfold version_CompareText.l0
   repeat' first
   | (with_reducible exact ih0 _ _ _)
   | (with_reducible exact ih1 _ _ _ _)
   | (with_reducible exact cmp_Or_int.mono _ _)
   | (with_reducible exact version_numbers.mono _ _ _)
   | (with_reducible exact version_part_156.mono _ _ _)
   | (with_reducible exact version_part_159.mono _ _ _)
   | (with_reducible exact version_words.mono _ _ _)
   | (with_reducible exact LeO.refl _)
   | (with_reducible exact LeO.none _)
   | (with_reducible refine LeO.ite ?_ ?_)
   | (with_reducible refine LeO.bind ?_ (fun _ => ?_))
  ·intro y0 y1 y2 y3
   unfold version_CompareText.j1
   repeat' first
   | (with_reducible exact ih0 _ _ _)
   | (with_reducible exact ih1 _ _ _ _)
   | (with_reducible exact cmp_Or_int.mono _ _)
   | (with_reducible exact version_numbers.mono _ _ _)
   | (with_reducible exact version_part_156.mono _ _ _)
   | (with_reducible exact version_part_159.mono _ _ _)
   | (with_reducible exact version_words.mono _ _ _)
   | (with_reducible exact LeO.refl _)
   | (with_reducible exact LeO.none _)
   | (with_reducible refine LeO.ite ?_ ?_)
   | (with_reducible refine LeO.bind ?_ (fun _ => ?_))
theorem version_CompareText.mono : ∀ a0 a1 k,LeO (version_CompareText.f k a0 a1) (version_CompareText.f (k + 1) a0 a1) := by
 intro a0 a1 k
 obtain ⟨ih0,ih1⟩ := version_CompareText.mono_l k
 unfold version_CompareText.f
 repeat' first
   | (with_reducible exact ih0 _ _ _)
   | (with_reducible exact ih1 _ _ _ _)
   | (with_reducible exact cmp_Or_int.mono _ _)
   | (with_reducible exact version_numbers.mono _ _ _)
   | (with_reducible exact version_part_156.mono _ _ _)
   | (with_reducible exact version_part_159.mono _ _ _)
   | (with_reducible exact version_words.mono _ _ _)
   | (with_reducible exact LeO.refl _)
   | (with_reducible exact LeO.none _)
   | (with_reducible refine LeO.ite ?_ ?_)
   | (with_reducible refine LeO.bind ?_ (fun _ => ?_))
theorem version_CompareText.calls (k : Nat) (a0 : ByteArray) (a1 : ByteArray) (r : Int) (w : World) (hG : GL w) (h : version_CompareText.f k a0 a1 = some r) :
  Calls Tryz.prog 130 #[.string a0,.string a1] w fun e w' => e = .returned (.int .i64 r) ∧ Below w.heap.size w w' := by
 have HB := Aside0.mk (Below.refl w.heap.size w)
 have H : (version_CompareText.l0 k a0 a1 0) = some r := h
 clear h
 have H' := Aside0.mk H
 clear H
 go_enter Tryz.func130,Tryz.ntmps130
 go_wp2
 go_loopg [0,1] k (fun kq v0 v1 w' => ∃ (x0_1 : ByteArray) (x1_1 : ByteArray),v0 = .string x0_1 ∧ v1 = .string x1_1 ∧ Aside0 (version_CompareText.l0 kq x0_1 x1_1 0 = some r) ∧ Aside0 (kq ≤ k) ∧ Aside0 (Below w.heap.size w w'))
 case atStart => exact ⟨(a0),(a1),(by first|rfl|(simp;done)|(simp [*];done)|(simp [qam];done)),(by first|rfl|(simp;done)|(simp [*];done)|(simp [qam];done)),H',⟨Nat.le_refl _⟩,⟨by repeat (with_reducible first|exact HB.out|apply qab|apply qaa|apply qac)⟩⟩
 case round =>
  clear H'
  try clear c1
  try clear p2
  obtain ⟨x0_1,x1_1,rfl,rfl,HA,HK1,HB⟩ := hrel
  cases gk with
  | zero => exact absurd HA.out (by simp [version_CompareText.l0])
  | succ k1 =>
   have H := HA.out
   clear HA
   simp only [version_CompareText.l0] at H
   have HC3 := Aside0.mk H
   clear H
   go_upto_region 2 with (fail)
   go_cut [16] (fun v16 wc => ∃ (kq : Nat) (x16_2 : Bool),v16 = .bool x16_2 ∧ Aside0 (version_CompareText.j1 kq x0_1 x1_1 0 x16_2 = some r) ∧ Aside0 (kq ≤ k1) ∧ Aside0 (Below w.heap.size w wc))
   case first =>
    have H := HC3.out
    clear HC3
    by_cases c4 : x0_1.toList = ([] : List UInt8)
    ·rw [if_pos c4] at H
     have c4b0 : (x0_1.toList == ([] : List UInt8)) = true := beq_iff_eq.mpr c4
     have c4b1 : (x0_1.toList != ([] : List UInt8)) = false := bne_eq_false_iff_eq.mpr c4
     clear c4
     (first|rw [c4b0]|(simp only [i64_w,i32_w];rw [c4b0]) | skip)
     have H' := Aside0.mk H
     clear H
     go_wp2
     go_meet
     case rel => exact ⟨_,((x1_1.toList != ([] : List UInt8))),(by first|rfl|(simp;done)|(simp [*];done)|(simp [qam];done)),H',⟨by have := HK1.out;first|omega|exact Nat.le_refl _⟩,⟨by repeat (with_reducible first|exact HB.out|apply qab|apply qaa|apply qac)⟩⟩
    ·rw [if_neg c4] at H
     have c4b0 : (x0_1.toList == ([] : List UInt8)) = false := beq_eq_false_iff_ne.mpr c4
     have c4b1 : (x0_1.toList != ([] : List UInt8)) = true := bne_iff_ne.mpr c4
     (first|rw [c4b0]|(simp only [i64_w,i32_w];rw [c4b0]) | skip)
     have H' := Aside0.mk H
     clear H
     go_wp2
     go_meet
     case rel => exact ⟨_,(true),(by first|rfl|(simp;done)|(simp [*];done)|(simp [qam];done)),H',⟨by have := HK1.out;first|omega|exact Nat.le_refl _⟩,⟨by repeat (with_reducible first|exact HB.out|apply qab|apply qaa|apply qac)⟩⟩
   case rest =>
    clear HC3
    try clear c1
    try clear p2
    try clear c4
    try clear c4b0
    try clear c4b1
    try clear p2
    obtain ⟨kq,x16_2,rfl,HA,HJ2,HB⟩ := hcut
    cases kq with
    | zero => exact absurd HA.out (by simp [version_CompareText.j1])
    | succ kj2 =>
     have H := HA.out
     clear HA
     simp only [version_CompareText.j1] at H
     by_cases c5 : x16_2 = true
     ·subst c5
      have H1 : ((version_part_159.f kj2 x0_1 0).bind fun bt233 => ((version_part_159.f kj2 x1_1 0).bind fun bt235 => ((version_part_156.f kj2 bt233.2 0).bind fun bt237 => ((version_part_156.f kj2 bt235.2 0).bind fun bt239 => ((version_words.f kj2 bt233.1 bt235.1).bind fun t241 => ((version_numbers.f kj2 bt237.1 bt239.1).bind fun t242 => ((cmp_Or_int.f kj2 (([t241,t242] : List Int))).bind fun t246 => (if t246 = 0 then (version_CompareText.l0 kj2 bt237.2 bt239.2 0) else (some t246))))))))) = some r := by rw [if_pos rfl] at H;exact H
      clear H
      have H := H1
      clear H1
      replace H := Option.bind_eq_some_iff.mp H
      obtain ⟨⟨t233,t234⟩,A60,H⟩ := H
      replace H : ((version_part_159.f kj2 x1_1 0).bind fun bt235 => ((version_part_156.f kj2 t234 0).bind fun bt237 => ((version_part_156.f kj2 bt235.2 0).bind fun bt239 => ((version_words.f kj2 t233 bt235.1).bind fun t241 => ((version_numbers.f kj2 bt237.1 bt239.1).bind fun t242 => ((cmp_Or_int.f kj2 (([t241,t242] : List Int))).bind fun t246 => (if t246 = 0 then (version_CompareText.l0 kj2 bt237.2 bt239.2 0) else (some t246)))))))) = some r := H
      have A6 := Aside0.mk A60
      clear A60
      replace H := Option.bind_eq_some_iff.mp H
      obtain ⟨⟨t235,t236⟩,A70,H⟩ := H
      replace H : ((version_part_156.f kj2 t234 0).bind fun bt237 => ((version_part_156.f kj2 t236 0).bind fun bt239 => ((version_words.f kj2 t233 t235).bind fun t241 => ((version_numbers.f kj2 bt237.1 bt239.1).bind fun t242 => ((cmp_Or_int.f kj2 (([t241,t242] : List Int))).bind fun t246 => (if t246 = 0 then (version_CompareText.l0 kj2 bt237.2 bt239.2 0) else (some t246))))))) = some r := H
      have A7 := Aside0.mk A70
      clear A70
      replace H := Option.bind_eq_some_iff.mp H
      obtain ⟨⟨t237,t238⟩,A80,H⟩ := H
      replace H : ((version_part_156.f kj2 t236 0).bind fun bt239 => ((version_words.f kj2 t233 t235).bind fun t241 => ((version_numbers.f kj2 t237 bt239.1).bind fun t242 => ((cmp_Or_int.f kj2 (([t241,t242] : List Int))).bind fun t246 => (if t246 = 0 then (version_CompareText.l0 kj2 t238 bt239.2 0) else (some t246)))))) = some r := H
      have A8 := Aside0.mk A80
      clear A80
      replace H := Option.bind_eq_some_iff.mp H
      obtain ⟨⟨t239,t240⟩,A90,H⟩ := H
      replace H : ((version_words.f kj2 t233 t235).bind fun t241 => ((version_numbers.f kj2 t237 t239).bind fun t242 => ((cmp_Or_int.f kj2 (([t241,t242] : List Int))).bind fun t246 => (if t246 = 0 then (version_CompareText.l0 kj2 t238 t240 0) else (some t246))))) = some r := H
      have A9 := Aside0.mk A90
      clear A90
      replace H := Option.bind_eq_some_iff.mp H
      obtain ⟨t241,A100,H⟩ := H
      replace H : ((version_numbers.f kj2 t237 t239).bind fun t242 => ((cmp_Or_int.f kj2 (([t241,t242] : List Int))).bind fun t246 => (if t246 = 0 then (version_CompareText.l0 kj2 t238 t240 0) else (some t246)))) = some r := H
      have A10 := Aside0.mk A100
      clear A100
      replace H := Option.bind_eq_some_iff.mp H
      obtain ⟨t242,A110,H⟩ := H
      replace H : ((cmp_Or_int.f kj2 (([t241,t242] : List Int))).bind fun t246 => (if t246 = 0 then (version_CompareText.l0 kj2 t238 t240 0) else (some t246))) = some r := H
      have A11 := Aside0.mk A110
      clear A110
      obtain ⟨y243,hy243⟩ : ∃ y_ : List Int,y_ = (([t241,t242] : List Int)) := ⟨_,rfl⟩
      replace H : ((cmp_Or_int.f kj2 y243).bind fun t246 => (if t246 = 0 then (version_CompareText.l0 kj2 t238 t240 0) else (some t246))) = some r := by first|(rw [hy243];with_reducible exact H)|(have H2_ := (Option.bind_some _ _).symm.trans H;rw [hy243];with_reducible exact H2_)|(have H2_ := (Option.bind_some _ _).symm.trans H;with_reducible exact H2_) | with_reducible exact H|(rw [hy243];exact H)|exact H
      have Ny243 := Aside0.mk hy243
      clear hy243
      replace H := Option.bind_eq_some_iff.mp H
      obtain ⟨t246,A120,H⟩ := H
      replace H : (if t246 = 0 then (version_CompareText.l0 kj2 t238 t240 0) else (some t246)) = some r := H
      have A12 := Aside0.mk A120
      clear A120
      by_cases c13 : t246 = 0
      ·rw [if_pos c13] at H
       have c13b0 : (t246 == 0) = true := beq_iff_eq.mpr c13
       have c13b1 : (t246 != 0) = false := bne_eq_false_iff_eq.mpr c13
       clear c13
       have H' := Aside0.mk H
       clear H
       go_wp2_with (first|((with_reducible refine qal (f := 160) rfl ?_);refine goesL_ (some 20) rfl rfl Tryz.func160 (by kernel_rfl) rfl #[.string x0_1,.func (.func 159) #[] #[]] rfl (by first|rfl|(simp only [List.map_toArray,List.map_cons,List.map_nil,List.length_drop,List.length_take];rfl)|simp only [List.map_toArray,List.map_cons,List.map_nil]) ?_;(with_reducible refine (version_part_159.calls kj2 x0_1 0 t233 t234 _ (by first|exact hG|exact GL.below hG (by repeat (with_reducible first|exact HB.out|apply qab|apply qaa|apply qac)))  A6.out).mono ?_);rintro e w' ⟨rfl,⟨nd,rfl⟩⟩;refine ⟨_,rfl,?_⟩)|((with_reducible refine qal (f := 160) rfl ?_);refine goesL_ (some 26) rfl rfl Tryz.func160 (by kernel_rfl) rfl #[.string x1_1,.func (.func 159) #[] #[]] rfl (by first|rfl|(simp only [List.map_toArray,List.map_cons,List.map_nil,List.length_drop,List.length_take];rfl)|simp only [List.map_toArray,List.map_cons,List.map_nil]) ?_;(with_reducible refine (version_part_159.calls kj2 x1_1 0 t235 t236 _ (by first|exact hG|exact GL.below hG (by repeat (with_reducible first|exact HB.out|apply qab|apply qaa|apply qac)))  A7.out).mono ?_);rintro e w' ⟨rfl,⟨nd,rfl⟩⟩;refine ⟨_,rfl,?_⟩)|((with_reducible refine qal (f := 160) rfl ?_);refine goesL_ (some 31) rfl rfl Tryz.func160 (by kernel_rfl) rfl #[.string t234,.func (.func 156) #[] #[]] rfl (by first|rfl|(simp only [List.map_toArray,List.map_cons,List.map_nil,List.length_drop,List.length_take];rfl)|simp only [List.map_toArray,List.map_cons,List.map_nil]) ?_;(with_reducible refine (version_part_156.calls kj2 t234 0 t237 t238 _ (by first|exact hG|exact GL.below hG (by repeat (with_reducible first|exact HB.out|apply qab|apply qaa|apply qac)))  A8.out).mono ?_);rintro e w' ⟨rfl,⟨nd,rfl⟩⟩;refine ⟨_,rfl,?_⟩)|((with_reducible refine qal (f := 160) rfl ?_);refine goesL_ (some 36) rfl rfl Tryz.func160 (by kernel_rfl) rfl #[.string t236,.func (.func 156) #[] #[]] rfl (by first|rfl|(simp only [List.map_toArray,List.map_cons,List.map_nil,List.length_drop,List.length_take];rfl)|simp only [List.map_toArray,List.map_cons,List.map_nil]) ?_;(with_reducible refine (version_part_156.calls kj2 t236 0 t239 t240 _ (by first|exact hG|exact GL.below hG (by repeat (with_reducible first|exact HB.out|apply qab|apply qaa|apply qac)))  A9.out).mono ?_);rintro e w' ⟨rfl,⟨nd,rfl⟩⟩;refine ⟨_,rfl,?_⟩)|((with_reducible refine qal (f := 161) rfl ?_);refine goesL_ (some 41) rfl rfl Tryz.func161 (by kernel_rfl) rfl #[.string t233,.string t235] rfl (by first|rfl|(simp only [List.map_toArray,List.map_cons,List.map_nil,List.length_drop,List.length_take];rfl)|simp only [List.map_toArray,List.map_cons,List.map_nil]) ?_;(with_reducible refine (version_words.calls kj2 t233 t235 t241 _ (by first|exact hG|exact GL.below hG (by repeat (with_reducible first|exact HB.out|apply qab|apply qaa|apply qac)))  A10.out).mono ?_);rintro e w14 ⟨rfl,hb⟩;refine ⟨_,rfl,?_⟩;have n0_ := Aside0.mk (qan (by repeat (with_reducible first|exact HB.out|apply qab|apply qaa|apply qac)) hb);clear HB;have HB := n0_;clear n0_;(try clear hb);(try clear hb2);(try clear hk);(try clear hi))|((with_reducible refine qal (f := 162) rfl ?_);refine goesL_ (some 44) rfl rfl Tryz.func162 (by kernel_rfl) rfl #[.string t237,.string t239] rfl (by first|rfl|(simp only [List.map_toArray,List.map_cons,List.map_nil,List.length_drop,List.length_take];rfl)|simp only [List.map_toArray,List.map_cons,List.map_nil]) ?_;(with_reducible refine (version_numbers.calls kj2 t237 t239 t242 _ (by first|exact hG|exact GL.below hG (by repeat (with_reducible first|exact HB.out|apply qab|apply qaa|apply qac)))  A11.out).mono ?_);rintro e w15 ⟨rfl,hb⟩;refine ⟨_,rfl,?_⟩;have n0_ := Aside0.mk (qan (by repeat (with_reducible first|exact HB.out|apply qab|apply qaa|apply qac)) hb);clear HB;have HB := n0_;clear n0_;(try clear hb);(try clear hb2);(try clear hk);(try clear hi))|((with_reducible refine gate_dst (N := 45) rfl ?_);refine Kd.R_lit (Kd.int .i64) _ 3 ?hg (N := 45) ?hd (xs := ([t241,t242] : List Int)) (inner := [.int .i64 t241,.int .i64 t242]) (ok := fun _ => True) (okp := fun _ => True) ?hr ?hp (fun _ hk => hk) trivial (Below.refl _ _) (Nat.le_refl _) (by simp) ?_;(case hd => rfl);(case hg => rfl);(case hr => first|(go_simp;done)|(go_simp;rfl));(case hp => exact (Reps.one (show Kd.M (Kd.int .i64) _ _ _ t241 [.int .i64 t241] from rfl) (Reps.one (show Kd.M (Kd.int .i64) _ _ _ t242 [.int .i64 t242] from rfl) (Reps.none _ _))));intro v244 w16 ho17 hb hg_ hnew_;clear hg_ hnew_;(first|rw [← Ny243.out] at ho17|(simp only [Int.reduceToNat] at ho17;rw [← Ny243.out] at ho17));have n0_ := Aside0.mk (Kd.R_lower ho17 (qao (by repeat (with_reducible first|exact HB.out|apply qab|apply qaa|apply qac))));have n1_ := Aside0.mk (qan (by repeat (with_reducible first|exact HB.out|apply qab|apply qaa|apply qac)) hb);clear HB;have HO245 := n0_;have HB := n1_;clear n0_ n1_;clear hb ho17;obtain ⟨Ao18,co18,eo18⟩ := Kd.R_slice HO245.out;subst eo18)|((with_reducible refine qal (f := 128) rfl ?_);refine goesL_ (some 46) rfl rfl Tryz.func128 (by kernel_rfl) rfl #[.slice Ao18 y243.length co18] rfl (by first|rfl|(simp only [List.map_toArray,List.map_cons,List.map_nil,List.length_drop,List.length_take];rfl)|simp only [List.map_toArray,List.map_cons,List.map_nil]) ?_;(with_reducible refine (cmp_Or_int.calls kj2 _ _ y243 t246 _ (by first|exact hG|exact GL.below hG (by repeat (with_reducible first|exact HB.out|apply qab|apply qaa|apply qac)))  ?side1 ?side2 A12.out).mono ?_);(case side1 => repeat (first|exact (Kd.R_reads' HO245.out).2.2|(with_reducible refine Kd.C_alloc ?_ _)|(with_reducible refine Kd.C_drewN ?_ _)|(with_reducible refine Kd.C_drew ?_)));(case side2 => exact (Kd.R_reads' HO245.out).2.1);rintro e w' ⟨rfl,⟨nd,rfl⟩⟩;refine ⟨_,rfl,?_⟩))
       go_roundg kj2
       case measure => have := HK1.out;have := HJ2.out;omega
       case rel => exact ⟨(t238),(t240),(by first|rfl|(simp;done)|(simp [*];done)|(simp [qam];done)),(by first|rfl|(simp;done)|(simp [*];done)|(simp [qam];done)),H',⟨by have := HK1.out;have := HJ2.out;omega⟩,⟨by repeat (with_reducible first|exact HB.out|apply qab|apply qaa|apply qac)⟩⟩
      ·rw [if_neg c13] at H
       have c13b0 : (t246 == 0) = false := beq_eq_false_iff_ne.mpr c13
       have c13b1 : (t246 != 0) = true := bne_iff_ne.mpr c13
       obtain rfl := Option.some.inj H
       go_wp2_with (first|((with_reducible refine qal (f := 160) rfl ?_);refine goesL_ (some 20) rfl rfl Tryz.func160 (by kernel_rfl) rfl #[.string x0_1,.func (.func 159) #[] #[]] rfl (by first|rfl|(simp only [List.map_toArray,List.map_cons,List.map_nil,List.length_drop,List.length_take];rfl)|simp only [List.map_toArray,List.map_cons,List.map_nil]) ?_;(with_reducible refine (version_part_159.calls kj2 x0_1 0 t233 t234 _ (by first|exact hG|exact GL.below hG (by repeat (with_reducible first|exact HB.out|apply qab|apply qaa|apply qac)))  A6.out).mono ?_);rintro e w' ⟨rfl,⟨nd,rfl⟩⟩;refine ⟨_,rfl,?_⟩)|((with_reducible refine qal (f := 160) rfl ?_);refine goesL_ (some 26) rfl rfl Tryz.func160 (by kernel_rfl) rfl #[.string x1_1,.func (.func 159) #[] #[]] rfl (by first|rfl|(simp only [List.map_toArray,List.map_cons,List.map_nil,List.length_drop,List.length_take];rfl)|simp only [List.map_toArray,List.map_cons,List.map_nil]) ?_;(with_reducible refine (version_part_159.calls kj2 x1_1 0 t235 t236 _ (by first|exact hG|exact GL.below hG (by repeat (with_reducible first|exact HB.out|apply qab|apply qaa|apply qac)))  A7.out).mono ?_);rintro e w' ⟨rfl,⟨nd,rfl⟩⟩;refine ⟨_,rfl,?_⟩)|((with_reducible refine qal (f := 160) rfl ?_);refine goesL_ (some 31) rfl rfl Tryz.func160 (by kernel_rfl) rfl #[.string t234,.func (.func 156) #[] #[]] rfl (by first|rfl|(simp only [List.map_toArray,List.map_cons,List.map_nil,List.length_drop,List.length_take];rfl)|simp only [List.map_toArray,List.map_cons,List.map_nil]) ?_;(with_reducible refine (version_part_156.calls kj2 t234 0 t237 t238 _ (by first|exact hG|exact GL.below hG (by repeat (with_reducible first|exact HB.out|apply qab|apply qaa|apply qac)))  A8.out).mono ?_);rintro e w' ⟨rfl,⟨nd,rfl⟩⟩;refine ⟨_,rfl,?_⟩)|((with_reducible refine qal (f := 160) rfl ?_);refine goesL_ (some 36) rfl rfl Tryz.func160 (by kernel_rfl) rfl #[.string t236,.func (.func 156) #[] #[]] rfl (by first|rfl|(simp only [List.map_toArray,List.map_cons,List.map_nil,List.length_drop,List.length_take];rfl)|simp only [List.map_toArray,List.map_cons,List.map_nil]) ?_;(with_reducible refine (version_part_156.calls kj2 t236 0 t239 t240 _ (by first|exact hG|exact GL.below hG (by repeat (with_reducible first|exact HB.out|apply qab|apply qaa|apply qac)))  A9.out).mono ?_);rintro e w' ⟨rfl,⟨nd,rfl⟩⟩;refine ⟨_,rfl,?_⟩)|((with_reducible refine qal (f := 161) rfl ?_);refine goesL_ (some 41) rfl rfl Tryz.func161 (by kernel_rfl) rfl #[.string t233,.string t235] rfl (by first|rfl|(simp only [List.map_toArray,List.map_cons,List.map_nil,List.length_drop,List.length_take];rfl)|simp only [List.map_toArray,List.map_cons,List.map_nil]) ?_;(with_reducible refine (version_words.calls kj2 t233 t235 t241 _ (by first|exact hG|exact GL.below hG (by repeat (with_reducible first|exact HB.out|apply qab|apply qaa|apply qac)))  A10.out).mono ?_);rintro e w19 ⟨rfl,hb⟩;refine ⟨_,rfl,?_⟩;have n0_ := Aside0.mk (qan (by repeat (with_reducible first|exact HB.out|apply qab|apply qaa|apply qac)) hb);clear HB;have HB := n0_;clear n0_;(try clear hb);(try clear hb2);(try clear hk);(try clear hi))|((with_reducible refine qal (f := 162) rfl ?_);refine goesL_ (some 44) rfl rfl Tryz.func162 (by kernel_rfl) rfl #[.string t237,.string t239] rfl (by first|rfl|(simp only [List.map_toArray,List.map_cons,List.map_nil,List.length_drop,List.length_take];rfl)|simp only [List.map_toArray,List.map_cons,List.map_nil]) ?_;(with_reducible refine (version_numbers.calls kj2 t237 t239 t242 _ (by first|exact hG|exact GL.below hG (by repeat (with_reducible first|exact HB.out|apply qab|apply qaa|apply qac)))  A11.out).mono ?_);rintro e w20 ⟨rfl,hb⟩;refine ⟨_,rfl,?_⟩;have n0_ := Aside0.mk (qan (by repeat (with_reducible first|exact HB.out|apply qab|apply qaa|apply qac)) hb);clear HB;have HB := n0_;clear n0_;(try clear hb);(try clear hb2);(try clear hk);(try clear hi))|((with_reducible refine gate_dst (N := 45) rfl ?_);refine Kd.R_lit (Kd.int .i64) _ 3 ?hg (N := 45) ?hd (xs := ([t241,t242] : List Int)) (inner := [.int .i64 t241,.int .i64 t242]) (ok := fun _ => True) (okp := fun _ => True) ?hr ?hp (fun _ hk => hk) trivial (Below.refl _ _) (Nat.le_refl _) (by simp) ?_;(case hd => rfl);(case hg => rfl);(case hr => first|(go_simp;done)|(go_simp;rfl));(case hp => exact (Reps.one (show Kd.M (Kd.int .i64) _ _ _ t241 [.int .i64 t241] from rfl) (Reps.one (show Kd.M (Kd.int .i64) _ _ _ t242 [.int .i64 t242] from rfl) (Reps.none _ _))));intro v244 w21 ho22 hb hg_ hnew_;clear hg_ hnew_;(first|rw [← Ny243.out] at ho22|(simp only [Int.reduceToNat] at ho22;rw [← Ny243.out] at ho22));have n0_ := Aside0.mk (Kd.R_lower ho22 (qao (by repeat (with_reducible first|exact HB.out|apply qab|apply qaa|apply qac))));have n1_ := Aside0.mk (qan (by repeat (with_reducible first|exact HB.out|apply qab|apply qaa|apply qac)) hb);clear HB;have HO245 := n0_;have HB := n1_;clear n0_ n1_;clear hb ho22;obtain ⟨Ao23,co23,eo23⟩ := Kd.R_slice HO245.out;subst eo23)|((with_reducible refine qal (f := 128) rfl ?_);refine goesL_ (some 46) rfl rfl Tryz.func128 (by kernel_rfl) rfl #[.slice Ao23 y243.length co23] rfl (by first|rfl|(simp only [List.map_toArray,List.map_cons,List.map_nil,List.length_drop,List.length_take];rfl)|simp only [List.map_toArray,List.map_cons,List.map_nil]) ?_;(with_reducible refine (cmp_Or_int.calls kj2 _ _ y243 t246 _ (by first|exact hG|exact GL.below hG (by repeat (with_reducible first|exact HB.out|apply qab|apply qaa|apply qac)))  ?side1 ?side2 A12.out).mono ?_);(case side1 => repeat (first|exact (Kd.R_reads' HO245.out).2.2|(with_reducible refine Kd.C_alloc ?_ _)|(with_reducible refine Kd.C_drewN ?_ _)|(with_reducible refine Kd.C_drew ?_)));(case side2 => exact (Kd.R_reads' HO245.out).2.1);rintro e w' ⟨rfl,⟨nd,rfl⟩⟩;refine ⟨_,rfl,?_⟩))
       go_ret
       exact ⟨by first|rfl|(simp [qaj,qak]<;>rfl)|(simp [*,qaj,qak]<;>rfl),by repeat (with_reducible first|exact HB.out|apply qab|apply qaa|apply qac)⟩
     ·replace c5 := Bool.eq_false_iff.mpr c5
      subst c5
      have H1 : (some 0) = some r := by rw [if_neg (show ¬ (false = true) by decide)] at H;exact H
      clear H
      have H := H1
      clear H1
      obtain rfl := Option.some.inj H
      go_wp2
      go_ret
      exact ⟨by first|rfl|(simp [qaj,qak]<;>rfl)|(simp [*,qaj,qak]<;>rfl),by repeat (with_reducible first|exact HB.out|apply qab|apply qaa|apply qac)⟩
def version_Compare.f (k : Nat) (a0_0 : Int) (a0_1 : ByteArray) (a0_2 : ByteArray) (a1_0 : Int) (a1_1 : ByteArray) (a1_2 : ByteArray) : Option (Int) := (cmp_Compare_int.f a0_0 a1_0).bind fun t249 => ((version_CompareText.f k a0_1 a1_1).bind fun t250 => ((version_CompareText.f k a0_2 a1_2).bind fun t251 => ((cmp_Or_int.f k (([t249,t250,t251] : List Int))).bind fun t255 => (some t255))))
theorem version_Compare.mono : ∀ a0 a1 a2 a3 a4 a5 k,LeO (version_Compare.f k a0 a1 a2 a3 a4 a5) (version_Compare.f (k + 1) a0 a1 a2 a3 a4 a5) := by
 intro a0 a1 a2 a3 a4 a5 k
 unfold version_Compare.f
 repeat' first
   | (with_reducible exact cmp_Or_int.mono _ _)
   | (with_reducible exact version_CompareText.mono _ _ _)
   | (with_reducible exact LeO.refl _)
   | (with_reducible exact LeO.none _)
   | (with_reducible refine LeO.ite ?_ ?_)
   | (with_reducible refine LeO.bind ?_ (fun _ => ?_))
def version_Compare.T1 : Bool × List (List Nat × List Nat) := (true,[([],[]),([0],[0]),([],[]),([2],[2]),([1,3],[1,3]),([],[]),([5],[5]),([],[]),([7],[7]),([6,8,4],[6,8]),([],[]),([10],[10]),([],[]),([12],[12]),([11,13,9],[11,13]),([4,9,14],[4,9,14]),([15,14],[15]),([16,16,0,1,2,3,4,5,6,7,8,9,10,11,12,13,14,15,16],[16])])
def version_Compare.B1 : List Nat := [0,1,0,4,15,0,32,0,128,511,0,1024,0,4096,16383,32767,65535,131071]
theorem version_Compare.tab1 : rtab .any (opsOf Tryz.f90 1) = version_Compare.T1 := by kernel_rfl
theorem version_Compare.bits1 : waitsOk version_Compare.T1.2 version_Compare.B1 = true := by kernel_rfl
theorem version_Compare.calls (k : Nat) (a0_0 : Int) (a0_1 : ByteArray) (a0_2 : ByteArray) (a1_0 : Int) (a1_1 : ByteArray) (a1_2 : ByteArray) (r : Int) (w : World) (hG : GL w) (h : version_Compare.f k a0_0 a0_1 a0_2 a1_0 a1_1 a1_2 = some r) :
  Calls Tryz.prog 90 #[.agg #[.int .i64 a0_0,.string a0_1,.string a0_2],.agg #[.int .i64 a1_0,.string a1_1,.string a1_2]] w fun e w' => e = .returned (.int .i64 r) ∧ Below w.heap.size w w' := by
 have hu106 := Tryz.underlying106
 have HB := Aside0.mk (Below.refl w.heap.size w)
 have H : ((cmp_Compare_int.f a0_0 a1_0).bind fun t249 => ((version_CompareText.f k a0_1 a1_1).bind fun t250 => ((version_CompareText.f k a0_2 a1_2).bind fun t251 => ((cmp_Or_int.f k (([t249,t250,t251] : List Int))).bind fun t255 => (some t255))))) = some r := h
 clear h
 replace H := Option.bind_eq_some_iff.mp H
 obtain ⟨t249,A30,H⟩ := H
 replace H : ((version_CompareText.f k a0_1 a1_1).bind fun t250 => ((version_CompareText.f k a0_2 a1_2).bind fun t251 => ((cmp_Or_int.f k (([t249,t250,t251] : List Int))).bind fun t255 => (some t255)))) = some r := H
 have A3 := Aside0.mk A30
 clear A30
 replace H := Option.bind_eq_some_iff.mp H
 obtain ⟨t250,A40,H⟩ := H
 replace H : ((version_CompareText.f k a0_2 a1_2).bind fun t251 => ((cmp_Or_int.f k (([t249,t250,t251] : List Int))).bind fun t255 => (some t255))) = some r := H
 have A4 := Aside0.mk A40
 clear A40
 replace H := Option.bind_eq_some_iff.mp H
 obtain ⟨t251,A50,H⟩ := H
 replace H : ((cmp_Or_int.f k (([t249,t250,t251] : List Int))).bind fun t255 => (some t255)) = some r := H
 have A5 := Aside0.mk A50
 clear A50
 obtain ⟨y252,hy252⟩ : ∃ y_ : List Int,y_ = (([t249,t250,t251] : List Int)) := ⟨_,rfl⟩
 replace H : ((cmp_Or_int.f k y252).bind fun t255 => (some t255)) = some r := by first|(rw [hy252];with_reducible exact H)|(have H2_ := (Option.bind_some _ _).symm.trans H;rw [hy252];with_reducible exact H2_)|(have H2_ := (Option.bind_some _ _).symm.trans H;with_reducible exact H2_) | with_reducible exact H|(rw [hy252];exact H)|exact H
 have Ny252 := Aside0.mk hy252
 clear hy252
 replace H := Option.bind_eq_some_iff.mp H
 obtain ⟨t255,A60,H⟩ := H
 replace H : (some t255) = some r := H
 have A6 := Aside0.mk A60
 clear A60
 obtain rfl := Option.some.inj H
 go_enter Tryz.func90,Tryz.ntmps90
 try go_wp2_with (first|((with_reducible refine gate_dst (N := 2) rfl ?_);refine box_event ?hg (N := 2) ?hd (cs := #[.int .i64 a0_0,.string a0_1,.string a0_2]) (t := 106) ?hr ?_;(case hd => rfl);(case hg => rfl);(case hr => first|(go_simp;done)|(go_simp;rfl));intro gb247 hg w7 hbox hb;have n0_ := Aside0.mk (qan (by repeat (with_reducible first|exact HB.out|apply qab|apply qaa|apply qac)) hb);have n1_ := Aside0.mk (hbox);have n2_ := Aside0.mk ((by rw [hg];exact (qao (by repeat (with_reducible first|exact HB.out|apply qab|apply qaa|apply qac))) : w.heap.size ≤ gb247));have n3_ := Aside0.mk ((by rw [hg];exact (qao (by repeat (with_reducible first|exact HB.out|apply qab|apply qaa|apply qac))) : w.heap.size ≤ gb247));clear HB;have HB := n0_;have BK247 := n1_;have GW247 := n2_;have GE247 := n3_;clear n0_ n1_ n2_ n3_;clear hb hbox hg)|((with_reducible refine gate_dst (N := 3) rfl ?_);refine box_event ?hg (N := 3) ?hd (cs := #[.int .i64 a1_0,.string a1_1,.string a1_2]) (t := 106) ?hr ?_;(case hd => rfl);(case hg => rfl);(case hr => first|(go_simp;done)|(go_simp;rfl));intro gb248 hg w8 hbox hb;have n0_ := Aside0.mk (qap (g := gb247) (o := .cells #[.int .i64 a0_0,.string a0_1,.string a0_2] 106 (0,0)) (by (with_reducible repeat (first|refine qah ?_ _|refine qai ?_|refine qag ?_ _));exact BK247.out) hb);have n1_ := Aside0.mk (qan (by repeat (first|(with_reducible first|exact HB.out|apply qab|apply qaa|apply qac|refine qaf ?_ GE247.out)|exact HB.out)) hb);have n2_ := Aside0.mk (hbox);have n3_ := Aside0.mk ((by rw [hg];exact (qao (by repeat (first|(with_reducible first|exact HB.out|apply qab|apply qaa|apply qac|refine qaf ?_ GE247.out)|exact HB.out))) : w.heap.size ≤ gb248));have n4_ := Aside0.mk ((by rw [hg];exact (qao (by repeat (first|(with_reducible first|exact HB.out|apply qab|apply qaa|apply qac|refine qaf ?_ GE247.out)|exact HB.out))) : w.heap.size ≤ gb248));have n5_ := Aside0.mk ((by rw [hg];exact Nat.ne_of_lt (blk_lt (g := gb247) (o := .cells #[.int .i64 a0_0,.string a0_1,.string a0_2] 106 (0,0)) (by (with_reducible repeat (first|refine qah ?_ _|refine qai ?_|refine qag ?_ _));exact BK247.out)) : gb247 ≠ gb248));have n6_ := Aside0.mk ((by rw [hg];exact Nat.ne_of_gt (blk_lt (g := gb247) (o := .cells #[.int .i64 a0_0,.string a0_1,.string a0_2] 106 (0,0)) (by (with_reducible repeat (first|refine qah ?_ _|refine qai ?_|refine qag ?_ _));exact BK247.out)) : gb248 ≠ gb247));clear BK247;clear HB;have BK247 := n0_;have HB := n1_;have BK248 := n2_;have GW248 := n3_;have GE248 := n4_;have NB247_248 := n5_;have NB248_247 := n6_;clear n0_ n1_ n2_ n3_ n4_ n5_ n6_;clear hb hbox hg))
 have n0_ := Aside0.mk (qai BK247.out)
 have n1_ := Aside0.mk (qai BK248.out)
 have n2_ := Aside0.mk (qac HB.out)
 clear BK247
 clear BK248
 clear HB
 have BK247 := n0_
 have BK248 := n1_
 have HB := n2_
 clear n0_ n1_ n2_
 refine start_ (n := 18) (S := fun w' => w'.cell? ⟨gb247,0,none⟩ = some (.int .i64 a0_0) ∧ w'.cell? ⟨gb247,1,none⟩ = some (.string a0_1) ∧ w'.cell? ⟨gb247,2,none⟩ = some (.string a0_2) ∧ w'.cell? ⟨gb248,0,none⟩ = some (.int .i64 a1_0) ∧ w'.cell? ⟨gb248,1,none⟩ = some (.string a1_1) ∧ w'.cell? ⟨gb248,2,none⟩ = some (.string a1_2)) (ds := []) #[false,false,false,false,false,false,false,false,false,false,false,false,false,false,false,false,false,false] (by kernel_rfl) rfl rfl ⟨(qae BK247.out 0).trans rfl,(qae BK247.out 1).trans rfl,(qae BK247.out 2).trans rfl,(qae BK248.out 0).trans rfl,(qae BK248.out 1).trans rfl,(qae BK248.out 2).trans rfl⟩ (fun hHeld => ?_);refine with_tabW version_Compare.tab1 version_Compare.bits1 (fun HT_ HW_ => ?_)
 generalize w8.drew = w9 at BK247 BK248 HB hHeld ⊢
 refine pure_ (i := 0) (N := some 5) (v := ?_) (a' := ?_) #[true,false,false,false,false,false,false,false,false,false,false,false,false,false,false,false,false,false] rfl rfl (any_of HT_.out (by kernel_rfl)) (fun _ _ _ h => h) (Or.inl ⟨by rfl,?_⟩) ?_ ?_
 rotate_left
 ·intro w'
  go_simp
  with_reducible rfl
 rotate_left
 ·simp only [Act.put,List.setIfInBounds_toArray,List.set_cons_zero,List.set_cons_succ,i64_w,i32_w]
  rfl
 refine pure_ (i := 2) (N := some 7) (v := ?_) (a' := ?_) #[true,false,true,false,false,false,false,false,false,false,false,false,false,false,false,false,false,false] rfl rfl (any_of HT_.out (by kernel_rfl)) (fun _ _ _ h => h) (Or.inl ⟨by rfl,?_⟩) ?_ ?_
 rotate_left
 ·intro w'
  go_simp
  with_reducible rfl
 rotate_left
 ·simp only [Act.put,List.setIfInBounds_toArray,List.set_cons_zero,List.set_cons_succ,i64_w,i32_w]
  rfl
 refine pure_ (i := 5) (N := some 10) (v := ?_) (a' := ?_) #[true,false,true,false,false,true,false,false,false,false,false,false,false,false,false,false,false,false] rfl rfl (any_of HT_.out (by kernel_rfl)) (fun _ _ _ h => h) (Or.inl ⟨by rfl,?_⟩) ?_ ?_
 rotate_left
 ·intro w'
  go_simp
  with_reducible rfl
 rotate_left
 ·simp only [Act.put,List.setIfInBounds_toArray,List.set_cons_zero,List.set_cons_succ,i64_w,i32_w]
  rfl
 refine pure_ (i := 7) (N := some 12) (v := ?_) (a' := ?_) #[true,false,true,false,false,true,false,true,false,false,false,false,false,false,false,false,false,false] rfl rfl (any_of HT_.out (by kernel_rfl)) (fun _ _ _ h => h) (Or.inl ⟨by rfl,?_⟩) ?_ ?_
 rotate_left
 ·intro w'
  go_simp
  with_reducible rfl
 rotate_left
 ·simp only [Act.put,List.setIfInBounds_toArray,List.set_cons_zero,List.set_cons_succ,i64_w,i32_w]
  rfl
 refine pure_ (i := 10) (N := some 15) (v := ?_) (a' := ?_) #[true,false,true,false,false,true,false,true,false,false,true,false,false,false,false,false,false,false] rfl rfl (any_of HT_.out (by kernel_rfl)) (fun _ _ _ h => h) (Or.inl ⟨by rfl,?_⟩) ?_ ?_
 rotate_left
 ·intro w'
  go_simp
  with_reducible rfl
 rotate_left
 ·simp only [Act.put,List.setIfInBounds_toArray,List.set_cons_zero,List.set_cons_succ,i64_w,i32_w]
  rfl
 refine pure_ (i := 12) (N := some 17) (v := ?_) (a' := ?_) #[true,false,true,false,false,true,false,true,false,false,true,false,true,false,false,false,false,false] rfl rfl (any_of HT_.out (by kernel_rfl)) (fun _ _ _ h => h) (Or.inl ⟨by rfl,?_⟩) ?_ ?_
 rotate_left
 ·intro w'
  go_simp
  with_reducible rfl
 rotate_left
 ·simp only [Act.put,List.setIfInBounds_toArray,List.set_cons_zero,List.set_cons_succ,i64_w,i32_w]
  rfl
 refine take_ (i := 1) (N := some 6) (v := ?_) (a' := ?_) #[true,true,true,false,false,true,false,true,false,false,true,false,true,false,false,false,false,false] rfl rfl (take_ofW HT_.out HW_.out (by kernel_rfl)) (fun _ _ _ h => h) (Or.inl ⟨by rfl,?_⟩) hHeld ?_ ?_
 rotate_left
 ·rintro w' ⟨s0,s1,s2,s3,s4,s5⟩
  go_simp
  with_reducible rfl
 rotate_left
 ·simp only [Act.put,List.setIfInBounds_toArray,List.set_cons_zero,List.set_cons_succ,i64_w,i32_w]
  rfl
 refine take_ (i := 3) (N := some 8) (v := ?_) (a' := ?_) #[true,true,true,true,false,true,false,true,false,false,true,false,true,false,false,false,false,false] rfl rfl (take_ofW HT_.out HW_.out (by kernel_rfl)) (fun _ _ _ h => h) (Or.inl ⟨by rfl,?_⟩) hHeld ?_ ?_
 rotate_left
 ·rintro w' ⟨s0,s1,s2,s3,s4,s5⟩
  go_simp
  with_reducible rfl
 rotate_left
 ·simp only [Act.put,List.setIfInBounds_toArray,List.set_cons_zero,List.set_cons_succ,i64_w,i32_w]
  rfl
 refine take_ (i := 6) (N := some 11) (v := ?_) (a' := ?_) #[true,true,true,true,false,true,true,true,false,false,true,false,true,false,false,false,false,false] rfl rfl (take_ofW HT_.out HW_.out (by kernel_rfl)) (fun _ _ _ h => h) (Or.inl ⟨by rfl,?_⟩) hHeld ?_ ?_
 rotate_left
 ·rintro w' ⟨s0,s1,s2,s3,s4,s5⟩
  go_simp
  with_reducible rfl
 rotate_left
 ·simp only [Act.put,List.setIfInBounds_toArray,List.set_cons_zero,List.set_cons_succ,i64_w,i32_w]
  rfl
 refine take_ (i := 8) (N := some 13) (v := ?_) (a' := ?_) #[true,true,true,true,false,true,true,true,true,false,true,false,true,false,false,false,false,false] rfl rfl (take_ofW HT_.out HW_.out (by kernel_rfl)) (fun _ _ _ h => h) (Or.inl ⟨by rfl,?_⟩) hHeld ?_ ?_
 rotate_left
 ·rintro w' ⟨s0,s1,s2,s3,s4,s5⟩
  go_simp
  with_reducible rfl
 rotate_left
 ·simp only [Act.put,List.setIfInBounds_toArray,List.set_cons_zero,List.set_cons_succ,i64_w,i32_w]
  rfl
 refine take_ (i := 11) (N := some 16) (v := ?_) (a' := ?_) #[true,true,true,true,false,true,true,true,true,false,true,true,true,false,false,false,false,false] rfl rfl (take_ofW HT_.out HW_.out (by kernel_rfl)) (fun _ _ _ h => h) (Or.inl ⟨by rfl,?_⟩) hHeld ?_ ?_
 rotate_left
 ·rintro w' ⟨s0,s1,s2,s3,s4,s5⟩
  go_simp
  with_reducible rfl
 rotate_left
 ·simp only [Act.put,List.setIfInBounds_toArray,List.set_cons_zero,List.set_cons_succ,i64_w,i32_w]
  rfl
 refine take_ (i := 13) (N := some 18) (v := ?_) (a' := ?_) #[true,true,true,true,false,true,true,true,true,false,true,true,true,true,false,false,false,false] rfl rfl (take_ofW HT_.out HW_.out (by kernel_rfl)) (fun _ _ _ h => h) (Or.inl ⟨by rfl,?_⟩) hHeld ?_ ?_
 rotate_left
 ·rintro w' ⟨s0,s1,s2,s3,s4,s5⟩
  go_simp
  with_reducible rfl
 rotate_left
 ·simp only [Act.put,List.setIfInBounds_toArray,List.set_cons_zero,List.set_cons_succ,i64_w,i32_w]
  rfl
 refine one_ (i := 4) (N := some 9) #[true,true,true,true,true,true,true,true,true,false,true,true,true,true,false,false,false,false] rfl rfl (one_of HT_.out (by kernel_rfl)) (by decide) (fun K hK => ?_)
 refine goes_ Tryz.func129 (by kernel_rfl) rfl #[.int .i64 a0_0,.int .i64 a1_0] (by rfl) rfl rfl (by first|rfl|(simp only [List.map_toArray,List.map_cons,List.map_nil,List.length_drop,List.length_take];rfl)|simp only [List.map_toArray,List.map_cons,List.map_nil]) ?_
 with_reducible refine (cmp_Compare_int.calls a0_0 a1_0 t249 _ (by first|exact hG|exact GL.below hG (by repeat (first|(with_reducible first|exact HB.out|apply qab|apply qaa|apply qac|refine qaf ?_ GE247.out|refine qaf ?_ GE248.out)|exact HB.out)))  A3.out).mono ?_
 rintro e w' ⟨rfl,⟨nd,rfl⟩⟩
 refine ⟨_,rfl,?_⟩
 refine hK.out _ _ ⟨(qae BK247.out 0).trans rfl,(qae BK247.out 1).trans rfl,(qae BK247.out 2).trans rfl,(qae BK248.out 0).trans rfl,(qae BK248.out 1).trans rfl,(qae BK248.out 2).trans rfl⟩ (fun hHeld => ?_)
 clear hK K
 refine norm_ (a' := ?_) ?_ ?_
 rotate_left
 ·show Act.put _ (some 9) _ = _
  simp only [Act.put,List.setIfInBounds_toArray,List.set_cons_zero,List.set_cons_succ,i64_w,i32_w]
  rfl
 refine one_ (i := 9) (N := some 14) #[true,true,true,true,true,true,true,true,true,true,true,true,true,true,false,false,false,false] rfl rfl (one_of HT_.out (by kernel_rfl)) (by decide) (fun K hK => ?_)
 refine goes_ Tryz.func130 (by kernel_rfl) rfl #[.string a0_1,.string a1_1] (by rfl) rfl rfl (by first|rfl|(simp only [List.map_toArray,List.map_cons,List.map_nil,List.length_drop,List.length_take];rfl)|simp only [List.map_toArray,List.map_cons,List.map_nil]) ?_
 with_reducible refine (version_CompareText.calls k a0_1 a1_1 t250 _ (by first|exact hG|exact GL.below hG (by repeat (first|(with_reducible first|exact HB.out|apply qab|apply qaa|apply qac|refine qaf ?_ GE247.out|refine qaf ?_ GE248.out)|exact HB.out)))  A4.out).mono ?_
 rintro e w10 ⟨rfl,hb⟩
 refine ⟨_,rfl,?_⟩
 have n0_ := Aside0.mk (qap (g := gb247) (o := .cells #[.int .i64 a0_0,.string a0_1,.string a0_2] 106 (0,0)) (by (with_reducible repeat (first|refine qah ?_ _|refine qai ?_|refine qag ?_ _));exact BK247.out) hb)
 have n1_ := Aside0.mk (qap (g := gb248) (o := .cells #[.int .i64 a1_0,.string a1_1,.string a1_2] 106 (0,0)) (by (with_reducible repeat (first|refine qah ?_ _|refine qai ?_|refine qag ?_ _));exact BK248.out) hb)
 have n2_ := Aside0.mk (qan (by repeat (first|(with_reducible first|exact HB.out|apply qab|apply qaa|apply qac|refine qaf ?_ GE247.out|refine qaf ?_ GE248.out)|exact HB.out)) hb)
 clear BK247
 clear BK248
 clear HB
 have BK247 := n0_
 have BK248 := n1_
 have HB := n2_
 clear n0_ n1_ n2_
 (try clear hb)
 (try clear hb2)
 (try clear hk)
 (try clear hi)
 refine hK.out _ _ ⟨(qae BK247.out 0).trans rfl,(qae BK247.out 1).trans rfl,(qae BK247.out 2).trans rfl,(qae BK248.out 0).trans rfl,(qae BK248.out 1).trans rfl,(qae BK248.out 2).trans rfl⟩ (fun hHeld => ?_)
 clear hK K
 refine norm_ (a' := ?_) ?_ ?_
 rotate_left
 ·show Act.put _ (some 14) _ = _
  simp only [Act.put,List.setIfInBounds_toArray,List.set_cons_zero,List.set_cons_succ,i64_w,i32_w]
  rfl
 refine one_ (i := 14) (N := some 19) #[true,true,true,true,true,true,true,true,true,true,true,true,true,true,true,false,false,false] rfl rfl (one_of HT_.out (by kernel_rfl)) (by decide) (fun K hK => ?_)
 refine goes_ Tryz.func130 (by kernel_rfl) rfl #[.string a0_2,.string a1_2] (by rfl) rfl rfl (by first|rfl|(simp only [List.map_toArray,List.map_cons,List.map_nil,List.length_drop,List.length_take];rfl)|simp only [List.map_toArray,List.map_cons,List.map_nil]) ?_
 with_reducible refine (version_CompareText.calls k a0_2 a1_2 t251 _ (by first|exact hG|exact GL.below hG (by repeat (first|(with_reducible first|exact HB.out|apply qab|apply qaa|apply qac|refine qaf ?_ GE247.out|refine qaf ?_ GE248.out)|exact HB.out)))  A5.out).mono ?_
 rintro e w11 ⟨rfl,hb⟩
 refine ⟨_,rfl,?_⟩
 have n0_ := Aside0.mk (qap (g := gb247) (o := .cells #[.int .i64 a0_0,.string a0_1,.string a0_2] 106 (0,0)) (by (with_reducible repeat (first|refine qah ?_ _|refine qai ?_|refine qag ?_ _));exact BK247.out) hb)
 have n1_ := Aside0.mk (qap (g := gb248) (o := .cells #[.int .i64 a1_0,.string a1_1,.string a1_2] 106 (0,0)) (by (with_reducible repeat (first|refine qah ?_ _|refine qai ?_|refine qag ?_ _));exact BK248.out) hb)
 have n2_ := Aside0.mk (qan (by repeat (first|(with_reducible first|exact HB.out|apply qab|apply qaa|apply qac|refine qaf ?_ GE247.out|refine qaf ?_ GE248.out)|exact HB.out)) hb)
 clear BK247
 clear BK248
 clear HB
 have BK247 := n0_
 have BK248 := n1_
 have HB := n2_
 clear n0_ n1_ n2_
 (try clear hb)
 (try clear hb2)
 (try clear hk)
 (try clear hi)
 refine hK.out _ _ ⟨(qae BK247.out 0).trans rfl,(qae BK247.out 1).trans rfl,(qae BK247.out 2).trans rfl,(qae BK248.out 0).trans rfl,(qae BK248.out 1).trans rfl,(qae BK248.out 2).trans rfl⟩ (fun hHeld => ?_)
 clear hK K
 refine norm_ (a' := ?_) ?_ ?_
 rotate_left
 ·show Act.put _ (some 19) _ = _
  simp only [Act.put,List.setIfInBounds_toArray,List.set_cons_zero,List.set_cons_succ,i64_w,i32_w]
  rfl
 refine one_ (i := 15) (N := some 20) #[true,true,true,true,true,true,true,true,true,true,true,true,true,true,true,true,false,false] rfl rfl (one_of HT_.out (by kernel_rfl)) (by decide) (fun K hK => ?_)
 refine Kd.R_lit_step (Kd.int .i64) _ 3 ?hg (N := 20) ?hd (xs := ([t249,t250,t251] : List Int)) (inner := [.int .i64 t249,.int .i64 t250,.int .i64 t251]) (ok := fun _ => True) (okp := fun _ => True) ?hr ?hp (fun _ hk => hk) trivial (Below.refl _ _) (Nat.le_refl _) (by simp) ?_;(case hd => rfl);(case hg => rfl);(case hr => first|(go_simp;done)|(go_simp;rfl));(case hp => exact (Reps.one (show Kd.M (Kd.int .i64) _ _ _ t249 [.int .i64 t249] from rfl) (Reps.one (show Kd.M (Kd.int .i64) _ _ _ t250 [.int .i64 t250] from rfl) (Reps.one (show Kd.M (Kd.int .i64) _ _ _ t251 [.int .i64 t251] from rfl) (Reps.none _ _)))))
 intro v253 w12 ho13 hb hg_ hnew_
 clear hg_ hnew_
 (first|rw [← Ny252.out] at ho13|(simp only [Int.reduceToNat] at ho13;rw [← Ny252.out] at ho13))
 have n0_ := Aside0.mk (Kd.R_lower ho13 (qao (by repeat (first|(with_reducible first|exact HB.out|apply qab|apply qaa|apply qac|refine qaf ?_ GE247.out|refine qaf ?_ GE248.out)|exact HB.out))))
 have n1_ := Aside0.mk (qap (g := gb247) (o := .cells #[.int .i64 a0_0,.string a0_1,.string a0_2] 106 (0,0)) (by (with_reducible repeat (first|refine qah ?_ _|refine qai ?_|refine qag ?_ _));exact BK247.out) hb)
 have n2_ := Aside0.mk (qap (g := gb248) (o := .cells #[.int .i64 a1_0,.string a1_1,.string a1_2] 106 (0,0)) (by (with_reducible repeat (first|refine qah ?_ _|refine qai ?_|refine qag ?_ _));exact BK248.out) hb)
 have n3_ := Aside0.mk (qan (by repeat (first|(with_reducible first|exact HB.out|apply qab|apply qaa|apply qac|refine qaf ?_ GE247.out|refine qaf ?_ GE248.out)|exact HB.out)) hb)
 clear BK247
 clear BK248
 clear HB
 have HO254 := n0_
 have BK247 := n1_
 have BK248 := n2_
 have HB := n3_
 clear n0_ n1_ n2_ n3_
 clear hb ho13
 obtain ⟨Ao14,co14,eo14⟩ := Kd.R_slice HO254.out
 (first|subst eo14|(injection eo14 with f1_ f2_ f3_;have f4_ := f1_.symm;have f5_ := f3_.symm;clear f1_ f2_ f3_;subst f4_;subst f5_))
 refine hK.out _ _ ⟨(qae BK247.out 0).trans rfl,(qae BK247.out 1).trans rfl,(qae BK247.out 2).trans rfl,(qae BK248.out 0).trans rfl,(qae BK248.out 1).trans rfl,(qae BK248.out 2).trans rfl⟩ (fun hHeld => ?_)
 clear hK K
 refine norm_ (a' := ?_) ?_ ?_
 rotate_left
 ·show Act.put _ (some 20) _ = _
  simp only [Act.put,List.setIfInBounds_toArray,List.set_cons_zero,List.set_cons_succ,i64_w,i32_w]
  rfl
 refine one_ (i := 16) (N := some 21) #[true,true,true,true,true,true,true,true,true,true,true,true,true,true,true,true,true,false] rfl rfl (one_of HT_.out (by kernel_rfl)) (by decide) (fun K hK => ?_)
 refine goes_ Tryz.func128 (by kernel_rfl) rfl #[.slice Ao14 y252.length co14] (by rfl) rfl rfl (by first|rfl|(simp only [List.map_toArray,List.map_cons,List.map_nil,List.length_drop,List.length_take];rfl)|simp only [List.map_toArray,List.map_cons,List.map_nil]) ?_
 with_reducible refine (cmp_Or_int.calls k _ _ y252 t255 _ (by first|exact hG|exact GL.below hG (by repeat (first|(with_reducible first|exact HB.out|apply qab|apply qaa|apply qac|refine qaf ?_ GE247.out|refine qaf ?_ GE248.out)|exact HB.out)))  ?side1 ?side2 A6.out).mono ?_
 (case side1 => repeat (first|exact (Kd.R_reads' HO254.out).2.2|(with_reducible refine Kd.C_alloc ?_ _)|(with_reducible refine Kd.C_drewN ?_ _)|(with_reducible refine Kd.C_drew ?_)))
 (case side2 => exact (Kd.R_reads' HO254.out).2.1)
 rintro e w' ⟨rfl,⟨nd,rfl⟩⟩
 refine ⟨_,rfl,?_⟩
 refine hK.out _ _ ⟨(qae BK247.out 0).trans rfl,(qae BK247.out 1).trans rfl,(qae BK247.out 2).trans rfl,(qae BK248.out 0).trans rfl,(qae BK248.out 1).trans rfl,(qae BK248.out 2).trans rfl⟩ (fun hHeld => ?_)
 clear hK K
 refine norm_ (a' := ?_) ?_ ?_
 rotate_left
 ·show Act.put _ (some 21) _ = _
  simp only [Act.put,List.setIfInBounds_toArray,List.set_cons_zero,List.set_cons_succ,i64_w,i32_w]
  rfl
 refine pure_ (i := 17) (N := some 4) (v := ?_) (a' := ?_) #[true,true,true,true,true,true,true,true,true,true,true,true,true,true,true,true,true,true] rfl rfl (any_of HT_.out (by kernel_rfl)) (fun _ _ _ h => h) (Or.inl ⟨by rfl,?_⟩) ?_ ?_
 rotate_left
 ·intro w'
  go_simp
  with_reducible rfl
 rotate_left
 ·simp only [Act.put,List.setIfInBounds_toArray,List.set_cons_zero,List.set_cons_succ,i64_w,i32_w]
  rfl
 refine done_ (done_of HT_.out (by kernel_rfl)) ?_
 try go_wp2
 go_ret
 exact ⟨by first|rfl|(simp [qaj,qak]<;>rfl)|(simp [*,qaj,qak]<;>rfl),by repeat (first|(with_reducible first|exact HB.out|apply qab|apply qaa|apply qac|refine qaf ?_ GE247.out|refine qaf ?_ GE248.out)|exact HB.out)⟩
end Go.Proofs.YtiidmjmkgjfaeaaGreatDoor.PA
