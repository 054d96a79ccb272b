
import Derived.Test.YtjbbgekkombpnaaGreatDoorPAx0
import Derived.Test.YtjbbgekkombpnaaGreatDoorPAx12
import Derived.Test.YtjbbgekkombpnaaGreatDoorPAx15
namespace Go.Proofs.YtjbbgekkombpnaaGreatDoor.PA
open Go.RowKit Go.Proofs.YtjbbgekkombpnaaGreatDoorW.PrintWords Go.Proofs.YtjbbgekkombpnaaGreatDoorW.PrintLast Go.Proofs.YtjbbgekkombpnaaGreatDoorW.PrintMore
attribute [local go_sem] max2_int min2_int max_two min_two max_three min_three max_four min_four
set_option maxHeartbeats 8000000
set_option maxRecDepth 100000
set_option linter.unusedVariables false
set_option linter.unusedSimpArgs false
def keelsonref3_cut.l0 : Nat → ByteArray → Int → Option (ByteArray × ByteArray × Bool)
 | 0,_,_ => none
 | k + 1,x0,x5 => if x5 < (x0.size : Int) then (if 0 ≤ x5 then (if (bt x0 x5) = 32 then (if x5 ≤ (x0.size : Int) then (if 0 ≤ (wrap64 (x5 + 1)) then (if (wrap64 (x5 + 1)) ≤ (x0.size : Int) then (some (x0.extract 0 (x5 : Int).toNat,x0.extract ((wrap64 (x5 + 1)) : Int).toNat x0.size,true)) else (none)) else (none)) else (none)) else (keelsonref3_cut.l0 k x0 (wrap64 (x5 + 1)))) else (none)) else (some (x0,(⟨#[]⟩ : ByteArray),false))
def keelsonref3_cut.f (k : Nat) (a0 : ByteArray) : Option (ByteArray × ByteArray × Bool) := keelsonref3_cut.l0 k a0 0
theorem keelsonref3_cut.mono_l : ∀ k,(∀ y0 y1,LeO (keelsonref3_cut.l0 k y0 y1) (keelsonref3_cut.l0 (k + 1) y0 y1))
 | 0 => fun _ _ r h => by simp [keelsonref3_cut.l0] at h
 | k + 1 => by
  have ih0 := keelsonref3_cut.mono_l k
  ·intro y0 y1
   unfold keelsonref3_cut.l0
   repeat' first
   | (with_reducible exact ih0 _ _)
   | (with_reducible exact LeO.refl _)
   | (with_reducible exact LeO.none _)
   | (with_reducible refine LeO.ite ?_ ?_)
   | (with_reducible refine LeO.bind ?_ (fun _ => ?_))
   | exact ih0 _ _
   | exact LeO.none _
   | refine LeO.ite ?_ ?_
   | refine LeO.bind ?_ (fun _ => ?_)
theorem keelsonref3_cut.mono : ∀ a0 k,LeO (keelsonref3_cut.f k a0) (keelsonref3_cut.f (k + 1) a0) := by
 intro a0 k
 have ih0 := keelsonref3_cut.mono_l k
 unfold keelsonref3_cut.f
 repeat' first
   | (with_reducible exact ih0 _ _)
   | (with_reducible exact LeO.refl _)
   | (with_reducible exact LeO.none _)
   | (with_reducible refine LeO.ite ?_ ?_)
   | (with_reducible refine LeO.bind ?_ (fun _ => ?_))
   | exact ih0 _ _
   | exact LeO.none _
   | refine LeO.ite ?_ ?_
   | refine LeO.bind ?_ (fun _ => ?_)
theorem keelsonref3_cut.calls (k : Nat) (a0 : ByteArray) (r1 : ByteArray) (r2 : ByteArray) (r3 : Bool) (w : World) (hG : GL w) (h : keelsonref3_cut.f k a0 = some (r1,r2,r3)) :
  Calls Tryz.prog 62 #[.string a0] w fun e w' => e = .returned (.tuple #[.string r1,.string r2,.bool r3]) ∧ Drawn0 w w' := by
 have H : (keelsonref3_cut.l0 k a0 0) = some (r1,r2,r3) := h
 clear h
 have H' := Aside0.mk H
 clear H
 go_enter Tryz.func62,Tryz.ntmps62
 go_wp2
 repeat (go_quiet (fail);try go_wp2)
 go_loopg [5] k (fun kq v5 w' => ∃ (x5_1 : Int),v5 = .int .i64 x5_1 ∧ Aside0 (keelsonref3_cut.l0 kq a0 x5_1 = some (r1,r2,r3)) ∧ Aside0 (kq ≤ k) ∧ Drawn0 w w')
 case atStart => exact ⟨(0),(by first|rfl|(simp;done)|(simp [*];done)|(simp [qaj];done)),H',⟨Nat.le_refl _⟩,by repeat (first|exact Drawn0.refl _|apply Drawn0.step)⟩
 case round =>
  clear H'
  obtain ⟨x5_1,rfl,HA,HK1,⟨m1,rfl⟩⟩ := hrel
  cases gk with
  | zero => exact absurd HA.out (by simp [keelsonref3_cut.l0])
  | succ k1 =>
   have H := HA.out
   clear HA
   simp only [keelsonref3_cut.l0] at H
   by_cases c2 : x5_1 < (a0.size : Int)
   ·rw [if_pos c2] at H
    have c2b0 : decide (x5_1 < (a0.size : Int)) = true := decide_eq_true c2
    clear c2
    by_cases c3 : 0 ≤ x5_1
    ·rw [if_pos c3] at H
     have c3b0 : decide (0 ≤ x5_1) = true := decide_eq_true c3
     clear c3
     by_cases c5 : (bt a0 x5_1) = 32
     ·rw [if_pos c5] at H
      have c5b0 : ((bt a0 x5_1) == 32) = true := beq_iff_eq.mpr c5
      have c5b1 : ((bt a0 x5_1) != 32) = false := bne_eq_false_iff_eq.mpr c5
      clear c5
      have c6b0 := eq_true (of_decide_eq_true (by assumption) : 0 ≤ x5_1)
      by_cases c7 : x5_1 ≤ (a0.size : Int)
      ·rw [if_pos c7] at H
       have c7b0 := eq_true c7
       have c7b1 : decide (x5_1 ≤ (a0.size : Int)) = true := decide_eq_true c7
       clear c7
       obtain ⟨ji8,hji8⟩ : ∃ j_ : Int,(wrap64 (x5_1 + 1)) = j_ := ⟨_,rfl⟩
       replace H : (if 0 ≤ (ji8) then (if (ji8) ≤ (a0.size : Int) then (some (a0.extract 0 (x5_1 : Int).toNat,a0.extract ((ji8) : Int).toNat a0.size,true)) else (none)) else (none)) = some (r1,r2,r3) := by first|(rw [hji8] at H;exact H)|(simp only [hji8] at H ⊢;exact H)
       have hji8w : (IntKind.i64.wrap (x5_1 + 1)) = ji8 := (i64_w _).trans hji8
       by_cases c9 : 0 ≤ (ji8)
       ·rw [if_pos c9] at H
        have c9b0 := eq_true c9
        have c9b1 : decide (0 ≤ (ji8)) = true := decide_eq_true c9
        clear c9
        by_cases c10 : (ji8) ≤ (a0.size : Int)
        ·rw [if_pos c10] at H
         have c10b0 := eq_true c10
         have c10b1 : decide ((ji8) ≤ (a0.size : Int)) = true := decide_eq_true c10
         clear c10
         simp only [Option.some.injEq,Prod.mk.injEq] at H
         obtain ⟨rfl,rfl,rfl⟩ := H
         have p4 : 0 ≤ (x5_1 : Int) := of_decide_eq_true (by assumption)
         have q4 : x5_1 < (a0.size : Int) := of_decide_eq_true (by assumption)
         have hx4 := bt_at a0 x5_1
         replace p4 := eq_true p4
         replace q4 := eq_true q4
         go_wp2
         repeat (go_quiet (fail);try go_wp2)
         go_ret3
         exact ⟨by first|rfl|(simp;done)|(simp only [← hji8]<;>(first|rfl|simp))|(simp [*];done),by repeat (first|exact Drawn0.refl _|apply Drawn0.step)⟩
        ·rw [if_neg c10] at H
         exact absurd H (by simp)
       ·rw [if_neg c9] at H
        exact absurd H (by simp)
      ·rw [if_neg c7] at H
       exact absurd H (by simp)
     ·rw [if_neg c5] at H
      have c5b0 : ((bt a0 x5_1) == 32) = false := beq_eq_false_iff_ne.mpr c5
      have c5b1 : ((bt a0 x5_1) != 32) = true := bne_iff_ne.mpr c5
      have H' := Aside0.mk H
      clear H
      have p4 : 0 ≤ (x5_1 : Int) := of_decide_eq_true (by assumption)
      have q4 : x5_1 < (a0.size : Int) := of_decide_eq_true (by assumption)
      have hx4 := bt_at a0 x5_1
      replace p4 := eq_true p4
      replace q4 := eq_true q4
      go_wp2
      repeat (go_quiet (fail);try go_wp2)
      go_roundg k1
      case measure => have := HK1.out;omega
      case rel => exact ⟨(wrap64 (x5_1 + 1)),(by first|rfl|(simp;done)|(simp [*];done)|(simp [qaj];done)),H',⟨by have := HK1.out;omega⟩,by repeat (first|exact Drawn0.refl _|apply Drawn0.step)⟩
    ·rw [if_neg c3] at H
     exact absurd H (by simp)
   ·rw [if_neg c2] at H
    have c2b0 : decide (x5_1 < (a0.size : Int)) = false := decide_eq_false c2
    clear c2
    simp only [Option.some.injEq,Prod.mk.injEq] at H
    obtain ⟨rfl,rfl,rfl⟩ := H
    go_wp2
    repeat (go_quiet (fail);try go_wp2)
    go_ret3
    exact ⟨by first|rfl|(simp;done)|(simp [*];done)|(simp [qaj];done),by repeat (first|exact Drawn0.refl _|apply Drawn0.step)⟩
def keelsonref3_Sign.f (a0 : Int) : Option (ByteArray) := if a0 = 1 then (some (⟨#[60,60]⟩ : ByteArray)) else (if a0 = 2 then (some (⟨#[60,61]⟩ : ByteArray)) else (if a0 = 3 then (some (⟨#[61]⟩ : ByteArray)) else (if a0 = 4 then (some (⟨#[62,61]⟩ : ByteArray)) else (if a0 = 5 then (some (⟨#[62,62]⟩ : ByteArray)) else (some (⟨#[]⟩ : ByteArray))))))
theorem keelsonref3_Sign.calls (a0 : Int) (r : ByteArray) (w : World) (hG : GL w) (h : keelsonref3_Sign.f a0 = some r) :
  Calls Tryz.prog 44 #[.int .i64 a0] w fun e w' => e = .returned (.string r) ∧ Drawn0 w w' := by
 have H : (if a0 = 1 then (some (⟨#[60,60]⟩ : ByteArray)) else (if a0 = 2 then (some (⟨#[60,61]⟩ : ByteArray)) else (if a0 = 3 then (some (⟨#[61]⟩ : ByteArray)) else (if a0 = 4 then (some (⟨#[62,61]⟩ : ByteArray)) else (if a0 = 5 then (some (⟨#[62,62]⟩ : ByteArray)) else (some (⟨#[]⟩ : ByteArray))))))) = some r := h
 clear h
 by_cases c2 : a0 = 1
 ·rw [if_pos c2] at H
  have c2b0 : (a0 == 1) = true := beq_iff_eq.mpr c2
  have c2b1 : (a0 != 1) = false := bne_eq_false_iff_eq.mpr c2
  clear c2
  obtain rfl := Option.some.inj H
  go_enter Tryz.func44,Tryz.ntmps44
  go_wp2
  go_ret
  exact ⟨by first|rfl|(simp;done)|(simp [*];done)|(simp [qaj];done),by repeat (first|exact Drawn0.refl _|apply Drawn0.step)⟩
 ·rw [if_neg c2] at H
  have c2b0 : (a0 == 1) = false := beq_eq_false_iff_ne.mpr c2
  have c2b1 : (a0 != 1) = true := bne_iff_ne.mpr c2
  by_cases c3 : a0 = 2
  ·rw [if_pos c3] at H
   have c3b0 : (a0 == 2) = true := beq_iff_eq.mpr c3
   have c3b1 : (a0 != 2) = false := bne_eq_false_iff_eq.mpr c3
   clear c3
   obtain rfl := Option.some.inj H
   go_enter Tryz.func44,Tryz.ntmps44
   go_wp2
   go_ret
   exact ⟨by first|rfl|(simp;done)|(simp [*];done)|(simp [qaj];done),by repeat (first|exact Drawn0.refl _|apply Drawn0.step)⟩
  ·rw [if_neg c3] at H
   have c3b0 : (a0 == 2) = false := beq_eq_false_iff_ne.mpr c3
   have c3b1 : (a0 != 2) = true := bne_iff_ne.mpr c3
   by_cases c4 : a0 = 3
   ·rw [if_pos c4] at H
    have c4b0 : (a0 == 3) = true := beq_iff_eq.mpr c4
    have c4b1 : (a0 != 3) = false := bne_eq_false_iff_eq.mpr c4
    clear c4
    obtain rfl := Option.some.inj H
    go_enter Tryz.func44,Tryz.ntmps44
    go_wp2
    go_ret
    exact ⟨by first|rfl|(simp;done)|(simp [*];done)|(simp [qaj];done),by repeat (first|exact Drawn0.refl _|apply Drawn0.step)⟩
   ·rw [if_neg c4] at H
    have c4b0 : (a0 == 3) = false := beq_eq_false_iff_ne.mpr c4
    have c4b1 : (a0 != 3) = true := bne_iff_ne.mpr c4
    by_cases c5 : a0 = 4
    ·rw [if_pos c5] at H
     have c5b0 : (a0 == 4) = true := beq_iff_eq.mpr c5
     have c5b1 : (a0 != 4) = false := bne_eq_false_iff_eq.mpr c5
     clear c5
     obtain rfl := Option.some.inj H
     go_enter Tryz.func44,Tryz.ntmps44
     go_wp2
     go_ret
     exact ⟨by first|rfl|(simp;done)|(simp [*];done)|(simp [qaj];done),by repeat (first|exact Drawn0.refl _|apply Drawn0.step)⟩
    ·rw [if_neg c5] at H
     have c5b0 : (a0 == 4) = false := beq_eq_false_iff_ne.mpr c5
     have c5b1 : (a0 != 4) = true := bne_iff_ne.mpr c5
     by_cases c6 : a0 = 5
     ·rw [if_pos c6] at H
      have c6b0 : (a0 == 5) = true := beq_iff_eq.mpr c6
      have c6b1 : (a0 != 5) = false := bne_eq_false_iff_eq.mpr c6
      clear c6
      obtain rfl := Option.some.inj H
      go_enter Tryz.func44,Tryz.ntmps44
      go_wp2
      go_ret
      exact ⟨by first|rfl|(simp;done)|(simp [*];done)|(simp [qaj];done),by repeat (first|exact Drawn0.refl _|apply Drawn0.step)⟩
     ·rw [if_neg c6] at H
      have c6b0 : (a0 == 5) = false := beq_eq_false_iff_ne.mpr c6
      have c6b1 : (a0 != 5) = true := bne_iff_ne.mpr c6
      obtain rfl := Option.some.inj H
      go_enter Tryz.func44,Tryz.ntmps44
      go_wp2
      go_ret
      exact ⟨by first|rfl|(simp;done)|(simp [*];done)|(simp [qaj];done),by repeat (first|exact Drawn0.refl _|apply Drawn0.step)⟩
def keelsonref3_Op.l0 : Nat → ByteArray → Int → Option (Int × Bool)
 | 0,_,_ => none
 | k + 1,x0,x4 => if x4 ≤ 5 then ((keelsonref3_Sign.f x4).bind fun t285 => (if t285.toList = x0.toList then (some (x4,true)) else (keelsonref3_Op.l0 k x0 (wrap64 (x4 + 1))))) else (some (0,false))
def keelsonref3_Op.f (k : Nat) (a0 : ByteArray) : Option (Int × Bool) := keelsonref3_Op.l0 k a0 1
theorem keelsonref3_Op.mono_l : ∀ k,(∀ y0 y1,LeO (keelsonref3_Op.l0 k y0 y1) (keelsonref3_Op.l0 (k + 1) y0 y1))
 | 0 => fun _ _ r h => by simp [keelsonref3_Op.l0] at h
 | k + 1 => by
  have ih0 := keelsonref3_Op.mono_l k
  ·intro y0 y1
   unfold keelsonref3_Op.l0
   repeat' first
   | (with_reducible exact ih0 _ _)
   | (with_reducible exact LeO.refl _)
   | (with_reducible exact LeO.none _)
   | (with_reducible refine LeO.ite ?_ ?_)
   | (with_reducible refine LeO.bind ?_ (fun _ => ?_))
   | exact ih0 _ _
   | exact LeO.none _
   | refine LeO.ite ?_ ?_
   | refine LeO.bind ?_ (fun _ => ?_)
theorem keelsonref3_Op.mono : ∀ a0 k,LeO (keelsonref3_Op.f k a0) (keelsonref3_Op.f (k + 1) a0) := by
 intro a0 k
 have ih0 := keelsonref3_Op.mono_l k
 unfold keelsonref3_Op.f
 repeat' first
   | (with_reducible exact ih0 _ _)
   | (with_reducible exact LeO.refl _)
   | (with_reducible exact LeO.none _)
   | (with_reducible refine LeO.ite ?_ ?_)
   | (with_reducible refine LeO.bind ?_ (fun _ => ?_))
   | exact ih0 _ _
   | exact LeO.none _
   | refine LeO.ite ?_ ?_
   | refine LeO.bind ?_ (fun _ => ?_)
theorem keelsonref3_Op.calls (k : Nat) (a0 : ByteArray) (r1 : Int) (r2 : Bool) (w : World) (hG : GL w) (h : keelsonref3_Op.f k a0 = some (r1,r2)) :
  Calls Tryz.prog 63 #[.string a0] w fun e w' => e = .returned (.tuple #[.int .i64 r1,.bool r2]) ∧ Drawn0 w w' := by
 have H : (keelsonref3_Op.l0 k a0 1) = some (r1,r2) := h
 clear h
 have H' := Aside0.mk H
 clear H
 go_enter Tryz.func63,Tryz.ntmps63
 go_wp2
 go_loopg [4] k (fun kq v4 w' => ∃ (x4_1 : Int),v4 = .int .i64 x4_1 ∧ Aside0 (keelsonref3_Op.l0 kq a0 x4_1 = some (r1,r2)) ∧ Aside0 (kq ≤ k) ∧ Drawn0 w w')
 case atStart => exact ⟨(1),(by first|rfl|(simp;done)|(simp [*];done)|(simp [qaj];done)),H',⟨Nat.le_refl _⟩,by repeat (first|exact Drawn0.refl _|apply Drawn0.step)⟩
 case round =>
  clear H'
  obtain ⟨x4_1,rfl,HA,HK1,⟨m1,rfl⟩⟩ := hrel
  cases gk with
  | zero => exact absurd HA.out (by simp [keelsonref3_Op.l0])
  | succ k1 =>
   have H := HA.out
   clear HA
   simp only [keelsonref3_Op.l0] at H
   by_cases c2 : x4_1 ≤ 5
   ·rw [if_pos c2] at H
    have c2b0 : decide (x4_1 ≤ 5) = true := decide_eq_true c2
    clear c2
    replace H := Option.bind_eq_some_iff.mp H
    obtain ⟨t285,A30,H⟩ := H
    replace H : (if t285.toList = a0.toList then (some (x4_1,true)) else (keelsonref3_Op.l0 k1 a0 (wrap64 (x4_1 + 1)))) = some (r1,r2) := H
    have A3 := Aside0.mk A30
    clear A30
    by_cases c4 : t285.toList = a0.toList
    ·rw [if_pos c4] at H
     have c4b0 : (t285.toList == a0.toList) = true := beq_iff_eq.mpr c4
     have c4b1 : (t285.toList != a0.toList) = false := bne_eq_false_iff_eq.mpr c4
     clear c4
     simp only [Option.some.injEq,Prod.mk.injEq] at H
     obtain ⟨rfl,rfl⟩ := H
     go_wp2_with (first|((with_reducible refine qak (f := 44) rfl ?_);refine goesL_ (some 10) rfl rfl Tryz.func44 (by kernel_rfl) rfl #[.int .i64 x4_1] rfl (by first|rfl|(simp only [List.map_toArray,List.map_cons,List.map_nil,List.length_drop,List.length_take];rfl)|simp only [List.map_toArray,List.map_cons,List.map_nil]) ?_;(with_reducible refine (keelsonref3_Sign.calls x4_1 t285 _ (by first|exact hG|(repeat (first|exact hG|apply GL.drewN|apply GL.drew)))  A3.out).mono ?_);rintro e w' ⟨rfl,⟨nd,rfl⟩⟩;refine ⟨_,rfl,?_⟩))
     go_ret2
     exact ⟨by first|rfl|(simp;done)|(simp [*];done)|(simp [qaj];done),by repeat (first|exact Drawn0.refl _|apply Drawn0.step)⟩
    ·rw [if_neg c4] at H
     have c4b0 : (t285.toList == a0.toList) = false := beq_eq_false_iff_ne.mpr c4
     have c4b1 : (t285.toList != a0.toList) = true := bne_iff_ne.mpr c4
     have H' := Aside0.mk H
     clear H
     go_wp2_with (first|((with_reducible refine qak (f := 44) rfl ?_);refine goesL_ (some 10) rfl rfl Tryz.func44 (by kernel_rfl) rfl #[.int .i64 x4_1] rfl (by first|rfl|(simp only [List.map_toArray,List.map_cons,List.map_nil,List.length_drop,List.length_take];rfl)|simp only [List.map_toArray,List.map_cons,List.map_nil]) ?_;(with_reducible refine (keelsonref3_Sign.calls x4_1 t285 _ (by first|exact hG|(repeat (first|exact hG|apply GL.drewN|apply GL.drew)))  A3.out).mono ?_);rintro e w' ⟨rfl,⟨nd,rfl⟩⟩;refine ⟨_,rfl,?_⟩))
     go_roundg k1
     case measure => have := HK1.out;omega
     case rel => exact ⟨(wrap64 (x4_1 + 1)),(by first|rfl|(simp;done)|(simp [*];done)|(simp [qaj];done)),H',⟨by have := HK1.out;omega⟩,by repeat (first|exact Drawn0.refl _|apply Drawn0.step)⟩
   ·rw [if_neg c2] at H
    have c2b0 : decide (x4_1 ≤ 5) = false := decide_eq_false c2
    clear c2
    simp only [Option.some.injEq,Prod.mk.injEq] at H
    obtain ⟨rfl,rfl⟩ := H
    go_wp2
    go_ret2
    exact ⟨by first|rfl|(simp;done)|(simp [*];done)|(simp [qaj];done),by repeat (first|exact Drawn0.refl _|apply Drawn0.step)⟩
mutual
def keelsonref3_Parse.j0 : Nat → ByteArray → ByteArray → Bool → Option (ByteArray × Int × ByteArray × Int)
 | 0,_,_,_ => none
 | k + 1,x4,x5,x44 => if x44 = true then (some ((⟨#[]⟩ : ByteArray),0,(⟨#[]⟩ : ByteArray),5)) else (if 1 ≤ (wrap64 ((x5.size : Int) - 1)) then (if (wrap64 ((x5.size : Int) - 1)) ≤ (x5.size : Int) then ((keelsonref3_cut.f k (x5.extract 1 ((wrap64 ((x5.size : Int) - 1)) : Int).toNat)).bind fun bt291 => ((keelsonref3_Op.f k bt291.1).bind fun bt294 => (if bt291.2.2 = true then (keelsonref3_Parse.j1 k x4 bt291.2.1 bt294.1 (!bt294.2)) else (keelsonref3_Parse.j1 k x4 bt291.2.1 bt294.1 true)))) else (none)) else (none))
def keelsonref3_Parse.j1 : Nat → ByteArray → ByteArray → Int → Bool → Option (ByteArray × Int × ByteArray × Int)
 | 0,_,_,_,_ => none
 | k + 1,x4,x9,x11,x66 => if x66 = true then (some ((⟨#[]⟩ : ByteArray),0,(⟨#[]⟩ : ByteArray),5)) else ((keelsonref3_plain.f k x9).bind fun t296 => (if t296 = true then (some (x4,x11,x9,0)) else (some ((⟨#[]⟩ : ByteArray),0,(⟨#[]⟩ : ByteArray),4))))
end
def keelsonref3_Parse.f (k : Nat) (a0 : ByteArray) : Option (ByteArray × Int × ByteArray × Int) := (keelsonref3_cut.f k a0).bind fun bt287 => ((keelsonref3_Name.f k bt287.1).bind fun t290 => (if t290 = true then (if bt287.2.2 = true then (if (bt287.2.1.size : Int) < 2 then (keelsonref3_Parse.j0 k bt287.1 bt287.2.1 true) else (if 0 < (bt287.2.1.size : Int) then (if (bt bt287.2.1 0) = 40 then (if 0 ≤ (wrap64 ((bt287.2.1.size : Int) - 1)) then (if (wrap64 ((bt287.2.1.size : Int) - 1)) < (bt287.2.1.size : Int) then (keelsonref3_Parse.j0 k bt287.1 bt287.2.1 ((bt bt287.2.1 (wrap64 ((bt287.2.1.size : Int) - 1))) != 41)) else (none)) else (none)) else (keelsonref3_Parse.j0 k bt287.1 bt287.2.1 true)) else (none))) else (some (bt287.1,0,(⟨#[]⟩ : ByteArray),0))) else (some ((⟨#[]⟩ : ByteArray),0,(⟨#[]⟩ : ByteArray),3))))
theorem keelsonref3_Parse.mono_l : ∀ k,(∀ y0 y1 y2,LeO (keelsonref3_Parse.j0 k y0 y1 y2) (keelsonref3_Parse.j0 (k + 1) y0 y1 y2)) ∧ (∀ y0 y1 y2 y3,LeO (keelsonref3_Parse.j1 k y0 y1 y2 y3) (keelsonref3_Parse.j1 (k + 1) y0 y1 y2 y3))
 | 0 => ⟨fun _ _ _ r h => by simp [keelsonref3_Parse.j0] at h,fun _ _ _ _ r h => by simp [keelsonref3_Parse.j1] at h⟩
 | k + 1 => by
  obtain ⟨ih0,ih1⟩ := keelsonref3_Parse.mono_l k
  refine ⟨?_,?_⟩
  ·intro y0 y1 y2
   unfold keelsonref3_Parse.j0
   repeat' first
   | (with_reducible exact ih0 _ _ _)
   | (with_reducible exact ih1 _ _ _ _)
   | (with_reducible exact keelsonref3_Name.mono _ _)
   | (with_reducible exact keelsonref3_Op.mono _ _)
   | (with_reducible exact keelsonref3_cut.mono _ _)
   | (with_reducible exact keelsonref3_plain.mono _ _)
   | (with_reducible exact LeO.refl _)
   | (with_reducible exact LeO.none _)
   | (with_reducible refine LeO.ite ?_ ?_)
   | (with_reducible refine LeO.bind ?_ (fun _ => ?_))
   | exact ih0 _ _ _
   | exact ih1 _ _ _ _
   | exact keelsonref3_Name.mono _ _
   | exact keelsonref3_Op.mono _ _
   | exact keelsonref3_cut.mono _ _
   | exact keelsonref3_plain.mono _ _
   | exact LeO.none _
   | refine LeO.ite ?_ ?_
   | refine LeO.bind ?_ (fun _ => ?_)
  ·intro y0 y1 y2 y3
   unfold keelsonref3_Parse.j1
   repeat' first
   | (with_reducible exact ih0 _ _ _)
   | (with_reducible exact ih1 _ _ _ _)
   | (with_reducible exact keelsonref3_Name.mono _ _)
   | (with_reducible exact keelsonref3_Op.mono _ _)
   | (with_reducible exact keelsonref3_cut.mono _ _)
   | (with_reducible exact keelsonref3_plain.mono _ _)
   | (with_reducible exact LeO.refl _)
   | (with_reducible exact LeO.none _)
   | (with_reducible refine LeO.ite ?_ ?_)
   | (with_reducible refine LeO.bind ?_ (fun _ => ?_))
   | exact ih0 _ _ _
   | exact ih1 _ _ _ _
   | exact keelsonref3_Name.mono _ _
   | exact keelsonref3_Op.mono _ _
   | exact keelsonref3_cut.mono _ _
   | exact keelsonref3_plain.mono _ _
   | exact LeO.none _
   | refine LeO.ite ?_ ?_
   | refine LeO.bind ?_ (fun _ => ?_)
theorem keelsonref3_Parse.mono : ∀ a0 k,LeO (keelsonref3_Parse.f k a0) (keelsonref3_Parse.f (k + 1) a0) := by
 intro a0 k
 obtain ⟨ih0,ih1⟩ := keelsonref3_Parse.mono_l k
 unfold keelsonref3_Parse.f
 repeat' first
   | (with_reducible exact ih0 _ _ _)
   | (with_reducible exact ih1 _ _ _ _)
   | (with_reducible exact keelsonref3_Name.mono _ _)
   | (with_reducible exact keelsonref3_Op.mono _ _)
   | (with_reducible exact keelsonref3_cut.mono _ _)
   | (with_reducible exact keelsonref3_plain.mono _ _)
   | (with_reducible exact LeO.refl _)
   | (with_reducible exact LeO.none _)
   | (with_reducible refine LeO.ite ?_ ?_)
   | (with_reducible refine LeO.bind ?_ (fun _ => ?_))
   | exact ih0 _ _ _
   | exact ih1 _ _ _ _
   | exact keelsonref3_Name.mono _ _
   | exact keelsonref3_Op.mono _ _
   | exact keelsonref3_cut.mono _ _
   | exact keelsonref3_plain.mono _ _
   | exact LeO.none _
   | refine LeO.ite ?_ ?_
   | refine LeO.bind ?_ (fun _ => ?_)
theorem keelsonref3_Parse.calls (k : Nat) (a0 : ByteArray) (r1 : ByteArray) (r2 : Int) (r3 : ByteArray) (r4 : Int) (w : World) (hG : GL w) (h : keelsonref3_Parse.f k a0 = some (r1,r2,r3,r4)) :
  Calls Tryz.prog 35 #[.string a0] w fun e w' => e = .returned (.tuple #[.agg #[.string r1,.int .i64 r2,.string r3],.int .i64 r4]) ∧ Below w.heap.size w w' := by
 have hu39 := Tryz.underlying39
 have HB := Aside0.mk (Below.refl w.heap.size w)
 have H : ((keelsonref3_cut.f k a0).bind fun bt287 => ((keelsonref3_Name.f k bt287.1).bind fun t290 => (if t290 = true then (if bt287.2.2 = true then (if (bt287.2.1.size : Int) < 2 then (keelsonref3_Parse.j0 k bt287.1 bt287.2.1 true) else (if 0 < (bt287.2.1.size : Int) then (if (bt bt287.2.1 0) = 40 then (if 0 ≤ (wrap64 ((bt287.2.1.size : Int) - 1)) then (if (wrap64 ((bt287.2.1.size : Int) - 1)) < (bt287.2.1.size : Int) then (keelsonref3_Parse.j0 k bt287.1 bt287.2.1 ((bt bt287.2.1 (wrap64 ((bt287.2.1.size : Int) - 1))) != 41)) else (none)) else (none)) else (keelsonref3_Parse.j0 k bt287.1 bt287.2.1 true)) else (none))) else (some (bt287.1,0,(⟨#[]⟩ : ByteArray),0))) else (some ((⟨#[]⟩ : ByteArray),0,(⟨#[]⟩ : ByteArray),3))))) = some (r1,r2,r3,r4) := h
 clear h
 replace H := Option.bind_eq_some_iff.mp H
 obtain ⟨⟨t287,t288,t289⟩,A20,H⟩ := H
 replace H : ((keelsonref3_Name.f k t287).bind fun t290 => (if t290 = true then (if t289 = true then (if (t288.size : Int) < 2 then (keelsonref3_Parse.j0 k t287 t288 true) else (if 0 < (t288.size : Int) then (if (bt t288 0) = 40 then (if 0 ≤ (wrap64 ((t288.size : Int) - 1)) then (if (wrap64 ((t288.size : Int) - 1)) < (t288.size : Int) then (keelsonref3_Parse.j0 k t287 t288 ((bt t288 (wrap64 ((t288.size : Int) - 1))) != 41)) else (none)) else (none)) else (keelsonref3_Parse.j0 k t287 t288 true)) else (none))) else (some (t287,0,(⟨#[]⟩ : ByteArray),0))) else (some ((⟨#[]⟩ : ByteArray),0,(⟨#[]⟩ : ByteArray),3)))) = some (r1,r2,r3,r4) := H
 have A2 := Aside0.mk A20
 clear A20
 replace H := Option.bind_eq_some_iff.mp H
 obtain ⟨t290,A30,H⟩ := H
 replace H : (if t290 = true then (if t289 = true then (if (t288.size : Int) < 2 then (keelsonref3_Parse.j0 k t287 t288 true) else (if 0 < (t288.size : Int) then (if (bt t288 0) = 40 then (if 0 ≤ (wrap64 ((t288.size : Int) - 1)) then (if (wrap64 ((t288.size : Int) - 1)) < (t288.size : Int) then (keelsonref3_Parse.j0 k t287 t288 ((bt t288 (wrap64 ((t288.size : Int) - 1))) != 41)) else (none)) else (none)) else (keelsonref3_Parse.j0 k t287 t288 true)) else (none))) else (some (t287,0,(⟨#[]⟩ : ByteArray),0))) else (some ((⟨#[]⟩ : ByteArray),0,(⟨#[]⟩ : ByteArray),3))) = some (r1,r2,r3,r4) := H
 have A3 := Aside0.mk A30
 clear A30
 by_cases c4 : t290 = true
 ·subst c4
  have H1 : (if t289 = true then (if (t288.size : Int) < 2 then (keelsonref3_Parse.j0 k t287 t288 true) else (if 0 < (t288.size : Int) then (if (bt t288 0) = 40 then (if 0 ≤ (wrap64 ((t288.size : Int) - 1)) then (if (wrap64 ((t288.size : Int) - 1)) < (t288.size : Int) then (keelsonref3_Parse.j0 k t287 t288 ((bt t288 (wrap64 ((t288.size : Int) - 1))) != 41)) else (none)) else (none)) else (keelsonref3_Parse.j0 k t287 t288 true)) else (none))) else (some (t287,0,(⟨#[]⟩ : ByteArray),0))) = some (r1,r2,r3,r4) := by rw [if_pos rfl] at H;exact H
  clear H
  have H := H1
  clear H1
  by_cases c5 : t289 = true
  ·subst c5
   have H1 : (if (t288.size : Int) < 2 then (keelsonref3_Parse.j0 k t287 t288 true) else (if 0 < (t288.size : Int) then (if (bt t288 0) = 40 then (if 0 ≤ (wrap64 ((t288.size : Int) - 1)) then (if (wrap64 ((t288.size : Int) - 1)) < (t288.size : Int) then (keelsonref3_Parse.j0 k t287 t288 ((bt t288 (wrap64 ((t288.size : Int) - 1))) != 41)) else (none)) else (none)) else (keelsonref3_Parse.j0 k t287 t288 true)) else (none))) = some (r1,r2,r3,r4) := by rw [if_pos rfl] at H;exact H
   clear H
   have H := H1
   clear H1
   have HC6 := Aside0.mk H
   clear H
   go_enter Tryz.func35,Tryz.ntmps35
   go_upto_region 7 with (first|((with_reducible refine gate_dst (N := 2) rfl ?_);(try (refine gate_guard (by rfl) ?_;dsimp only));refine box_event ?hg (N := 2) ?hd (cs := #[.string (⟨#[]⟩ : ByteArray),.int .i64 0,.string (⟨#[]⟩ : ByteArray)]) (t := 39) ?hr ?_;(case hd => rfl);(case hg => rfl);(case hr => first|(go_simp;done)|(go_simp;rfl));intro gb286 hg w7 hbox hb;have n0_ := Aside0.mk (qan (by repeat (with_reducible first|exact HB.out|apply qab|apply qaa|apply qac)) hb);have n1_ := Aside0.mk (hbox);have n2_ := Aside0.mk ((by rw [hg];exact (qao (by repeat (with_reducible first|exact HB.out|apply qab|apply qaa|apply qac))) : w.heap.size ≤ gb286));have n3_ := Aside0.mk ((by rw [hg];exact (qao (by repeat (with_reducible first|exact HB.out|apply qab|apply qaa|apply qac))) : w.heap.size ≤ gb286));clear HB;have HB := n0_;have BK286 := n1_;have GW286 := n2_;have GE286 := n3_;clear n0_ n1_ n2_ n3_;clear hb hbox hg)|((with_reducible refine qak (f := 62) rfl ?_);refine goesL_ (some 16) rfl rfl Tryz.func62 (by kernel_rfl) rfl #[.string a0] rfl (by first|rfl|(simp only [List.map_toArray,List.map_cons,List.map_nil,List.length_drop,List.length_take];rfl)|simp only [List.map_toArray,List.map_cons,List.map_nil]) ?_;(with_reducible refine (keelsonref3_cut.calls k a0 t287 t288 true _ (by first|exact hG|exact GL.below hG (by repeat (first|(with_reducible first|exact HB.out|apply qab|apply qaa|apply qac|refine qae ?_ GE286.out)|exact HB.out)))  A2.out).mono ?_);rintro e w' ⟨rfl,⟨nd,rfl⟩⟩;refine ⟨_,rfl,?_⟩)|((with_reducible refine qak (f := 42) rfl ?_);refine goesL_ (some 21) rfl rfl Tryz.func42 (by kernel_rfl) rfl #[.string t287] rfl (by first|rfl|(simp only [List.map_toArray,List.map_cons,List.map_nil,List.length_drop,List.length_take];rfl)|simp only [List.map_toArray,List.map_cons,List.map_nil]) ?_;(with_reducible refine (keelsonref3_Name.calls k t287 true _ (by first|exact hG|exact GL.below hG (by repeat (first|(with_reducible first|exact HB.out|apply qab|apply qaa|apply qac|refine qae ?_ GE286.out)|exact HB.out)))  A3.out).mono ?_);rintro e w' ⟨rfl,⟨nd,rfl⟩⟩;refine ⟨_,rfl,?_⟩))
   (try simp only [Act.put,List.setIfInBounds_toArray,List.set_cons_zero,List.set_cons_succ])
   go_cut [44] (fun v44 wc => ∃ (kq : Nat) (x44_5 : Bool),v44 = .bool x44_5 ∧ Aside0 (keelsonref3_Parse.j0 kq t287 t288 x44_5 = some (r1,r2,r3,r4)) ∧ Aside0 (kq ≤ k) ∧ Aside0 (wc.heap[gb286]? = some (.cells #[.string (⟨#[]⟩ : ByteArray),.int .i64 0,.string (⟨#[]⟩ : ByteArray)] 39 (0,0))) ∧ Aside0 (Below w.heap.size w wc))
   case first =>
    have H := HC6.out
    clear HC6
    by_cases c8 : (t288.size : Int) < 2
    ·rw [if_pos c8] at H
     have c8b0 : decide ((t288.size : Int) < 2) = true := decide_eq_true c8
     have c8b1 : decide (t288.size < 2) = true := decide_eq_true (by omega)
     clear c8
     (first|rw [c8b0]|(simp only [i64_w,i32_w];rw [c8b0]) | skip)
     have H' := Aside0.mk H
     clear H
     go_wp2
     go_meet
     case rel => exact ⟨_,(true),(by first|rfl|(simp;done)|(simp [*];done)|(simp [qaj];done)),H',⟨by first|omega|exact Nat.le_refl _⟩,⟨by (with_reducible repeat (first|refine qah ?_ _|refine qai ?_|refine qag ?_ _));exact BK286.out⟩,⟨by repeat (first|(with_reducible first|exact HB.out|apply qab|apply qaa|apply qac|refine qae ?_ GE286.out)|exact HB.out)⟩⟩
    ·rw [if_neg c8] at H
     have c8b0 : decide ((t288.size : Int) < 2) = false := decide_eq_false c8
     have c8b1 : decide (t288.size < 2) = false := decide_eq_false (by omega)
     clear c8
     (first|rw [c8b0]|(simp only [i64_w,i32_w];rw [c8b0]) | skip)
     by_cases c9 : 0 < (t288.size : Int)
     ·rw [if_pos c9] at H
      have c9b0 : decide (0 < (t288.size : Int)) = true := decide_eq_true c9
      have c9b1 : decide (0 < t288.size) = true := decide_eq_true (by omega)
      clear c9
      by_cases c11 : (bt t288 0) = 40
      ·rw [if_pos c11] at H
       have c11b0 : ((bt t288 0) == 40) = true := beq_iff_eq.mpr c11
       have c11b1 : ((bt t288 0) != 40) = false := bne_eq_false_iff_eq.mpr c11
       clear c11
       obtain ⟨ji12,hji12⟩ : ∃ j_ : Int,(wrap64 ((t288.size : Int) - 1)) = j_ := ⟨_,rfl⟩
       replace H : (if 0 ≤ (ji12) then (if (ji12) < (t288.size : Int) then (keelsonref3_Parse.j0 k t287 t288 ((bt t288 (ji12)) != 41)) else (none)) else (none)) = some (r1,r2,r3,r4) := by first|(rw [hji12] at H;exact H)|(simp only [hji12] at H ⊢;exact H)
       have hji12w : (IntKind.i64.wrap ((t288.size : Int) - 1)) = ji12 := (i64_w _).trans hji12
       by_cases c13 : 0 ≤ (ji12)
       ·rw [if_pos c13] at H
        have c13b0 : decide (0 ≤ (ji12)) = true := decide_eq_true c13
        clear c13
        by_cases c14 : (ji12) < (t288.size : Int)
        ·rw [if_pos c14] at H
         have c14b0 : decide ((ji12) < (t288.size : Int)) = true := decide_eq_true c14
         clear c14
         have H' := Aside0.mk H
         clear H
         have p10 : 0 ≤ (0 : Int) := (by omega)
         have q10 : 0 < t288.size := (by have : (0 : Int) < (t288.size : Int) := of_decide_eq_true (by assumption);omega)
         have hx10 : ∀ h : 0 < t288.size,((t288[0]'h).toNat : Int) = bt t288 0 := bt_at t288 0
         clear p10
         have qi10 : (0 < (t288.size : Int)) = True := eq_true (of_decide_eq_true (by assumption))
         replace q10 := eq_true q10
         have p15 : 0 ≤ ((ji12) : Int) := of_decide_eq_true (by assumption)
         have q15 : (ji12) < (t288.size : Int) := of_decide_eq_true (by assumption)
         have hx15 := bt_at t288 (ji12)
         replace p15 := eq_true p15
         replace q15 := eq_true q15
         go_wp2
         go_meet
         case rel => exact ⟨_,(((bt t288 (ji12)) != 41)),(by first|rfl|(simp;done)|(simp only [← hji12]<;>(first|rfl|simp))|(simp [*];done)),H',⟨by first|omega|exact Nat.le_refl _⟩,⟨by (with_reducible repeat (first|refine qah ?_ _|refine qai ?_|refine qag ?_ _));exact BK286.out⟩,⟨by repeat (first|(with_reducible first|exact HB.out|apply qab|apply qaa|apply qac|refine qae ?_ GE286.out)|exact HB.out)⟩⟩
        ·rw [if_neg c14] at H
         exact absurd H (by simp)
       ·rw [if_neg c13] at H
        exact absurd H (by simp)
      ·rw [if_neg c11] at H
       have c11b0 : ((bt t288 0) == 40) = false := beq_eq_false_iff_ne.mpr c11
       have c11b1 : ((bt t288 0) != 40) = true := bne_iff_ne.mpr c11
       have H' := Aside0.mk H
       clear H
       have p10 : 0 ≤ (0 : Int) := (by omega)
       have q10 : 0 < t288.size := (by have : (0 : Int) < (t288.size : Int) := of_decide_eq_true (by assumption);omega)
       have hx10 : ∀ h : 0 < t288.size,((t288[0]'h).toNat : Int) = bt t288 0 := bt_at t288 0
       clear p10
       have qi10 : (0 < (t288.size : Int)) = True := eq_true (of_decide_eq_true (by assumption))
       replace q10 := eq_true q10
       go_wp2
       go_meet
       case rel => exact ⟨_,(true),(by first|rfl|(simp;done)|(simp [*];done)|(simp [qaj];done)),H',⟨by first|omega|exact Nat.le_refl _⟩,⟨by (with_reducible repeat (first|refine qah ?_ _|refine qai ?_|refine qag ?_ _));exact BK286.out⟩,⟨by repeat (first|(with_reducible first|exact HB.out|apply qab|apply qaa|apply qac|refine qae ?_ GE286.out)|exact HB.out)⟩⟩
     ·rw [if_neg c9] at H
      exact absurd H (by simp)
   case rest =>
    clear HC6
    try clear c1
    try clear p1
    try clear q1
    try clear hx1
    try clear qi1
    try clear p2
    try clear c3
    try clear c4
    try clear c5
    try clear c6
    try clear p6
    try clear c8
    try clear c8b0
    try clear c8b1
    try clear c9
    try clear c9b0
    try clear c9b1
    try clear p10
    try clear q10
    try clear hx10
    try clear qi10
    try clear c11
    try clear c11b0
    try clear c11b1
    try clear c13
    try clear c13b0
    try clear c14
    try clear c14b0
    try clear p15
    try clear q15
    try clear hx15
    try clear p10
    try clear p15
    try clear q10
    try clear q15
    obtain ⟨kq,x44_5,rfl,HA,HJ5,BK286,HB⟩ := hcut
    cases kq with
    | zero => exact absurd HA.out (by simp [keelsonref3_Parse.j0])
    | succ kj5 =>
     have H := HA.out
     clear HA
     simp only [keelsonref3_Parse.j0] at H
     by_cases c16 : x44_5 = true
     ·subst c16
      have H1 : (some ((⟨#[]⟩ : ByteArray),0,(⟨#[]⟩ : ByteArray),5)) = some (r1,r2,r3,r4) := by rw [if_pos rfl] at H;exact H
      clear H
      have H := H1
      clear H1
      simp only [Option.some.injEq,Prod.mk.injEq] at H
      obtain ⟨rfl,rfl,rfl,rfl⟩ := H
      have hcz17_0 : wc.cell? ⟨gb286,0,none⟩ = some (.string (⟨#[]⟩ : ByteArray)) := (qaf BK286.out 0).trans rfl
      have hcz17_1 : wc.cell? ⟨gb286,1,none⟩ = some (.int .i64 0) := (qaf BK286.out 1).trans rfl
      have hcz17_2 : wc.cell? ⟨gb286,2,none⟩ = some (.string (⟨#[]⟩ : ByteArray)) := (qaf BK286.out 2).trans rfl
      have hfz17_0 := qad BK286.out 0
      have hfz17_1 := qad BK286.out 1
      have hfz17_2 := qad BK286.out 2
      go_wp2
      refine bodyPost_ret (results_ct rfl _ _ gb286 39 #[.string (⟨#[]⟩ : ByteArray),.int .i64 0,.string (⟨#[]⟩ : ByteArray)] (0,0) _ rfl (by (with_reducible repeat (first|refine qah ?_ _|refine qai ?_|refine qag ?_ _));refine blk_put (cs := #[.string (⟨#[]⟩ : ByteArray),.int .i64 0,.string (⟨#[]⟩ : ByteArray)]) ?_ 2 _ rfl;(with_reducible repeat (first|refine qah ?_ _|refine qai ?_|refine qag ?_ _));refine blk_put (cs := #[.string (⟨#[]⟩ : ByteArray),.int .i64 0,.string (⟨#[]⟩ : ByteArray)]) ?_ 1 _ rfl;(with_reducible repeat (first|refine qah ?_ _|refine qai ?_|refine qag ?_ _));refine blk_put (cs := #[.string (⟨#[]⟩ : ByteArray),.int .i64 0,.string (⟨#[]⟩ : ByteArray)]) ?_ 0 _ rfl;(with_reducible repeat (first|refine qah ?_ _|refine qai ?_|refine qag ?_ _));exact BK286.out) Tryz.underlying39 rfl (by kernel_rfl)) rfl ?_
      exact ⟨by first|rfl|(simp [qal,qam]<;>rfl)|(simp [*,qal,qam]<;>rfl),by repeat (first|(with_reducible first|exact HB.out|apply qab|apply qaa|apply qac|refine qae ?_ GE286.out)|exact HB.out)⟩
     ·replace c16 := Bool.eq_false_iff.mpr c16
      subst c16
      have H1 : (if 1 ≤ (wrap64 ((t288.size : Int) - 1)) then (if (wrap64 ((t288.size : Int) - 1)) ≤ (t288.size : Int) then ((keelsonref3_cut.f kj5 (t288.extract 1 ((wrap64 ((t288.size : Int) - 1)) : Int).toNat)).bind fun bt291 => ((keelsonref3_Op.f kj5 bt291.1).bind fun bt294 => (if bt291.2.2 = true then (keelsonref3_Parse.j1 kj5 t287 bt291.2.1 bt294.1 (!bt294.2)) else (keelsonref3_Parse.j1 kj5 t287 bt291.2.1 bt294.1 true)))) else (none)) else (none)) = some (r1,r2,r3,r4) := by rw [if_neg (show ¬ (false = true) by decide)] at H;exact H
      clear H
      have H := H1
      clear H1
      by_cases c18 : 1 ≤ (wrap64 ((t288.size : Int) - 1))
      ·rw [if_pos c18] at H
       have c18b0 := eq_true c18
       have c18b1 : decide (1 ≤ (wrap64 ((t288.size : Int) - 1))) = true := decide_eq_true c18
       clear c18
       by_cases c19 : (wrap64 ((t288.size : Int) - 1)) ≤ (t288.size : Int)
       ·rw [if_pos c19] at H
        have c19b0 := eq_true c19
        have c19b1 : decide ((wrap64 ((t288.size : Int) - 1)) ≤ (t288.size : Int)) = true := decide_eq_true c19
        clear c19
        replace H := Option.bind_eq_some_iff.mp H
        obtain ⟨⟨t291,t292,t293⟩,A200,H⟩ := H
        replace H : ((keelsonref3_Op.f kj5 t291).bind fun bt294 => (if t293 = true then (keelsonref3_Parse.j1 kj5 t287 t292 bt294.1 (!bt294.2)) else (keelsonref3_Parse.j1 kj5 t287 t292 bt294.1 true))) = some (r1,r2,r3,r4) := H
        have A20 := Aside0.mk A200
        clear A200
        replace H := Option.bind_eq_some_iff.mp H
        obtain ⟨⟨t294,t295⟩,A210,H⟩ := H
        replace H : (if t293 = true then (keelsonref3_Parse.j1 kj5 t287 t292 t294 (!t295)) else (keelsonref3_Parse.j1 kj5 t287 t292 t294 true)) = some (r1,r2,r3,r4) := H
        have A21 := Aside0.mk A210
        clear A210
        have HC22 := Aside0.mk H
        clear H
        go_upto_region 11 with (first|((with_reducible refine qak (f := 62) rfl ?_);refine goesL_ (some 52) rfl rfl Tryz.func62 (by kernel_rfl) rfl #[.string (t288.extract 1 ((wrap64 ((t288.size : Int) - 1)) : Int).toNat)] rfl (by first|rfl|(simp only [List.map_toArray,List.map_cons,List.map_nil,List.length_drop,List.length_take];rfl)|simp only [List.map_toArray,List.map_cons,List.map_nil]) ?_;(with_reducible refine (keelsonref3_cut.calls kj5 (t288.extract 1 ((wrap64 ((t288.size : Int) - 1)) : Int).toNat) t291 t292 t293 _ (by first|exact hG|exact GL.below hG (by repeat (first|(with_reducible first|exact HB.out|apply qab|apply qaa|apply qac|refine qae ?_ GE286.out)|exact HB.out)))  A20.out).mono ?_);rintro e w' ⟨rfl,⟨nd,rfl⟩⟩;refine ⟨_,rfl,?_⟩)|((with_reducible refine qak (f := 63) rfl ?_);refine goesL_ (some 58) rfl rfl Tryz.func63 (by kernel_rfl) rfl #[.string t291] rfl (by first|rfl|(simp only [List.map_toArray,List.map_cons,List.map_nil,List.length_drop,List.length_take];rfl)|simp only [List.map_toArray,List.map_cons,List.map_nil]) ?_;(with_reducible refine (keelsonref3_Op.calls kj5 t291 t294 t295 _ (by first|exact hG|exact GL.below hG (by repeat (first|(with_reducible first|exact HB.out|apply qab|apply qaa|apply qac|refine qae ?_ GE286.out)|exact HB.out)))  A21.out).mono ?_);rintro e w' ⟨rfl,⟨nd,rfl⟩⟩;refine ⟨_,rfl,?_⟩))
        (try simp only [Act.put,List.setIfInBounds_toArray,List.set_cons_zero,List.set_cons_succ])
        go_cut [66] (fun v66 wc => ∃ (kq : Nat) (x66_21 : Bool),v66 = .bool x66_21 ∧ Aside0 (keelsonref3_Parse.j1 kq t287 t292 t294 x66_21 = some (r1,r2,r3,r4)) ∧ Aside0 (kq ≤ kj5) ∧ Aside0 (wc.heap[gb286]? = some (.cells #[.string (⟨#[]⟩ : ByteArray),.int .i64 0,.string (⟨#[]⟩ : ByteArray)] 39 (0,0))) ∧ Aside0 (Below w.heap.size w wc))
        case first =>
         have H := HC22.out
         clear HC22
         by_cases c23 : t293 = true
         ·subst c23
          have H1 : (keelsonref3_Parse.j1 kj5 t287 t292 t294 (!t295)) = some (r1,r2,r3,r4) := by rw [if_pos rfl] at H;exact H
          clear H
          have H := H1
          clear H1
          have H' := Aside0.mk H
          clear H
          go_wp2
          go_meet
          case rel => exact ⟨_,(!t295),(by first|rfl|(simp;done)|(simp [*];done)|(simp [qaj];done)),H',⟨by have := HJ5.out;first|omega|exact Nat.le_refl _⟩,⟨by (with_reducible repeat (first|refine qah ?_ _|refine qai ?_|refine qag ?_ _));exact BK286.out⟩,⟨by repeat (first|(with_reducible first|exact HB.out|apply qab|apply qaa|apply qac|refine qae ?_ GE286.out)|exact HB.out)⟩⟩
         ·replace c23 := Bool.eq_false_iff.mpr c23
          subst c23
          have H1 : (keelsonref3_Parse.j1 kj5 t287 t292 t294 true) = some (r1,r2,r3,r4) := by rw [if_neg (show ¬ (false = true) by decide)] at H;exact H
          clear H
          have H := H1
          clear H1
          have H' := Aside0.mk H
          clear H
          go_wp2
          go_meet
          case rel => exact ⟨_,(true),(by first|rfl|(simp;done)|(simp [*];done)|(simp [qaj];done)),H',⟨by have := HJ5.out;first|omega|exact Nat.le_refl _⟩,⟨by (with_reducible repeat (first|refine qah ?_ _|refine qai ?_|refine qag ?_ _));exact BK286.out⟩,⟨by repeat (first|(with_reducible first|exact HB.out|apply qab|apply qaa|apply qac|refine qae ?_ GE286.out)|exact HB.out)⟩⟩
        case rest =>
         clear HC22
         try clear c1
         try clear p1
         try clear q1
         try clear hx1
         try clear qi1
         try clear c2
         try clear p2
         try clear c3
         try clear c4
         try clear c5
         try clear c6
         try clear p6
         try clear c8
         try clear c8b0
         try clear c8b1
         try clear c9
         try clear c9b0
         try clear c9b1
         try clear p10
         try clear q10
         try clear hx10
         try clear qi10
         try clear c11
         try clear c11b0
         try clear c11b1
         try clear c13
         try clear c13b0
         try clear c14
         try clear c14b0
         try clear p15
         try clear q15
         try clear hx15
         try clear c16
         try clear c18
         try clear c18b0
         try clear c18b1
         try clear c19
         try clear c19b0
         try clear c19b1
         try clear c23
         try clear hcz17_0
         try clear hcz17_1
         try clear hcz17_2
         try clear hfz17_0
         try clear hfz17_1
         try clear hfz17_2
         try clear p1
         try clear p10
         try clear p15
         try clear p2
         try clear p6
         try clear q1
         try clear q10
         try clear q15
         obtain ⟨kq,x66_21,rfl,HA,HJ21,BK286,HB⟩ := hcut
         cases kq with
         | zero => exact absurd HA.out (by simp [keelsonref3_Parse.j1])
         | succ kj21 =>
          have H := HA.out
          clear HA
          simp only [keelsonref3_Parse.j1] at H
          by_cases c24 : x66_21 = true
          ·subst c24
           have H1 : (some ((⟨#[]⟩ : ByteArray),0,(⟨#[]⟩ : ByteArray),5)) = some (r1,r2,r3,r4) := by rw [if_pos rfl] at H;exact H
           clear H
           have H := H1
           clear H1
           simp only [Option.some.injEq,Prod.mk.injEq] at H
           obtain ⟨rfl,rfl,rfl,rfl⟩ := H
           have hcz25_0 : wc.cell? ⟨gb286,0,none⟩ = some (.string (⟨#[]⟩ : ByteArray)) := (qaf BK286.out 0).trans rfl
           have hcz25_1 : wc.cell? ⟨gb286,1,none⟩ = some (.int .i64 0) := (qaf BK286.out 1).trans rfl
           have hcz25_2 : wc.cell? ⟨gb286,2,none⟩ = some (.string (⟨#[]⟩ : ByteArray)) := (qaf BK286.out 2).trans rfl
           have hfz25_0 := qad BK286.out 0
           have hfz25_1 := qad BK286.out 1
           have hfz25_2 := qad BK286.out 2
           go_wp2
           refine bodyPost_ret (results_ct rfl _ _ gb286 39 #[.string (⟨#[]⟩ : ByteArray),.int .i64 0,.string (⟨#[]⟩ : ByteArray)] (0,0) _ rfl (by (with_reducible repeat (first|refine qah ?_ _|refine qai ?_|refine qag ?_ _));refine blk_put (cs := #[.string (⟨#[]⟩ : ByteArray),.int .i64 0,.string (⟨#[]⟩ : ByteArray)]) ?_ 2 _ rfl;(with_reducible repeat (first|refine qah ?_ _|refine qai ?_|refine qag ?_ _));refine blk_put (cs := #[.string (⟨#[]⟩ : ByteArray),.int .i64 0,.string (⟨#[]⟩ : ByteArray)]) ?_ 1 _ rfl;(with_reducible repeat (first|refine qah ?_ _|refine qai ?_|refine qag ?_ _));refine blk_put (cs := #[.string (⟨#[]⟩ : ByteArray),.int .i64 0,.string (⟨#[]⟩ : ByteArray)]) ?_ 0 _ rfl;(with_reducible repeat (first|refine qah ?_ _|refine qai ?_|refine qag ?_ _));exact BK286.out) Tryz.underlying39 rfl (by kernel_rfl)) rfl ?_
           exact ⟨by first|rfl|(simp [qal,qam]<;>rfl)|(simp [*,qal,qam]<;>rfl),by repeat (first|(with_reducible first|exact HB.out|apply qab|apply qaa|apply qac|refine qae ?_ GE286.out)|exact HB.out)⟩
          ·replace c24 := Bool.eq_false_iff.mpr c24
           subst c24
           have H1 : ((keelsonref3_plain.f kj21 t292).bind fun t296 => (if t296 = true then (some (t287,t294,t292,0)) else (some ((⟨#[]⟩ : ByteArray),0,(⟨#[]⟩ : ByteArray),4)))) = some (r1,r2,r3,r4) := by rw [if_neg (show ¬ (false = true) by decide)] at H;exact H
           clear H
           have H := H1
           clear H1
           replace H := Option.bind_eq_some_iff.mp H
           obtain ⟨t296,A260,H⟩ := H
           replace H : (if t296 = true then (some (t287,t294,t292,0)) else (some ((⟨#[]⟩ : ByteArray),0,(⟨#[]⟩ : ByteArray),4))) = some (r1,r2,r3,r4) := H
           have A26 := Aside0.mk A260
           clear A260
           by_cases c27 : t296 = true
           ·subst c27
            have H1 : (some (t287,t294,t292,0)) = some (r1,r2,r3,r4) := by rw [if_pos rfl] at H;exact H
            clear H
            have H := H1
            clear H1
            simp only [Option.some.injEq,Prod.mk.injEq] at H
            obtain ⟨rfl,rfl,rfl,rfl⟩ := H
            go_wp2_with (first|((with_reducible refine qak (f := 43) rfl ?_);refine goesL_ (some 69) rfl rfl Tryz.func43 (by kernel_rfl) rfl #[.string t292] rfl (by first|rfl|(simp only [List.map_toArray,List.map_cons,List.map_nil,List.length_drop,List.length_take];rfl)|simp only [List.map_toArray,List.map_cons,List.map_nil]) ?_;(with_reducible refine (keelsonref3_plain.calls kj21 t292 true _ (by first|exact hG|exact GL.below hG (by repeat (first|(with_reducible first|exact HB.out|apply qab|apply qaa|apply qac|refine qae ?_ GE286.out)|exact HB.out)))  A26.out).mono ?_);rintro e w28 ⟨rfl,hb⟩;refine ⟨_,rfl,?_⟩;have n0_ := Aside0.mk (qap (g := gb286) (o := .cells #[.string (⟨#[]⟩ : ByteArray),.int .i64 0,.string (⟨#[]⟩ : ByteArray)] 39 (0,0)) (by (with_reducible repeat (first|refine qah ?_ _|refine qai ?_|refine qag ?_ _));exact BK286.out) hb);have n1_ := Aside0.mk (qan (by repeat (first|(with_reducible first|exact HB.out|apply qab|apply qaa|apply qac|refine qae ?_ GE286.out)|exact HB.out)) hb);clear BK286;clear HB;have BK286 := n0_;have HB := n1_;clear n0_ n1_;(try clear hb);(try clear hb2);(try clear hk);(try clear hi);have hcz29_0 : w28.cell? ⟨gb286,0,none⟩ = some (.string (⟨#[]⟩ : ByteArray)) := (qaf BK286.out 0).trans rfl;have hcz29_1 : w28.cell? ⟨gb286,1,none⟩ = some (.int .i64 0) := (qaf BK286.out 1).trans rfl;have hcz29_2 : w28.cell? ⟨gb286,2,none⟩ = some (.string (⟨#[]⟩ : ByteArray)) := (qaf BK286.out 2).trans rfl;have hfz29_0 := qad BK286.out 0;have hfz29_1 := qad BK286.out 1;have hfz29_2 := qad BK286.out 2))
            refine bodyPost_ret (results_ct rfl _ _ gb286 39 #[.string t287,.int .i64 t294,.string t292] (0,0) _ rfl (by (with_reducible repeat (first|refine qah ?_ _|refine qai ?_|refine qag ?_ _));refine blk_put (cs := #[.string t287,.int .i64 t294,.string (⟨#[]⟩ : ByteArray)]) ?_ 2 _ rfl;(with_reducible repeat (first|refine qah ?_ _|refine qai ?_|refine qag ?_ _));refine blk_put (cs := #[.string t287,.int .i64 0,.string (⟨#[]⟩ : ByteArray)]) ?_ 1 _ rfl;(with_reducible repeat (first|refine qah ?_ _|refine qai ?_|refine qag ?_ _));refine blk_put (cs := #[.string (⟨#[]⟩ : ByteArray),.int .i64 0,.string (⟨#[]⟩ : ByteArray)]) ?_ 0 _ rfl;(with_reducible repeat (first|refine qah ?_ _|refine qai ?_|refine qag ?_ _));exact BK286.out) Tryz.underlying39 rfl (by kernel_rfl)) rfl ?_
            exact ⟨by first|rfl|(simp [qal,qam]<;>rfl)|(simp [*,qal,qam]<;>rfl),by repeat (first|(with_reducible first|exact HB.out|apply qab|apply qaa|apply qac|refine qae ?_ GE286.out)|exact HB.out)⟩
           ·replace c27 := Bool.eq_false_iff.mpr c27
            subst c27
            have H1 : (some ((⟨#[]⟩ : ByteArray),0,(⟨#[]⟩ : ByteArray),4)) = some (r1,r2,r3,r4) := by rw [if_neg (show ¬ (false = true) by decide)] at H;exact H
            clear H
            have H := H1
            clear H1
            simp only [Option.some.injEq,Prod.mk.injEq] at H
            obtain ⟨rfl,rfl,rfl,rfl⟩ := H
            go_wp2_with (first|((with_reducible refine qak (f := 43) rfl ?_);refine goesL_ (some 69) rfl rfl Tryz.func43 (by kernel_rfl) rfl #[.string t292] rfl (by first|rfl|(simp only [List.map_toArray,List.map_cons,List.map_nil,List.length_drop,List.length_take];rfl)|simp only [List.map_toArray,List.map_cons,List.map_nil]) ?_;(with_reducible refine (keelsonref3_plain.calls kj21 t292 false _ (by first|exact hG|exact GL.below hG (by repeat (first|(with_reducible first|exact HB.out|apply qab|apply qaa|apply qac|refine qae ?_ GE286.out)|exact HB.out)))  A26.out).mono ?_);rintro e w30 ⟨rfl,hb⟩;refine ⟨_,rfl,?_⟩;have n0_ := Aside0.mk (qap (g := gb286) (o := .cells #[.string (⟨#[]⟩ : ByteArray),.int .i64 0,.string (⟨#[]⟩ : ByteArray)] 39 (0,0)) (by (with_reducible repeat (first|refine qah ?_ _|refine qai ?_|refine qag ?_ _));exact BK286.out) hb);have n1_ := Aside0.mk (qan (by repeat (first|(with_reducible first|exact HB.out|apply qab|apply qaa|apply qac|refine qae ?_ GE286.out)|exact HB.out)) hb);clear BK286;clear HB;have BK286 := n0_;have HB := n1_;clear n0_ n1_;(try clear hb);(try clear hb2);(try clear hk);(try clear hi);have hcz31_0 : w30.cell? ⟨gb286,0,none⟩ = some (.string (⟨#[]⟩ : ByteArray)) := (qaf BK286.out 0).trans rfl;have hcz31_1 : w30.cell? ⟨gb286,1,none⟩ = some (.int .i64 0) := (qaf BK286.out 1).trans rfl;have hcz31_2 : w30.cell? ⟨gb286,2,none⟩ = some (.string (⟨#[]⟩ : ByteArray)) := (qaf BK286.out 2).trans rfl;have hfz31_0 := qad BK286.out 0;have hfz31_1 := qad BK286.out 1;have hfz31_2 := qad BK286.out 2))
            refine bodyPost_ret (results_ct rfl _ _ gb286 39 #[.string (⟨#[]⟩ : ByteArray),.int .i64 0,.string (⟨#[]⟩ : ByteArray)] (0,0) _ rfl (by (with_reducible repeat (first|refine qah ?_ _|refine qai ?_|refine qag ?_ _));refine blk_put (cs := #[.string (⟨#[]⟩ : ByteArray),.int .i64 0,.string (⟨#[]⟩ : ByteArray)]) ?_ 2 _ rfl;(with_reducible repeat (first|refine qah ?_ _|refine qai ?_|refine qag ?_ _));refine blk_put (cs := #[.string (⟨#[]⟩ : ByteArray),.int .i64 0,.string (⟨#[]⟩ : ByteArray)]) ?_ 1 _ rfl;(with_reducible repeat (first|refine qah ?_ _|refine qai ?_|refine qag ?_ _));refine blk_put (cs := #[.string (⟨#[]⟩ : ByteArray),.int .i64 0,.string (⟨#[]⟩ : ByteArray)]) ?_ 0 _ rfl;(with_reducible repeat (first|refine qah ?_ _|refine qai ?_|refine qag ?_ _));exact BK286.out) Tryz.underlying39 rfl (by kernel_rfl)) rfl ?_
            exact ⟨by first|rfl|(simp [qal,qam]<;>rfl)|(simp [*,qal,qam]<;>rfl),by repeat (first|(with_reducible first|exact HB.out|apply qab|apply qaa|apply qac|refine qae ?_ GE286.out)|exact HB.out)⟩
       ·rw [if_neg c19] at H
        exact absurd H (by simp)
      ·rw [if_neg c18] at H
       exact absurd H (by simp)
  ·replace c5 := Bool.eq_false_iff.mpr c5
   subst c5
   have H1 : (some (t287,0,(⟨#[]⟩ : ByteArray),0)) = some (r1,r2,r3,r4) := by rw [if_neg (show ¬ (false = true) by decide)] at H;exact H
   clear H
   have H := H1
   clear H1
   simp only [Option.some.injEq,Prod.mk.injEq] at H
   obtain ⟨rfl,rfl,rfl,rfl⟩ := H
   go_enter Tryz.func35,Tryz.ntmps35
   go_wp2_with (first|((with_reducible refine gate_dst (N := 2) rfl ?_);(try (refine gate_guard (by rfl) ?_;dsimp only));refine box_event ?hg (N := 2) ?hd (cs := #[.string (⟨#[]⟩ : ByteArray),.int .i64 0,.string (⟨#[]⟩ : ByteArray)]) (t := 39) ?hr ?_;(case hd => rfl);(case hg => rfl);(case hr => first|(go_simp;done)|(go_simp;rfl));intro gb286 hg w32 hbox hb;have n0_ := Aside0.mk (qan (by repeat (with_reducible first|exact HB.out|apply qab|apply qaa|apply qac)) hb);have n1_ := Aside0.mk (hbox);have n2_ := Aside0.mk ((by rw [hg];exact (qao (by repeat (with_reducible first|exact HB.out|apply qab|apply qaa|apply qac))) : w.heap.size ≤ gb286));have n3_ := Aside0.mk ((by rw [hg];exact (qao (by repeat (with_reducible first|exact HB.out|apply qab|apply qaa|apply qac))) : w.heap.size ≤ gb286));clear HB;have HB := n0_;have BK286 := n1_;have GW286 := n2_;have GE286 := n3_;clear n0_ n1_ n2_ n3_;clear hb hbox hg)|((with_reducible refine qak (f := 62) rfl ?_);refine goesL_ (some 16) rfl rfl Tryz.func62 (by kernel_rfl) rfl #[.string a0] rfl (by first|rfl|(simp only [List.map_toArray,List.map_cons,List.map_nil,List.length_drop,List.length_take];rfl)|simp only [List.map_toArray,List.map_cons,List.map_nil]) ?_;(with_reducible refine (keelsonref3_cut.calls k a0 t287 t288 false _ (by first|exact hG|exact GL.below hG (by repeat (first|(with_reducible first|exact HB.out|apply qab|apply qaa|apply qac|refine qae ?_ GE286.out)|exact HB.out)))  A2.out).mono ?_);rintro e w' ⟨rfl,⟨nd,rfl⟩⟩;refine ⟨_,rfl,?_⟩;(try (rw [drewN_self w32];generalize hq_ : World.drewN w32 _ = w32;have n0_ : Aside0 (w32.heap[gb286]? = some (.cells #[.string (⟨#[]⟩ : ByteArray),.int .i64 0,.string (⟨#[]⟩ : ByteArray)] 39 (0,0))) := ⟨by rw [← hq_];exact (by (with_reducible repeat (first|refine qah ?_ _|refine qai ?_|refine qag ?_ _));exact BK286.out)⟩;have n1_ : Aside0 (Below w.heap.size w w32) := ⟨by rw [← hq_];exact (by repeat (first|(with_reducible first|exact HB.out|apply qab|apply qaa|apply qac|refine qae ?_ GE286.out)|exact HB.out))⟩;clear BK286 HB hq_;have BK286 := n0_;have HB := n1_;clear n0_ n1_)))|((with_reducible refine qak (f := 42) rfl ?_);refine goesL_ (some 21) rfl rfl Tryz.func42 (by kernel_rfl) rfl #[.string t287] rfl (by first|rfl|(simp only [List.map_toArray,List.map_cons,List.map_nil,List.length_drop,List.length_take];rfl)|simp only [List.map_toArray,List.map_cons,List.map_nil]) ?_;(with_reducible refine (keelsonref3_Name.calls k t287 true _ (by first|exact hG|exact GL.below hG (by repeat (first|(with_reducible first|exact HB.out|apply qab|apply qaa|apply qac|refine qae ?_ GE286.out)|exact HB.out)))  A3.out).mono ?_);rintro e w' ⟨rfl,⟨nd,rfl⟩⟩;refine ⟨_,rfl,?_⟩;(try (rw [drewN_self w32];generalize hq_ : World.drewN w32 _ = w32;have n0_ : Aside0 (w32.heap[gb286]? = some (.cells #[.string (⟨#[]⟩ : ByteArray),.int .i64 0,.string (⟨#[]⟩ : ByteArray)] 39 (0,0))) := ⟨by rw [← hq_];exact (by (with_reducible repeat (first|refine qah ?_ _|refine qai ?_|refine qag ?_ _));exact BK286.out)⟩;have n1_ : Aside0 (Below w.heap.size w w32) := ⟨by rw [← hq_];exact (by repeat (first|(with_reducible first|exact HB.out|apply qab|apply qaa|apply qac|refine qae ?_ GE286.out)|exact HB.out))⟩;clear BK286 HB hq_;have BK286 := n0_;have HB := n1_;clear n0_ n1_));have hcz33_0 : w32.cell? ⟨gb286,0,none⟩ = some (.string (⟨#[]⟩ : ByteArray)) := (qaf BK286.out 0).trans rfl;have hcz33_1 : w32.cell? ⟨gb286,1,none⟩ = some (.int .i64 0) := (qaf BK286.out 1).trans rfl;have hcz33_2 : w32.cell? ⟨gb286,2,none⟩ = some (.string (⟨#[]⟩ : ByteArray)) := (qaf BK286.out 2).trans rfl;have hfz33_0 := qad BK286.out 0;have hfz33_1 := qad BK286.out 1;have hfz33_2 := qad BK286.out 2))
   refine bodyPost_ret (results_ct rfl _ _ gb286 39 #[.string t287,.int .i64 0,.string (⟨#[]⟩ : ByteArray)] (0,0) _ rfl (by (with_reducible repeat (first|refine qah ?_ _|refine qai ?_|refine qag ?_ _));refine blk_put (cs := #[.string t287,.int .i64 0,.string (⟨#[]⟩ : ByteArray)]) ?_ 2 _ rfl;(with_reducible repeat (first|refine qah ?_ _|refine qai ?_|refine qag ?_ _));refine blk_put (cs := #[.string t287,.int .i64 0,.string (⟨#[]⟩ : ByteArray)]) ?_ 1 _ rfl;(with_reducible repeat (first|refine qah ?_ _|refine qai ?_|refine qag ?_ _));refine blk_put (cs := #[.string (⟨#[]⟩ : ByteArray),.int .i64 0,.string (⟨#[]⟩ : ByteArray)]) ?_ 0 _ rfl;(with_reducible repeat (first|refine qah ?_ _|refine qai ?_|refine qag ?_ _));exact BK286.out) Tryz.underlying39 rfl (by kernel_rfl)) rfl ?_
   exact ⟨by first|rfl|(simp [qal,qam]<;>rfl)|(simp [*,qal,qam]<;>rfl),by repeat (first|(with_reducible first|exact HB.out|apply qab|apply qaa|apply qac|refine qae ?_ GE286.out)|exact HB.out)⟩
 ·replace c4 := Bool.eq_false_iff.mpr c4
  subst c4
  have H1 : (some ((⟨#[]⟩ : ByteArray),0,(⟨#[]⟩ : ByteArray),3)) = some (r1,r2,r3,r4) := by rw [if_neg (show ¬ (false = true) by decide)] at H;exact H
  clear H
  have H := H1
  clear H1
  simp only [Option.some.injEq,Prod.mk.injEq] at H
  obtain ⟨rfl,rfl,rfl,rfl⟩ := H
  go_enter Tryz.func35,Tryz.ntmps35
  go_wp2_with (first|((with_reducible refine gate_dst (N := 2) rfl ?_);(try (refine gate_guard (by rfl) ?_;dsimp only));refine box_event ?hg (N := 2) ?hd (cs := #[.string (⟨#[]⟩ : ByteArray),.int .i64 0,.string (⟨#[]⟩ : ByteArray)]) (t := 39) ?hr ?_;(case hd => rfl);(case hg => rfl);(case hr => first|(go_simp;done)|(go_simp;rfl));intro gb286 hg w34 hbox hb;have n0_ := Aside0.mk (qan (by repeat (with_reducible first|exact HB.out|apply qab|apply qaa|apply qac)) hb);have n1_ := Aside0.mk (hbox);have n2_ := Aside0.mk ((by rw [hg];exact (qao (by repeat (with_reducible first|exact HB.out|apply qab|apply qaa|apply qac))) : w.heap.size ≤ gb286));have n3_ := Aside0.mk ((by rw [hg];exact (qao (by repeat (with_reducible first|exact HB.out|apply qab|apply qaa|apply qac))) : w.heap.size ≤ gb286));clear HB;have HB := n0_;have BK286 := n1_;have GW286 := n2_;have GE286 := n3_;clear n0_ n1_ n2_ n3_;clear hb hbox hg)|((with_reducible refine qak (f := 62) rfl ?_);refine goesL_ (some 16) rfl rfl Tryz.func62 (by kernel_rfl) rfl #[.string a0] rfl (by first|rfl|(simp only [List.map_toArray,List.map_cons,List.map_nil,List.length_drop,List.length_take];rfl)|simp only [List.map_toArray,List.map_cons,List.map_nil]) ?_;(with_reducible refine (keelsonref3_cut.calls k a0 t287 t288 t289 _ (by first|exact hG|exact GL.below hG (by repeat (first|(with_reducible first|exact HB.out|apply qab|apply qaa|apply qac|refine qae ?_ GE286.out)|exact HB.out)))  A2.out).mono ?_);rintro e w' ⟨rfl,⟨nd,rfl⟩⟩;refine ⟨_,rfl,?_⟩;(try (rw [drewN_self w34];generalize hq_ : World.drewN w34 _ = w34;have n0_ : Aside0 (w34.heap[gb286]? = some (.cells #[.string (⟨#[]⟩ : ByteArray),.int .i64 0,.string (⟨#[]⟩ : ByteArray)] 39 (0,0))) := ⟨by rw [← hq_];exact (by (with_reducible repeat (first|refine qah ?_ _|refine qai ?_|refine qag ?_ _));exact BK286.out)⟩;have n1_ : Aside0 (Below w.heap.size w w34) := ⟨by rw [← hq_];exact (by repeat (first|(with_reducible first|exact HB.out|apply qab|apply qaa|apply qac|refine qae ?_ GE286.out)|exact HB.out))⟩;clear BK286 HB hq_;have BK286 := n0_;have HB := n1_;clear n0_ n1_)))|((with_reducible refine qak (f := 42) rfl ?_);refine goesL_ (some 21) rfl rfl Tryz.func42 (by kernel_rfl) rfl #[.string t287] rfl (by first|rfl|(simp only [List.map_toArray,List.map_cons,List.map_nil,List.length_drop,List.length_take];rfl)|simp only [List.map_toArray,List.map_cons,List.map_nil]) ?_;(with_reducible refine (keelsonref3_Name.calls k t287 false _ (by first|exact hG|exact GL.below hG (by repeat (first|(with_reducible first|exact HB.out|apply qab|apply qaa|apply qac|refine qae ?_ GE286.out)|exact HB.out)))  A3.out).mono ?_);rintro e w' ⟨rfl,⟨nd,rfl⟩⟩;refine ⟨_,rfl,?_⟩;(try (rw [drewN_self w34];generalize hq_ : World.drewN w34 _ = w34;have n0_ : Aside0 (w34.heap[gb286]? = some (.cells #[.string (⟨#[]⟩ : ByteArray),.int .i64 0,.string (⟨#[]⟩ : ByteArray)] 39 (0,0))) := ⟨by rw [← hq_];exact (by (with_reducible repeat (first|refine qah ?_ _|refine qai ?_|refine qag ?_ _));exact BK286.out)⟩;have n1_ : Aside0 (Below w.heap.size w w34) := ⟨by rw [← hq_];exact (by repeat (first|(with_reducible first|exact HB.out|apply qab|apply qaa|apply qac|refine qae ?_ GE286.out)|exact HB.out))⟩;clear BK286 HB hq_;have BK286 := n0_;have HB := n1_;clear n0_ n1_));have hcz35_0 : w34.cell? ⟨gb286,0,none⟩ = some (.string (⟨#[]⟩ : ByteArray)) := (qaf BK286.out 0).trans rfl;have hcz35_1 : w34.cell? ⟨gb286,1,none⟩ = some (.int .i64 0) := (qaf BK286.out 1).trans rfl;have hcz35_2 : w34.cell? ⟨gb286,2,none⟩ = some (.string (⟨#[]⟩ : ByteArray)) := (qaf BK286.out 2).trans rfl;have hfz35_0 := qad BK286.out 0;have hfz35_1 := qad BK286.out 1;have hfz35_2 := qad BK286.out 2))
  refine bodyPost_ret (results_ct rfl _ _ gb286 39 #[.string (⟨#[]⟩ : ByteArray),.int .i64 0,.string (⟨#[]⟩ : ByteArray)] (0,0) _ rfl (by (with_reducible repeat (first|refine qah ?_ _|refine qai ?_|refine qag ?_ _));refine blk_put (cs := #[.string (⟨#[]⟩ : ByteArray),.int .i64 0,.string (⟨#[]⟩ : ByteArray)]) ?_ 2 _ rfl;(with_reducible repeat (first|refine qah ?_ _|refine qai ?_|refine qag ?_ _));refine blk_put (cs := #[.string (⟨#[]⟩ : ByteArray),.int .i64 0,.string (⟨#[]⟩ : ByteArray)]) ?_ 1 _ rfl;(with_reducible repeat (first|refine qah ?_ _|refine qai ?_|refine qag ?_ _));refine blk_put (cs := #[.string (⟨#[]⟩ : ByteArray),.int .i64 0,.string (⟨#[]⟩ : ByteArray)]) ?_ 0 _ rfl;(with_reducible repeat (first|refine qah ?_ _|refine qai ?_|refine qag ?_ _));exact BK286.out) Tryz.underlying39 rfl (by kernel_rfl)) rfl ?_
  exact ⟨by first|rfl|(simp [qal,qam]<;>rfl)|(simp [*,qal,qam]<;>rfl),by repeat (first|(with_reducible first|exact HB.out|apply qab|apply qaa|apply qac|refine qae ?_ GE286.out)|exact HB.out)⟩
end Go.Proofs.YtjbbgekkombpnaaGreatDoor.PA
