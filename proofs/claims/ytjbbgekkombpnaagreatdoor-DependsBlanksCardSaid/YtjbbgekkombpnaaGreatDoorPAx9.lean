
import Derived.Test.YtjbbgekkombpnaaGreatDoorPAx0
import Derived.Test.YtjbbgekkombpnaaGreatDoorPAx2
import Derived.Test.YtjbbgekkombpnaaGreatDoorPAx8
namespace Go.Proofs.YtjbbgekkombpnaaGreatDoor.PA
open Go.RowKit Go.Proofs.YtjbbgekkombpnaaGreatDoorW.PrintWords Go.Proofs.YtjbbgekkombpnaaGreatDoorW.PrintLast Go.Proofs.YtjbbgekkombpnaaGreatDoorW.PrintMore
attribute [local go_sem] max2_int min2_int max_two min_two max_three min_three max_four min_four
set_option maxHeartbeats 8000000
set_option maxRecDepth 100000
set_option linter.unusedVariables false
set_option linter.unusedSimpArgs false
def version_words.l0 : Nat → ByteArray → ByteArray → Int → Int → Option (Int)
 | 0,_,_,_,_ => none
 | k + 1,x0,x1,x11,x12 => if x12 < x11 then ((version_weight.f x0 x12).bind fun t191 => ((version_weight.f x1 x12).bind fun t192 => ((cmp_Compare_int.f t191 t192).bind fun t193 => (if t193 = 0 then (version_words.l0 k x0 x1 x11 (wrap64 (x12 + 1))) else (some t193))))) else (some 0)
def version_words.f (k : Nat) (a0 : ByteArray) (a1 : ByteArray) : Option (Int) := version_words.l0 k a0 a1 (mx (a0.size : Int) (a1.size : Int)) 0
theorem version_words.mono_l : ∀ k,(∀ y0 y1 y2 y3,LeO (version_words.l0 k y0 y1 y2 y3) (version_words.l0 (k + 1) y0 y1 y2 y3))
 | 0 => fun _ _ _ _ r h => by simp [version_words.l0] at h
 | k + 1 => by
  have ih0 := version_words.mono_l k
  ·intro y0 y1 y2 y3
   unfold version_words.l0
   repeat' first
   | (with_reducible exact ih0 _ _ _ _)
   | (with_reducible exact LeO.refl _)
   | (with_reducible exact LeO.none _)
   | (with_reducible refine LeO.ite ?_ ?_)
   | (with_reducible refine LeO.bind ?_ (fun _ => ?_))
   | exact ih0 _ _ _ _
   | exact LeO.none _
   | refine LeO.ite ?_ ?_
   | refine LeO.bind ?_ (fun _ => ?_)
theorem version_words.mono : ∀ a0 a1 k,LeO (version_words.f k a0 a1) (version_words.f (k + 1) a0 a1) := by
 intro a0 a1 k
 have ih0 := version_words.mono_l k
 unfold version_words.f
 repeat' first
   | (with_reducible exact ih0 _ _ _ _)
   | (with_reducible exact LeO.refl _)
   | (with_reducible exact LeO.none _)
   | (with_reducible refine LeO.ite ?_ ?_)
   | (with_reducible refine LeO.bind ?_ (fun _ => ?_))
   | exact ih0 _ _ _ _
   | exact LeO.none _
   | refine LeO.ite ?_ ?_
   | refine LeO.bind ?_ (fun _ => ?_)
theorem version_words.calls (k : Nat) (a0 : ByteArray) (a1 : ByteArray) (r : Int) (w : World) (hG : GL w) (h : version_words.f k a0 a1 = some r) :
  Calls Tryz.prog 135 #[.string a0,.string a1] w fun e w' => e = .returned (.int .i64 r) ∧ Below w.heap.size w w' := by
 have HB := Aside0.mk (Below.refl w.heap.size w)
 have H : (version_words.l0 k a0 a1 (mx (a0.size : Int) (a1.size : Int)) 0) = some r := h
 clear h
 obtain ⟨ji3,hji3⟩ : ∃ j_ : Int,(mx (a0.size : Int) (a1.size : Int)) = j_ := ⟨_,rfl⟩
 replace H : (version_words.l0 k a0 a1 ji3 0) = some r := by first|(rw [hji3] at H;exact H)|(simp only [hji3] at H ⊢;exact H)
 (try (have hji3l : 0 ≤ ji3 := by (rw [← hji3];unfold mx;(repeat' split)<;>omega)))
 (try (have hji3m : 0 ≤ ji3 := by omega))
 have hji3_ : (if (a0.size : Int) < (a1.size : Int) then (a1.size : Int) else (a0.size : Int)) = ji3 := hji3
 (try (have hji3n := hji3_;simp only [Int.ofNat_lt] at hji3n))
 have H' := Aside0.mk H
 clear H
 go_enter Tryz.func135,Tryz.ntmps135
 go_wp2
 go_loopg [12] k (fun kq v12 w' => ∃ (x12_1 : Int),v12 = .int .i64 x12_1 ∧ Aside0 (version_words.l0 kq a0 a1 ji3 x12_1 = some r) ∧ Aside0 (kq ≤ k) ∧ Aside0 (Below w.heap.size w w'))
 case atStart => exact ⟨(0),(by first|rfl|(simp;done)|(simp [*];done)|(simp [qaj];done)),H',⟨Nat.le_refl _⟩,⟨by repeat (with_reducible first|exact HB.out|apply qab|apply qaa|apply qac)⟩⟩
 case round =>
  clear H'
  try clear c1
  try clear p2
  obtain ⟨x12_1,rfl,HA,HK1,HB⟩ := hrel
  cases gk with
  | zero => exact absurd HA.out (by simp [version_words.l0])
  | succ k1 =>
   have H := HA.out
   clear HA
   simp only [version_words.l0] at H
   by_cases c4 : x12_1 < ji3
   ·rw [if_pos c4] at H
    have c4b0 : decide (x12_1 < ji3) = true := decide_eq_true c4
    clear c4
    replace H := Option.bind_eq_some_iff.mp H
    obtain ⟨t191,A50,H⟩ := H
    replace H : ((version_weight.f a1 x12_1).bind fun t192 => ((cmp_Compare_int.f t191 t192).bind fun t193 => (if t193 = 0 then (version_words.l0 k1 a0 a1 ji3 (wrap64 (x12_1 + 1))) else (some t193)))) = some r := H
    have A5 := Aside0.mk A50
    clear A50
    replace H := Option.bind_eq_some_iff.mp H
    obtain ⟨t192,A60,H⟩ := H
    replace H : ((cmp_Compare_int.f t191 t192).bind fun t193 => (if t193 = 0 then (version_words.l0 k1 a0 a1 ji3 (wrap64 (x12_1 + 1))) else (some t193))) = some r := H
    have A6 := Aside0.mk A60
    clear A60
    replace H := Option.bind_eq_some_iff.mp H
    obtain ⟨t193,A70,H⟩ := H
    replace H : (if t193 = 0 then (version_words.l0 k1 a0 a1 ji3 (wrap64 (x12_1 + 1))) else (some t193)) = some r := H
    have A7 := Aside0.mk A70
    clear A70
    by_cases c8 : t193 = 0
    ·rw [if_pos c8] at H
     have c8b0 : (t193 == 0) = true := beq_iff_eq.mpr c8
     have c8b1 : (t193 != 0) = false := bne_eq_false_iff_eq.mpr c8
     clear c8
     have H' := Aside0.mk H
     clear H
     go_wp2_with (first|((with_reducible refine qam (f := 144) rfl ?_);refine goesL_ (some 17) rfl rfl Tryz.func144 (by kernel_rfl) rfl #[.string a0,.int .i64 x12_1] rfl (by first|rfl|(simp only [List.map_toArray,List.map_cons,List.map_nil,List.length_drop,List.length_take];rfl)|simp only [List.map_toArray,List.map_cons,List.map_nil]) ?_;(with_reducible refine (version_weight.calls a0 x12_1 t191 _ (by first|exact hG|exact GL.below hG (by repeat (with_reducible first|exact HB.out|apply qab|apply qaa|apply qac)))  A5.out).mono ?_);rintro e w' ⟨rfl,⟨nd,rfl⟩⟩;refine ⟨_,rfl,?_⟩)|((with_reducible refine qam (f := 144) rfl ?_);refine goesL_ (some 20) rfl rfl Tryz.func144 (by kernel_rfl) rfl #[.string a1,.int .i64 x12_1] rfl (by first|rfl|(simp only [List.map_toArray,List.map_cons,List.map_nil,List.length_drop,List.length_take];rfl)|simp only [List.map_toArray,List.map_cons,List.map_nil]) ?_;(with_reducible refine (version_weight.calls a1 x12_1 t192 _ (by first|exact hG|exact GL.below hG (by repeat (with_reducible first|exact HB.out|apply qab|apply qaa|apply qac)))  A6.out).mono ?_);rintro e w' ⟨rfl,⟨nd,rfl⟩⟩;refine ⟨_,rfl,?_⟩)|((with_reducible refine qam (f := 119) rfl ?_);refine goesL_ (some 21) rfl rfl Tryz.func119 (by kernel_rfl) rfl #[.int .i64 t191,.int .i64 t192] rfl (by first|rfl|(simp only [List.map_toArray,List.map_cons,List.map_nil,List.length_drop,List.length_take];rfl)|simp only [List.map_toArray,List.map_cons,List.map_nil]) ?_;(with_reducible refine (cmp_Compare_int.calls t191 t192 t193 _ (by first|exact hG|exact GL.below hG (by repeat (with_reducible first|exact HB.out|apply qab|apply qaa|apply qac)))  A7.out).mono ?_);rintro e w' ⟨rfl,⟨nd,rfl⟩⟩;refine ⟨_,rfl,?_⟩))
     go_roundg k1
     case measure => have := HK1.out;omega
     case rel => exact ⟨(wrap64 (x12_1 + 1)),(by first|rfl|(simp;done)|(simp [*];done)|(simp [qaj];done)),H',⟨by have := HK1.out;omega⟩,⟨by repeat (with_reducible first|exact HB.out|apply qab|apply qaa|apply qac)⟩⟩
    ·rw [if_neg c8] at H
     have c8b0 : (t193 == 0) = false := beq_eq_false_iff_ne.mpr c8
     have c8b1 : (t193 != 0) = true := bne_iff_ne.mpr c8
     obtain rfl := Option.some.inj H
     go_wp2_with (first|((with_reducible refine qam (f := 144) rfl ?_);refine goesL_ (some 17) rfl rfl Tryz.func144 (by kernel_rfl) rfl #[.string a0,.int .i64 x12_1] rfl (by first|rfl|(simp only [List.map_toArray,List.map_cons,List.map_nil,List.length_drop,List.length_take];rfl)|simp only [List.map_toArray,List.map_cons,List.map_nil]) ?_;(with_reducible refine (version_weight.calls a0 x12_1 t191 _ (by first|exact hG|exact GL.below hG (by repeat (with_reducible first|exact HB.out|apply qab|apply qaa|apply qac)))  A5.out).mono ?_);rintro e w' ⟨rfl,⟨nd,rfl⟩⟩;refine ⟨_,rfl,?_⟩)|((with_reducible refine qam (f := 144) rfl ?_);refine goesL_ (some 20) rfl rfl Tryz.func144 (by kernel_rfl) rfl #[.string a1,.int .i64 x12_1] rfl (by first|rfl|(simp only [List.map_toArray,List.map_cons,List.map_nil,List.length_drop,List.length_take];rfl)|simp only [List.map_toArray,List.map_cons,List.map_nil]) ?_;(with_reducible refine (version_weight.calls a1 x12_1 t192 _ (by first|exact hG|exact GL.below hG (by repeat (with_reducible first|exact HB.out|apply qab|apply qaa|apply qac)))  A6.out).mono ?_);rintro e w' ⟨rfl,⟨nd,rfl⟩⟩;refine ⟨_,rfl,?_⟩)|((with_reducible refine qam (f := 119) rfl ?_);refine goesL_ (some 21) rfl rfl Tryz.func119 (by kernel_rfl) rfl #[.int .i64 t191,.int .i64 t192] rfl (by first|rfl|(simp only [List.map_toArray,List.map_cons,List.map_nil,List.length_drop,List.length_take];rfl)|simp only [List.map_toArray,List.map_cons,List.map_nil]) ?_;(with_reducible refine (cmp_Compare_int.calls t191 t192 t193 _ (by first|exact hG|exact GL.below hG (by repeat (with_reducible first|exact HB.out|apply qab|apply qaa|apply qac)))  A7.out).mono ?_);rintro e w' ⟨rfl,⟨nd,rfl⟩⟩;refine ⟨_,rfl,?_⟩))
     go_ret
     exact ⟨by first|rfl|(simp [qak,qal]<;>rfl)|(simp only [← hji3];first|rfl|(simp [qak,qal]<;>rfl))|(simp [*,qak,qal]<;>rfl),by repeat (with_reducible first|exact HB.out|apply qab|apply qaa|apply qac)⟩
   ·rw [if_neg c4] at H
    have c4b0 : decide (x12_1 < ji3) = false := decide_eq_false c4
    clear c4
    obtain rfl := Option.some.inj H
    go_wp2
    go_ret
    exact ⟨by first|rfl|(simp [qak,qal]<;>rfl)|(simp only [← hji3];first|rfl|(simp [qak,qal]<;>rfl))|(simp [*,qak,qal]<;>rfl),by repeat (with_reducible first|exact HB.out|apply qab|apply qaa|apply qac)⟩
def cmp_isNaN_string.f (a0 : ByteArray) : Option (Bool) := some (a0.toList != a0.toList)
theorem cmp_isNaN_string.calls (a0 : ByteArray) (r : Bool) (w : World) (hG : GL w) (h : cmp_isNaN_string.f a0 = some r) :
  Calls Tryz.prog 154 #[.string a0] w fun e w' => e = .returned (.bool r) ∧ Drawn0 w w' := by
 have H : (some (a0.toList != a0.toList)) = some r := h
 clear h
 obtain rfl := Option.some.inj H
 go_enter Tryz.func154,Tryz.ntmps154
 go_wp2
 go_ret
 exact ⟨by first|rfl|(simp;done)|(simp [*];done)|(simp [qaj];done),by repeat (first|exact Drawn0.refl _|apply Drawn0.step)⟩
def cmp_Compare_string.f (a0 : ByteArray) (a1 : ByteArray) : Option (Int) := (cmp_isNaN_string.f a0).bind fun t194 => ((cmp_isNaN_string.f a1).bind fun t195 => (if t194 = true then (if t195 = true then (some 0) else (some (-1))) else (if t195 = true then (some 1) else (if (Op.bytesLess a0.toList a1.toList) = true then (some (-1)) else (if (Op.bytesLess a1.toList a0.toList) = true then (some 1) else (some 0))))))
theorem cmp_Compare_string.calls (a0 : ByteArray) (a1 : ByteArray) (r : Int) (w : World) (hG : GL w) (h : cmp_Compare_string.f a0 a1 = some r) :
  Calls Tryz.prog 146 #[.string a0,.string a1] w fun e w' => e = .returned (.int .i64 r) ∧ Drawn0 w w' := by
 have H : ((cmp_isNaN_string.f a0).bind fun t194 => ((cmp_isNaN_string.f a1).bind fun t195 => (if t194 = true then (if t195 = true then (some 0) else (some (-1))) else (if t195 = true then (some 1) else (if (Op.bytesLess a0.toList a1.toList) = true then (some (-1)) else (if (Op.bytesLess a1.toList a0.toList) = true then (some 1) else (some 0))))))) = some r := h
 clear h
 replace H := Option.bind_eq_some_iff.mp H
 obtain ⟨t194,A30,H⟩ := H
 replace H : ((cmp_isNaN_string.f a1).bind fun t195 => (if t194 = true then (if t195 = true then (some 0) else (some (-1))) else (if t195 = true then (some 1) else (if (Op.bytesLess a0.toList a1.toList) = true then (some (-1)) else (if (Op.bytesLess a1.toList a0.toList) = true then (some 1) else (some 0)))))) = some r := H
 have A3 := Aside0.mk A30
 clear A30
 replace H := Option.bind_eq_some_iff.mp H
 obtain ⟨t195,A40,H⟩ := H
 replace H : (if t194 = true then (if t195 = true then (some 0) else (some (-1))) else (if t195 = true then (some 1) else (if (Op.bytesLess a0.toList a1.toList) = true then (some (-1)) else (if (Op.bytesLess a1.toList a0.toList) = true then (some 1) else (some 0))))) = some r := H
 have A4 := Aside0.mk A40
 clear A40
 by_cases c5 : t194 = true
 ·subst c5
  have H1 : (if t195 = true then (some 0) else (some (-1))) = some r := by rw [if_pos rfl] at H;exact H
  clear H
  have H := H1
  clear H1
  by_cases c6 : t195 = true
  ·subst c6
   have H1 : (some 0) = some r := by rw [if_pos rfl] at H;exact H
   clear H
   have H := H1
   clear H1
   obtain rfl := Option.some.inj H
   go_enter Tryz.func146,Tryz.ntmps146
   go_wp2_with (first|((with_reducible refine qam (f := 154) rfl ?_);refine goesL_ (some 8) rfl rfl Tryz.func154 (by kernel_rfl) rfl #[.string a0] rfl (by first|rfl|(simp only [List.map_toArray,List.map_cons,List.map_nil,List.length_drop,List.length_take];rfl)|simp only [List.map_toArray,List.map_cons,List.map_nil]) ?_;(with_reducible refine (cmp_isNaN_string.calls a0 true _ (by first|exact hG|(repeat (first|exact hG|apply GL.drewN|apply GL.drew)))  A3.out).mono ?_);rintro e w' ⟨rfl,⟨nd,rfl⟩⟩;refine ⟨_,rfl,?_⟩)|((with_reducible refine qam (f := 154) rfl ?_);refine goesL_ (some 10) rfl rfl Tryz.func154 (by kernel_rfl) rfl #[.string a1] rfl (by first|rfl|(simp only [List.map_toArray,List.map_cons,List.map_nil,List.length_drop,List.length_take];rfl)|simp only [List.map_toArray,List.map_cons,List.map_nil]) ?_;(with_reducible refine (cmp_isNaN_string.calls a1 true _ (by first|exact hG|(repeat (first|exact hG|apply GL.drewN|apply GL.drew)))  A4.out).mono ?_);rintro e w' ⟨rfl,⟨nd,rfl⟩⟩;refine ⟨_,rfl,?_⟩))
   go_ret
   exact ⟨by first|rfl|(simp;done)|(simp [*];done)|(simp [qaj];done),by repeat (first|exact Drawn0.refl _|apply Drawn0.step)⟩
  ·replace c6 := Bool.eq_false_iff.mpr c6
   subst c6
   have H1 : (some (-1)) = some r := by rw [if_neg (show ¬ (false = true) by decide)] at H;exact H
   clear H
   have H := H1
   clear H1
   obtain rfl := Option.some.inj H
   go_enter Tryz.func146,Tryz.ntmps146
   go_wp2_with (first|((with_reducible refine qam (f := 154) rfl ?_);refine goesL_ (some 8) rfl rfl Tryz.func154 (by kernel_rfl) rfl #[.string a0] rfl (by first|rfl|(simp only [List.map_toArray,List.map_cons,List.map_nil,List.length_drop,List.length_take];rfl)|simp only [List.map_toArray,List.map_cons,List.map_nil]) ?_;(with_reducible refine (cmp_isNaN_string.calls a0 true _ (by first|exact hG|(repeat (first|exact hG|apply GL.drewN|apply GL.drew)))  A3.out).mono ?_);rintro e w' ⟨rfl,⟨nd,rfl⟩⟩;refine ⟨_,rfl,?_⟩)|((with_reducible refine qam (f := 154) rfl ?_);refine goesL_ (some 10) rfl rfl Tryz.func154 (by kernel_rfl) rfl #[.string a1] rfl (by first|rfl|(simp only [List.map_toArray,List.map_cons,List.map_nil,List.length_drop,List.length_take];rfl)|simp only [List.map_toArray,List.map_cons,List.map_nil]) ?_;(with_reducible refine (cmp_isNaN_string.calls a1 false _ (by first|exact hG|(repeat (first|exact hG|apply GL.drewN|apply GL.drew)))  A4.out).mono ?_);rintro e w' ⟨rfl,⟨nd,rfl⟩⟩;refine ⟨_,rfl,?_⟩))
   go_ret
   exact ⟨by first|rfl|(simp;done)|(simp [*];done)|(simp [qaj];done),by repeat (first|exact Drawn0.refl _|apply Drawn0.step)⟩
 ·replace c5 := Bool.eq_false_iff.mpr c5
  subst c5
  have H1 : (if t195 = true then (some 1) else (if (Op.bytesLess a0.toList a1.toList) = true then (some (-1)) else (if (Op.bytesLess a1.toList a0.toList) = true then (some 1) else (some 0)))) = some r := by rw [if_neg (show ¬ (false = true) by decide)] at H;exact H
  clear H
  have H := H1
  clear H1
  by_cases c7 : t195 = true
  ·subst c7
   have H1 : (some 1) = some r := by rw [if_pos rfl] at H;exact H
   clear H
   have H := H1
   clear H1
   obtain rfl := Option.some.inj H
   go_enter Tryz.func146,Tryz.ntmps146
   go_wp2_with (first|((with_reducible refine qam (f := 154) rfl ?_);refine goesL_ (some 8) rfl rfl Tryz.func154 (by kernel_rfl) rfl #[.string a0] rfl (by first|rfl|(simp only [List.map_toArray,List.map_cons,List.map_nil,List.length_drop,List.length_take];rfl)|simp only [List.map_toArray,List.map_cons,List.map_nil]) ?_;(with_reducible refine (cmp_isNaN_string.calls a0 false _ (by first|exact hG|(repeat (first|exact hG|apply GL.drewN|apply GL.drew)))  A3.out).mono ?_);rintro e w' ⟨rfl,⟨nd,rfl⟩⟩;refine ⟨_,rfl,?_⟩)|((with_reducible refine qam (f := 154) rfl ?_);refine goesL_ (some 10) rfl rfl Tryz.func154 (by kernel_rfl) rfl #[.string a1] rfl (by first|rfl|(simp only [List.map_toArray,List.map_cons,List.map_nil,List.length_drop,List.length_take];rfl)|simp only [List.map_toArray,List.map_cons,List.map_nil]) ?_;(with_reducible refine (cmp_isNaN_string.calls a1 true _ (by first|exact hG|(repeat (first|exact hG|apply GL.drewN|apply GL.drew)))  A4.out).mono ?_);rintro e w' ⟨rfl,⟨nd,rfl⟩⟩;refine ⟨_,rfl,?_⟩))
   go_ret
   exact ⟨by first|rfl|(simp;done)|(simp [*];done)|(simp [qaj];done),by repeat (first|exact Drawn0.refl _|apply Drawn0.step)⟩
  ·replace c7 := Bool.eq_false_iff.mpr c7
   subst c7
   have H1 : (if (Op.bytesLess a0.toList a1.toList) = true then (some (-1)) else (if (Op.bytesLess a1.toList a0.toList) = true then (some 1) else (some 0))) = some r := by rw [if_neg (show ¬ (false = true) by decide)] at H;exact H
   clear H
   have H := H1
   clear H1
   by_cases c8 : (Op.bytesLess a0.toList a1.toList) = true
   ·rw [if_pos c8] at H
    have c8b0 : (Op.bytesLess a0.toList a1.toList) = true := c8
    clear c8
    obtain rfl := Option.some.inj H
    go_enter Tryz.func146,Tryz.ntmps146
    go_wp2_with (first|((with_reducible refine qam (f := 154) rfl ?_);refine goesL_ (some 8) rfl rfl Tryz.func154 (by kernel_rfl) rfl #[.string a0] rfl (by first|rfl|(simp only [List.map_toArray,List.map_cons,List.map_nil,List.length_drop,List.length_take];rfl)|simp only [List.map_toArray,List.map_cons,List.map_nil]) ?_;(with_reducible refine (cmp_isNaN_string.calls a0 false _ (by first|exact hG|(repeat (first|exact hG|apply GL.drewN|apply GL.drew)))  A3.out).mono ?_);rintro e w' ⟨rfl,⟨nd,rfl⟩⟩;refine ⟨_,rfl,?_⟩)|((with_reducible refine qam (f := 154) rfl ?_);refine goesL_ (some 10) rfl rfl Tryz.func154 (by kernel_rfl) rfl #[.string a1] rfl (by first|rfl|(simp only [List.map_toArray,List.map_cons,List.map_nil,List.length_drop,List.length_take];rfl)|simp only [List.map_toArray,List.map_cons,List.map_nil]) ?_;(with_reducible refine (cmp_isNaN_string.calls a1 false _ (by first|exact hG|(repeat (first|exact hG|apply GL.drewN|apply GL.drew)))  A4.out).mono ?_);rintro e w' ⟨rfl,⟨nd,rfl⟩⟩;refine ⟨_,rfl,?_⟩))
    go_ret
    exact ⟨by first|rfl|(simp;done)|(simp [*];done)|(simp [qaj];done),by repeat (first|exact Drawn0.refl _|apply Drawn0.step)⟩
   ·rw [if_neg c8] at H
    have c8b0 : (Op.bytesLess a0.toList a1.toList) = false := by simpa using c8
    clear c8
    by_cases c9 : (Op.bytesLess a1.toList a0.toList) = true
    ·rw [if_pos c9] at H
     have c9b0 : (Op.bytesLess a1.toList a0.toList) = true := c9
     clear c9
     obtain rfl := Option.some.inj H
     go_enter Tryz.func146,Tryz.ntmps146
     go_wp2_with (first|((with_reducible refine qam (f := 154) rfl ?_);refine goesL_ (some 8) rfl rfl Tryz.func154 (by kernel_rfl) rfl #[.string a0] rfl (by first|rfl|(simp only [List.map_toArray,List.map_cons,List.map_nil,List.length_drop,List.length_take];rfl)|simp only [List.map_toArray,List.map_cons,List.map_nil]) ?_;(with_reducible refine (cmp_isNaN_string.calls a0 false _ (by first|exact hG|(repeat (first|exact hG|apply GL.drewN|apply GL.drew)))  A3.out).mono ?_);rintro e w' ⟨rfl,⟨nd,rfl⟩⟩;refine ⟨_,rfl,?_⟩)|((with_reducible refine qam (f := 154) rfl ?_);refine goesL_ (some 10) rfl rfl Tryz.func154 (by kernel_rfl) rfl #[.string a1] rfl (by first|rfl|(simp only [List.map_toArray,List.map_cons,List.map_nil,List.length_drop,List.length_take];rfl)|simp only [List.map_toArray,List.map_cons,List.map_nil]) ?_;(with_reducible refine (cmp_isNaN_string.calls a1 false _ (by first|exact hG|(repeat (first|exact hG|apply GL.drewN|apply GL.drew)))  A4.out).mono ?_);rintro e w' ⟨rfl,⟨nd,rfl⟩⟩;refine ⟨_,rfl,?_⟩))
     go_ret
     exact ⟨by first|rfl|(simp;done)|(simp [*];done)|(simp [qaj];done),by repeat (first|exact Drawn0.refl _|apply Drawn0.step)⟩
    ·rw [if_neg c9] at H
     have c9b0 : (Op.bytesLess a1.toList a0.toList) = false := by simpa using c9
     clear c9
     obtain rfl := Option.some.inj H
     go_enter Tryz.func146,Tryz.ntmps146
     go_wp2_with (first|((with_reducible refine qam (f := 154) rfl ?_);refine goesL_ (some 8) rfl rfl Tryz.func154 (by kernel_rfl) rfl #[.string a0] rfl (by first|rfl|(simp only [List.map_toArray,List.map_cons,List.map_nil,List.length_drop,List.length_take];rfl)|simp only [List.map_toArray,List.map_cons,List.map_nil]) ?_;(with_reducible refine (cmp_isNaN_string.calls a0 false _ (by first|exact hG|(repeat (first|exact hG|apply GL.drewN|apply GL.drew)))  A3.out).mono ?_);rintro e w' ⟨rfl,⟨nd,rfl⟩⟩;refine ⟨_,rfl,?_⟩)|((with_reducible refine qam (f := 154) rfl ?_);refine goesL_ (some 10) rfl rfl Tryz.func154 (by kernel_rfl) rfl #[.string a1] rfl (by first|rfl|(simp only [List.map_toArray,List.map_cons,List.map_nil,List.length_drop,List.length_take];rfl)|simp only [List.map_toArray,List.map_cons,List.map_nil]) ?_;(with_reducible refine (cmp_isNaN_string.calls a1 false _ (by first|exact hG|(repeat (first|exact hG|apply GL.drewN|apply GL.drew)))  A4.out).mono ?_);rintro e w' ⟨rfl,⟨nd,rfl⟩⟩;refine ⟨_,rfl,?_⟩))
     go_ret
     exact ⟨by first|rfl|(simp;done)|(simp [*];done)|(simp [qaj];done),by repeat (first|exact Drawn0.refl _|apply Drawn0.step)⟩
def version_numbers.f (k : Nat) (a0 : ByteArray) (a1 : ByteArray) : Option (Int) := (strings_TrimLeft.f a0 (⟨#[48]⟩ : ByteArray)).bind fun t196 => ((strings_TrimLeft.f a1 (⟨#[48]⟩ : ByteArray)).bind fun t197 => ((cmp_Compare_int.f (t196.size : Int) (t197.size : Int)).bind fun t198 => ((cmp_Compare_string.f t196 t197).bind fun t199 => ((cmp_Or_int.f k (([t198,t199] : List Int))).bind fun t203 => (some t203)))))
theorem version_numbers.mono : ∀ a0 a1 k,LeO (version_numbers.f k a0 a1) (version_numbers.f (k + 1) a0 a1) := by
 intro a0 a1 k
 unfold version_numbers.f
 repeat' first
   | (with_reducible exact cmp_Or_int.mono _ _)
   | (with_reducible exact LeO.refl _)
   | (with_reducible exact LeO.none _)
   | (with_reducible refine LeO.ite ?_ ?_)
   | (with_reducible refine LeO.bind ?_ (fun _ => ?_))
   | exact cmp_Or_int.mono _ _
   | exact LeO.none _
   | refine LeO.ite ?_ ?_
   | refine LeO.bind ?_ (fun _ => ?_)
theorem version_numbers.calls (k : Nat) (a0 : ByteArray) (a1 : ByteArray) (r : Int) (w : World) (hG : GL w) (h : version_numbers.f k a0 a1 = some r) :
  Calls Tryz.prog 136 #[.string a0,.string a1] w fun e w' => e = .returned (.int .i64 r) ∧ Below w.heap.size w w' := by
 have HB := Aside0.mk (Below.refl w.heap.size w)
 have H : ((strings_TrimLeft.f a0 (⟨#[48]⟩ : ByteArray)).bind fun t196 => ((strings_TrimLeft.f a1 (⟨#[48]⟩ : ByteArray)).bind fun t197 => ((cmp_Compare_int.f (t196.size : Int) (t197.size : Int)).bind fun t198 => ((cmp_Compare_string.f t196 t197).bind fun t199 => ((cmp_Or_int.f k (([t198,t199] : List Int))).bind fun t203 => (some t203)))))) = some r := h
 clear h
 replace H := Option.bind_eq_some_iff.mp H
 obtain ⟨t196,A30,H⟩ := H
 replace H : ((strings_TrimLeft.f a1 (⟨#[48]⟩ : ByteArray)).bind fun t197 => ((cmp_Compare_int.f (t196.size : Int) (t197.size : Int)).bind fun t198 => ((cmp_Compare_string.f t196 t197).bind fun t199 => ((cmp_Or_int.f k (([t198,t199] : List Int))).bind fun t203 => (some t203))))) = some r := H
 have A3 := Aside0.mk A30
 clear A30
 replace H := Option.bind_eq_some_iff.mp H
 obtain ⟨t197,A40,H⟩ := H
 replace H : ((cmp_Compare_int.f (t196.size : Int) (t197.size : Int)).bind fun t198 => ((cmp_Compare_string.f t196 t197).bind fun t199 => ((cmp_Or_int.f k (([t198,t199] : List Int))).bind fun t203 => (some t203)))) = some r := H
 have A4 := Aside0.mk A40
 clear A40
 replace H := Option.bind_eq_some_iff.mp H
 obtain ⟨t198,A50,H⟩ := H
 replace H : ((cmp_Compare_string.f t196 t197).bind fun t199 => ((cmp_Or_int.f k (([t198,t199] : List Int))).bind fun t203 => (some t203))) = some r := H
 have A5 := Aside0.mk A50
 clear A50
 replace H := Option.bind_eq_some_iff.mp H
 obtain ⟨t199,A60,H⟩ := H
 replace H : ((cmp_Or_int.f k (([t198,t199] : List Int))).bind fun t203 => (some t203)) = some r := H
 have A6 := Aside0.mk A60
 clear A60
 obtain ⟨y200,hy200⟩ : ∃ y_ : List Int,y_ = (([t198,t199] : List Int)) := ⟨_,rfl⟩
 replace H : ((cmp_Or_int.f k y200).bind fun t203 => (some t203)) = some r := by first|(rw [hy200];with_reducible exact H)|(have H2_ := (Option.bind_some _ _).symm.trans H;rw [hy200];with_reducible exact H2_)|(have H2_ := (Option.bind_some _ _).symm.trans H;with_reducible exact H2_) | with_reducible exact H|(rw [hy200];exact H)|exact H
 have Ny200 := Aside0.mk hy200
 clear hy200
 replace H := Option.bind_eq_some_iff.mp H
 obtain ⟨t203,A70,H⟩ := H
 replace H : (some t203) = some r := H
 have A7 := Aside0.mk A70
 clear A70
 obtain rfl := Option.some.inj H
 go_enter Tryz.func136,Tryz.ntmps136
 go_wp2_with (first|((with_reducible refine qam (f := 145) rfl ?_);refine goesL_ (some 6) rfl rfl Tryz.func145 (by kernel_rfl) rfl #[.string a0,.string (⟨#[48]⟩ : ByteArray)] rfl (by first|rfl|(simp only [List.map_toArray,List.map_cons,List.map_nil,List.length_drop,List.length_take];rfl)|simp only [List.map_toArray,List.map_cons,List.map_nil]) ?_;(with_reducible refine (strings_TrimLeft.calls a0 (⟨#[48]⟩ : ByteArray) t196 _ (by first|exact hG|exact GL.below hG (by repeat (with_reducible first|exact HB.out|apply qab|apply qaa|apply qac)))  A3.out).mono ?_);rintro e w' ⟨rfl,⟨nd,rfl⟩⟩;refine ⟨_,rfl,?_⟩)|((with_reducible refine qam (f := 145) rfl ?_);refine goesL_ (some 8) rfl rfl Tryz.func145 (by kernel_rfl) rfl #[.string a1,.string (⟨#[48]⟩ : ByteArray)] rfl (by first|rfl|(simp only [List.map_toArray,List.map_cons,List.map_nil,List.length_drop,List.length_take];rfl)|simp only [List.map_toArray,List.map_cons,List.map_nil]) ?_;(with_reducible refine (strings_TrimLeft.calls a1 (⟨#[48]⟩ : ByteArray) t197 _ (by first|exact hG|exact GL.below hG (by repeat (with_reducible first|exact HB.out|apply qab|apply qaa|apply qac)))  A4.out).mono ?_);rintro e w' ⟨rfl,⟨nd,rfl⟩⟩;refine ⟨_,rfl,?_⟩)|((with_reducible refine qam (f := 119) rfl ?_);refine goesL_ (some 13) rfl rfl Tryz.func119 (by kernel_rfl) rfl #[.int .i64 (t196.size : Int),.int .i64 (t197.size : Int)] rfl (by first|rfl|(simp only [List.map_toArray,List.map_cons,List.map_nil,List.length_drop,List.length_take];rfl)|simp only [List.map_toArray,List.map_cons,List.map_nil]) ?_;(with_reducible refine (cmp_Compare_int.calls (t196.size : Int) (t197.size : Int) t198 _ (by first|exact hG|exact GL.below hG (by repeat (with_reducible first|exact HB.out|apply qab|apply qaa|apply qac)))  A5.out).mono ?_);rintro e w' ⟨rfl,⟨nd,rfl⟩⟩;refine ⟨_,rfl,?_⟩)|((with_reducible refine qam (f := 146) rfl ?_);refine goesL_ (some 16) rfl rfl Tryz.func146 (by kernel_rfl) rfl #[.string t196,.string t197] rfl (by first|rfl|(simp only [List.map_toArray,List.map_cons,List.map_nil,List.length_drop,List.length_take];rfl)|simp only [List.map_toArray,List.map_cons,List.map_nil]) ?_;(with_reducible refine (cmp_Compare_string.calls t196 t197 t199 _ (by first|exact hG|exact GL.below hG (by repeat (with_reducible first|exact HB.out|apply qab|apply qaa|apply qac)))  A6.out).mono ?_);rintro e w' ⟨rfl,⟨nd,rfl⟩⟩;refine ⟨_,rfl,?_⟩)|((with_reducible refine gate_dst (N := 17) rfl ?_);refine Kd.R_lit (Kd.int .i64) _ 3 ?hg (N := 17) ?hd (xs := ([t198,t199] : List Int)) (inner := [.int .i64 t198,.int .i64 t199]) (ok := fun _ => True) (okp := fun _ => True) ?hr ?hp (fun _ hk => hk) trivial (Below.refl _ _) (Nat.le_refl _) (by simp) ?_;(case hd => rfl);(case hg => rfl);(case hr => first|(go_simp;done)|(go_simp;rfl));(case hp => exact (Reps.one (show Kd.M (Kd.int .i64) _ _ _ t198 [.int .i64 t198] from rfl) (Reps.one (show Kd.M (Kd.int .i64) _ _ _ t199 [.int .i64 t199] from rfl) (Reps.none _ _))));intro v201 w8 ho9 hb hg_ hnew_;clear hg_ hnew_;(first|rw [← Ny200.out] at ho9|(simp only [Int.reduceToNat] at ho9;rw [← Ny200.out] at ho9));have n0_ := Aside0.mk (Kd.R_lower ho9 (qao (by repeat (with_reducible first|exact HB.out|apply qab|apply qaa|apply qac))));have n1_ := Aside0.mk (qan (by repeat (with_reducible first|exact HB.out|apply qab|apply qaa|apply qac)) hb);clear HB;have HO202 := n0_;have HB := n1_;clear n0_ n1_;clear hb ho9;obtain ⟨Ao10,co10,eo10⟩ := Kd.R_slice HO202.out;subst eo10)|((with_reducible refine qam (f := 118) rfl ?_);refine goesL_ (some 18) rfl rfl Tryz.func118 (by kernel_rfl) rfl #[.slice Ao10 y200.length co10] rfl (by first|rfl|(simp only [List.map_toArray,List.map_cons,List.map_nil,List.length_drop,List.length_take];rfl)|simp only [List.map_toArray,List.map_cons,List.map_nil]) ?_;(with_reducible refine (cmp_Or_int.calls k _ _ y200 t203 _ (by first|exact hG|exact GL.below hG (by repeat (with_reducible first|exact HB.out|apply qab|apply qaa|apply qac)))  ?side1 ?side2 A7.out).mono ?_);(case side1 => repeat (first|exact (Kd.R_reads' HO202.out).2.2|(with_reducible refine Kd.C_alloc ?_ _)|(with_reducible refine Kd.C_drewN ?_ _)|(with_reducible refine Kd.C_drew ?_)));(case side2 => exact (Kd.R_reads' HO202.out).2.1);rintro e w' ⟨rfl,⟨nd,rfl⟩⟩;refine ⟨_,rfl,?_⟩))
 go_ret
 exact ⟨by first|rfl|(simp [qak,qal]<;>rfl)|(simp [*,qak,qal]<;>rfl),by repeat (with_reducible first|exact HB.out|apply qab|apply qaa|apply qac)⟩
def version_part_133.l0 : Nat → ByteArray → Int → Option (ByteArray × ByteArray)
 | 0,_,_ => none
 | k + 1,x0,x6 => if x6 < (x0.size : Int) then (if 0 ≤ x6 then ((version_CompareText_1.f (bt x0 x6)).bind fun t204 => (if t204 = true then (version_part_133.l0 k x0 (wrap64 (x6 + 1))) else (if x6 ≤ (x0.size : Int) then (some (x0.extract 0 (x6 : Int).toNat,x0.extract (x6 : Int).toNat x0.size)) else (none)))) else (none)) else (if 0 ≤ x6 then (if x6 ≤ (x0.size : Int) then (some (x0.extract 0 (x6 : Int).toNat,x0.extract (x6 : Int).toNat x0.size)) else (none)) else (none))
def version_part_133.f (k : Nat) (a0 : ByteArray) (a1 : Nat) : Option (ByteArray × ByteArray) := version_part_133.l0 k a0 0
theorem version_part_133.mono_l : ∀ k,(∀ y0 y1,LeO (version_part_133.l0 k y0 y1) (version_part_133.l0 (k + 1) y0 y1))
 | 0 => fun _ _ r h => by simp [version_part_133.l0] at h
 | k + 1 => by
  have ih0 := version_part_133.mono_l k
  ·intro y0 y1
   unfold version_part_133.l0
   repeat' first
   | (with_reducible exact ih0 _ _)
   | (with_reducible exact LeO.refl _)
   | (with_reducible exact LeO.none _)
   | (with_reducible refine LeO.ite ?_ ?_)
   | (with_reducible refine LeO.bind ?_ (fun _ => ?_))
   | exact ih0 _ _
   | exact LeO.none _
   | refine LeO.ite ?_ ?_
   | refine LeO.bind ?_ (fun _ => ?_)
theorem version_part_133.mono : ∀ a0 a1 k,LeO (version_part_133.f k a0 a1) (version_part_133.f (k + 1) a0 a1) := by
 intro a0 a1 k
 have ih0 := version_part_133.mono_l k
 unfold version_part_133.f
 repeat' first
   | (with_reducible exact ih0 _ _)
   | (with_reducible exact LeO.refl _)
   | (with_reducible exact LeO.none _)
   | (with_reducible refine LeO.ite ?_ ?_)
   | (with_reducible refine LeO.bind ?_ (fun _ => ?_))
   | exact ih0 _ _
   | exact LeO.none _
   | refine LeO.ite ?_ ?_
   | refine LeO.bind ?_ (fun _ => ?_)
theorem version_part_133.calls (k : Nat) (a0 : ByteArray) (a1 : Nat) (r1 : ByteArray) (r2 : ByteArray) (w : World) (hG : GL w) (h : version_part_133.f k a0 a1 = some (r1,r2)) :
  Calls Tryz.prog 134 #[.string a0,.func (.func 133) #[] #[]] w fun e w' => e = .returned (.tuple #[.string r1,.string r2]) ∧ Drawn0 w w' := by
 have H : (version_part_133.l0 k a0 0) = some (r1,r2) := h
 clear h
 have H' := Aside0.mk H
 clear H
 go_enter Tryz.func134,Tryz.ntmps134
 go_wp2
 repeat (go_quiet (fail);try go_wp2)
 go_loopg [6] k (fun kq v6 w' => ∃ (x6_1 : Int),v6 = .int .i64 x6_1 ∧ Aside0 (version_part_133.l0 kq a0 x6_1 = some (r1,r2)) ∧ Aside0 (kq ≤ k) ∧ Drawn0 w w')
 case atStart => exact ⟨(0),(by first|rfl|(simp;done)|(simp [*];done)|(simp [qaj];done)),H',⟨Nat.le_refl _⟩,by repeat (first|exact Drawn0.refl _|apply Drawn0.step)⟩
 case round =>
  clear H'
  try clear p2
  obtain ⟨x6_1,rfl,HA,HK1,⟨m1,rfl⟩⟩ := hrel
  cases gk with
  | zero => exact absurd HA.out (by simp [version_part_133.l0])
  | succ k1 =>
   have H := HA.out
   clear HA
   simp only [version_part_133.l0] at H
   by_cases c3 : x6_1 < (a0.size : Int)
   ·rw [if_pos c3] at H
    have c3b0 : decide (x6_1 < (a0.size : Int)) = true := decide_eq_true c3
    clear c3
    by_cases c4 : 0 ≤ x6_1
    ·rw [if_pos c4] at H
     have c4b0 : decide (0 ≤ x6_1) = true := decide_eq_true c4
     clear c4
     replace H := Option.bind_eq_some_iff.mp H
     obtain ⟨t204,A60,H⟩ := H
     replace H : (if t204 = true then (version_part_133.l0 k1 a0 (wrap64 (x6_1 + 1))) else (if x6_1 ≤ (a0.size : Int) then (some (a0.extract 0 (x6_1 : Int).toNat,a0.extract (x6_1 : Int).toNat a0.size)) else (none))) = some (r1,r2) := H
     have A6 := Aside0.mk A60
     clear A60
     by_cases c7 : t204 = true
     ·subst c7
      have H1 : (version_part_133.l0 k1 a0 (wrap64 (x6_1 + 1))) = some (r1,r2) := by rw [if_pos rfl] at H;exact H
      clear H
      have H := H1
      clear H1
      have H' := Aside0.mk H
      clear H
      have p5 : 0 ≤ (x6_1 : Int) := of_decide_eq_true (by assumption)
      have q5 : x6_1 < (a0.size : Int) := of_decide_eq_true (by assumption)
      have hx5 := bt_at a0 x6_1
      replace p5 := eq_true p5
      replace q5 := eq_true q5
      go_wp2_with (first|(go_at_call 133;(with_reducible refine (version_CompareText_1.calls (bt a0 x6_1) true _ (by first|exact hG|(repeat (first|exact hG|apply GL.drewN|apply GL.drew)))  A6.out).mono ?_);rintro e w' ⟨rfl,⟨nd,rfl⟩⟩;(try first|exact ⟨rfl,_,World.drewN_drewN _ _ _⟩|exact ⟨rfl,_,Eq.trans (World.drewN_drewN _ _ _) (congrArg (World.drewN _) (Nat.add_assoc _ _ _))⟩)))
      repeat (go_quiet (first|(go_at_call 133;(with_reducible refine (version_CompareText_1.calls (bt a0 x6_1) true _ (by first|exact hG|(repeat (first|exact hG|apply GL.drewN|apply GL.drew)))  A6.out).mono ?_);rintro e w' ⟨rfl,⟨nd,rfl⟩⟩;(try first|exact ⟨rfl,_,World.drewN_drewN _ _ _⟩|exact ⟨rfl,_,Eq.trans (World.drewN_drewN _ _ _) (congrArg (World.drewN _) (Nat.add_assoc _ _ _))⟩)));try go_wp2_with (first|(go_at_call 133;(with_reducible refine (version_CompareText_1.calls (bt a0 x6_1) true _ (by first|exact hG|(repeat (first|exact hG|apply GL.drewN|apply GL.drew)))  A6.out).mono ?_);rintro e w' ⟨rfl,⟨nd,rfl⟩⟩;(try first|exact ⟨rfl,_,World.drewN_drewN _ _ _⟩|exact ⟨rfl,_,Eq.trans (World.drewN_drewN _ _ _) (congrArg (World.drewN _) (Nat.add_assoc _ _ _))⟩))))
      go_roundg k1
      case measure => have := HK1.out;omega
      case rel => exact ⟨(wrap64 (x6_1 + 1)),(by first|rfl|(simp;done)|(simp [*];done)|(simp [qaj];done)),H',⟨by have := HK1.out;omega⟩,by repeat (first|exact Drawn0.refl _|apply Drawn0.step)⟩
     ·replace c7 := Bool.eq_false_iff.mpr c7
      subst c7
      have H1 : (if x6_1 ≤ (a0.size : Int) then (some (a0.extract 0 (x6_1 : Int).toNat,a0.extract (x6_1 : Int).toNat a0.size)) else (none)) = some (r1,r2) := by rw [if_neg (show ¬ (false = true) by decide)] at H;exact H
      clear H
      have H := H1
      clear H1
      have c8b0 := eq_true (of_decide_eq_true (by assumption) : 0 ≤ x6_1)
      by_cases c9 : x6_1 ≤ (a0.size : Int)
      ·rw [if_pos c9] at H
       have c9b0 := eq_true c9
       have c9b1 : decide (x6_1 ≤ (a0.size : Int)) = true := decide_eq_true c9
       clear c9
       have c10b0 := eq_true (of_decide_eq_true (by assumption) : 0 ≤ x6_1)
       have c11b0 := eq_true (of_decide_eq_true (by assumption) : x6_1 ≤ (a0.size : Int))
       simp only [Option.some.injEq,Prod.mk.injEq] at H
       obtain ⟨rfl,rfl⟩ := H
       have p5 : 0 ≤ (x6_1 : Int) := of_decide_eq_true (by assumption)
       have q5 : x6_1 < (a0.size : Int) := of_decide_eq_true (by assumption)
       have hx5 := bt_at a0 x6_1
       replace p5 := eq_true p5
       replace q5 := eq_true q5
       go_wp2_with (first|(go_at_call 133;(with_reducible refine (version_CompareText_1.calls (bt a0 x6_1) false _ (by first|exact hG|(repeat (first|exact hG|apply GL.drewN|apply GL.drew)))  A6.out).mono ?_);rintro e w' ⟨rfl,⟨nd,rfl⟩⟩;(try first|exact ⟨rfl,_,World.drewN_drewN _ _ _⟩|exact ⟨rfl,_,Eq.trans (World.drewN_drewN _ _ _) (congrArg (World.drewN _) (Nat.add_assoc _ _ _))⟩)))
       repeat (go_quiet (first|(go_at_call 133;(with_reducible refine (version_CompareText_1.calls (bt a0 x6_1) false _ (by first|exact hG|(repeat (first|exact hG|apply GL.drewN|apply GL.drew)))  A6.out).mono ?_);rintro e w' ⟨rfl,⟨nd,rfl⟩⟩;(try first|exact ⟨rfl,_,World.drewN_drewN _ _ _⟩|exact ⟨rfl,_,Eq.trans (World.drewN_drewN _ _ _) (congrArg (World.drewN _) (Nat.add_assoc _ _ _))⟩)));try go_wp2_with (first|(go_at_call 133;(with_reducible refine (version_CompareText_1.calls (bt a0 x6_1) false _ (by first|exact hG|(repeat (first|exact hG|apply GL.drewN|apply GL.drew)))  A6.out).mono ?_);rintro e w' ⟨rfl,⟨nd,rfl⟩⟩;(try first|exact ⟨rfl,_,World.drewN_drewN _ _ _⟩|exact ⟨rfl,_,Eq.trans (World.drewN_drewN _ _ _) (congrArg (World.drewN _) (Nat.add_assoc _ _ _))⟩))))
       go_ret2
       exact ⟨by first|rfl|(simp;done)|(simp [*];done)|(simp [qaj];done),by repeat (first|exact Drawn0.refl _|apply Drawn0.step)⟩
      ·rw [if_neg c9] at H
       exact absurd H (by simp)
    ·rw [if_neg c4] at H
     exact absurd H (by simp)
   ·rw [if_neg c3] at H
    have c3b0 : decide (x6_1 < (a0.size : Int)) = false := decide_eq_false c3
    clear c3
    by_cases c12 : 0 ≤ x6_1
    ·rw [if_pos c12] at H
     have c12b0 := eq_true c12
     have c12b1 : decide (0 ≤ x6_1) = true := decide_eq_true c12
     clear c12
     by_cases c13 : x6_1 ≤ (a0.size : Int)
     ·rw [if_pos c13] at H
      have c13b0 := eq_true c13
      have c13b1 : decide (x6_1 ≤ (a0.size : Int)) = true := decide_eq_true c13
      clear c13
      have c14b0 := eq_true (of_decide_eq_true (by assumption) : 0 ≤ x6_1)
      have c15b0 := eq_true (of_decide_eq_true (by assumption) : x6_1 ≤ (a0.size : Int))
      simp only [Option.some.injEq,Prod.mk.injEq] at H
      obtain ⟨rfl,rfl⟩ := H
      go_wp2
      repeat (go_quiet (fail);try go_wp2)
      go_ret2
      exact ⟨by first|rfl|(simp;done)|(simp [*];done)|(simp [qaj];done),by repeat (first|exact Drawn0.refl _|apply Drawn0.step)⟩
     ·rw [if_neg c13] at H
      exact absurd H (by simp)
    ·rw [if_neg c12] at H
     exact absurd H (by simp)
def version_part_130.l0 : Nat → ByteArray → Int → Option (ByteArray × ByteArray)
 | 0,_,_ => none
 | k + 1,x0,x6 => if x6 < (x0.size : Int) then (if 0 ≤ x6 then ((version_digit.f (bt x0 x6)).bind fun t204 => (if t204 = true then (version_part_130.l0 k x0 (wrap64 (x6 + 1))) else (if x6 ≤ (x0.size : Int) then (some (x0.extract 0 (x6 : Int).toNat,x0.extract (x6 : Int).toNat x0.size)) else (none)))) else (none)) else (if 0 ≤ x6 then (if x6 ≤ (x0.size : Int) then (some (x0.extract 0 (x6 : Int).toNat,x0.extract (x6 : Int).toNat x0.size)) else (none)) else (none))
def version_part_130.f (k : Nat) (a0 : ByteArray) (a1 : Nat) : Option (ByteArray × ByteArray) := version_part_130.l0 k a0 0
theorem version_part_130.mono_l : ∀ k,(∀ y0 y1,LeO (version_part_130.l0 k y0 y1) (version_part_130.l0 (k + 1) y0 y1))
 | 0 => fun _ _ r h => by simp [version_part_130.l0] at h
 | k + 1 => by
  have ih0 := version_part_130.mono_l k
  ·intro y0 y1
   unfold version_part_130.l0
   repeat' first
   | (with_reducible exact ih0 _ _)
   | (with_reducible exact LeO.refl _)
   | (with_reducible exact LeO.none _)
   | (with_reducible refine LeO.ite ?_ ?_)
   | (with_reducible refine LeO.bind ?_ (fun _ => ?_))
   | exact ih0 _ _
   | exact LeO.none _
   | refine LeO.ite ?_ ?_
   | refine LeO.bind ?_ (fun _ => ?_)
theorem version_part_130.mono : ∀ a0 a1 k,LeO (version_part_130.f k a0 a1) (version_part_130.f (k + 1) a0 a1) := by
 intro a0 a1 k
 have ih0 := version_part_130.mono_l k
 unfold version_part_130.f
 repeat' first
   | (with_reducible exact ih0 _ _)
   | (with_reducible exact LeO.refl _)
   | (with_reducible exact LeO.none _)
   | (with_reducible refine LeO.ite ?_ ?_)
   | (with_reducible refine LeO.bind ?_ (fun _ => ?_))
   | exact ih0 _ _
   | exact LeO.none _
   | refine LeO.ite ?_ ?_
   | refine LeO.bind ?_ (fun _ => ?_)
theorem version_part_130.calls (k : Nat) (a0 : ByteArray) (a1 : Nat) (r1 : ByteArray) (r2 : ByteArray) (w : World) (hG : GL w) (h : version_part_130.f k a0 a1 = some (r1,r2)) :
  Calls Tryz.prog 134 #[.string a0,.func (.func 130) #[] #[]] w fun e w' => e = .returned (.tuple #[.string r1,.string r2]) ∧ Drawn0 w w' := by
 have H : (version_part_130.l0 k a0 0) = some (r1,r2) := h
 clear h
 have H' := Aside0.mk H
 clear H
 go_enter Tryz.func134,Tryz.ntmps134
 go_wp2
 repeat (go_quiet (fail);try go_wp2)
 go_loopg [6] k (fun kq v6 w' => ∃ (x6_1 : Int),v6 = .int .i64 x6_1 ∧ Aside0 (version_part_130.l0 kq a0 x6_1 = some (r1,r2)) ∧ Aside0 (kq ≤ k) ∧ Drawn0 w w')
 case atStart => exact ⟨(0),(by first|rfl|(simp;done)|(simp [*];done)|(simp [qaj];done)),H',⟨Nat.le_refl _⟩,by repeat (first|exact Drawn0.refl _|apply Drawn0.step)⟩
 case round =>
  clear H'
  try clear p2
  obtain ⟨x6_1,rfl,HA,HK1,⟨m1,rfl⟩⟩ := hrel
  cases gk with
  | zero => exact absurd HA.out (by simp [version_part_130.l0])
  | succ k1 =>
   have H := HA.out
   clear HA
   simp only [version_part_130.l0] at H
   by_cases c3 : x6_1 < (a0.size : Int)
   ·rw [if_pos c3] at H
    have c3b0 : decide (x6_1 < (a0.size : Int)) = true := decide_eq_true c3
    clear c3
    by_cases c4 : 0 ≤ x6_1
    ·rw [if_pos c4] at H
     have c4b0 : decide (0 ≤ x6_1) = true := decide_eq_true c4
     clear c4
     replace H := Option.bind_eq_some_iff.mp H
     obtain ⟨t204,A60,H⟩ := H
     replace H : (if t204 = true then (version_part_130.l0 k1 a0 (wrap64 (x6_1 + 1))) else (if x6_1 ≤ (a0.size : Int) then (some (a0.extract 0 (x6_1 : Int).toNat,a0.extract (x6_1 : Int).toNat a0.size)) else (none))) = some (r1,r2) := H
     have A6 := Aside0.mk A60
     clear A60
     by_cases c7 : t204 = true
     ·subst c7
      have H1 : (version_part_130.l0 k1 a0 (wrap64 (x6_1 + 1))) = some (r1,r2) := by rw [if_pos rfl] at H;exact H
      clear H
      have H := H1
      clear H1
      have H' := Aside0.mk H
      clear H
      have p5 : 0 ≤ (x6_1 : Int) := of_decide_eq_true (by assumption)
      have q5 : x6_1 < (a0.size : Int) := of_decide_eq_true (by assumption)
      have hx5 := bt_at a0 x6_1
      replace p5 := eq_true p5
      replace q5 := eq_true q5
      go_wp2_with (first|(go_at_call 130;(with_reducible refine (version_digit.calls (bt a0 x6_1) true _ (by first|exact hG|(repeat (first|exact hG|apply GL.drewN|apply GL.drew)))  A6.out).mono ?_);rintro e w' ⟨rfl,⟨nd,rfl⟩⟩;(try first|exact ⟨rfl,_,World.drewN_drewN _ _ _⟩|exact ⟨rfl,_,Eq.trans (World.drewN_drewN _ _ _) (congrArg (World.drewN _) (Nat.add_assoc _ _ _))⟩)))
      repeat (go_quiet (first|(go_at_call 130;(with_reducible refine (version_digit.calls (bt a0 x6_1) true _ (by first|exact hG|(repeat (first|exact hG|apply GL.drewN|apply GL.drew)))  A6.out).mono ?_);rintro e w' ⟨rfl,⟨nd,rfl⟩⟩;(try first|exact ⟨rfl,_,World.drewN_drewN _ _ _⟩|exact ⟨rfl,_,Eq.trans (World.drewN_drewN _ _ _) (congrArg (World.drewN _) (Nat.add_assoc _ _ _))⟩)));try go_wp2_with (first|(go_at_call 130;(with_reducible refine (version_digit.calls (bt a0 x6_1) true _ (by first|exact hG|(repeat (first|exact hG|apply GL.drewN|apply GL.drew)))  A6.out).mono ?_);rintro e w' ⟨rfl,⟨nd,rfl⟩⟩;(try first|exact ⟨rfl,_,World.drewN_drewN _ _ _⟩|exact ⟨rfl,_,Eq.trans (World.drewN_drewN _ _ _) (congrArg (World.drewN _) (Nat.add_assoc _ _ _))⟩))))
      go_roundg k1
      case measure => have := HK1.out;omega
      case rel => exact ⟨(wrap64 (x6_1 + 1)),(by first|rfl|(simp;done)|(simp [*];done)|(simp [qaj];done)),H',⟨by have := HK1.out;omega⟩,by repeat (first|exact Drawn0.refl _|apply Drawn0.step)⟩
     ·replace c7 := Bool.eq_false_iff.mpr c7
      subst c7
      have H1 : (if x6_1 ≤ (a0.size : Int) then (some (a0.extract 0 (x6_1 : Int).toNat,a0.extract (x6_1 : Int).toNat a0.size)) else (none)) = some (r1,r2) := by rw [if_neg (show ¬ (false = true) by decide)] at H;exact H
      clear H
      have H := H1
      clear H1
      have c8b0 := eq_true (of_decide_eq_true (by assumption) : 0 ≤ x6_1)
      by_cases c9 : x6_1 ≤ (a0.size : Int)
      ·rw [if_pos c9] at H
       have c9b0 := eq_true c9
       have c9b1 : decide (x6_1 ≤ (a0.size : Int)) = true := decide_eq_true c9
       clear c9
       have c10b0 := eq_true (of_decide_eq_true (by assumption) : 0 ≤ x6_1)
       have c11b0 := eq_true (of_decide_eq_true (by assumption) : x6_1 ≤ (a0.size : Int))
       simp only [Option.some.injEq,Prod.mk.injEq] at H
       obtain ⟨rfl,rfl⟩ := H
       have p5 : 0 ≤ (x6_1 : Int) := of_decide_eq_true (by assumption)
       have q5 : x6_1 < (a0.size : Int) := of_decide_eq_true (by assumption)
       have hx5 := bt_at a0 x6_1
       replace p5 := eq_true p5
       replace q5 := eq_true q5
       go_wp2_with (first|(go_at_call 130;(with_reducible refine (version_digit.calls (bt a0 x6_1) false _ (by first|exact hG|(repeat (first|exact hG|apply GL.drewN|apply GL.drew)))  A6.out).mono ?_);rintro e w' ⟨rfl,⟨nd,rfl⟩⟩;(try first|exact ⟨rfl,_,World.drewN_drewN _ _ _⟩|exact ⟨rfl,_,Eq.trans (World.drewN_drewN _ _ _) (congrArg (World.drewN _) (Nat.add_assoc _ _ _))⟩)))
       repeat (go_quiet (first|(go_at_call 130;(with_reducible refine (version_digit.calls (bt a0 x6_1) false _ (by first|exact hG|(repeat (first|exact hG|apply GL.drewN|apply GL.drew)))  A6.out).mono ?_);rintro e w' ⟨rfl,⟨nd,rfl⟩⟩;(try first|exact ⟨rfl,_,World.drewN_drewN _ _ _⟩|exact ⟨rfl,_,Eq.trans (World.drewN_drewN _ _ _) (congrArg (World.drewN _) (Nat.add_assoc _ _ _))⟩)));try go_wp2_with (first|(go_at_call 130;(with_reducible refine (version_digit.calls (bt a0 x6_1) false _ (by first|exact hG|(repeat (first|exact hG|apply GL.drewN|apply GL.drew)))  A6.out).mono ?_);rintro e w' ⟨rfl,⟨nd,rfl⟩⟩;(try first|exact ⟨rfl,_,World.drewN_drewN _ _ _⟩|exact ⟨rfl,_,Eq.trans (World.drewN_drewN _ _ _) (congrArg (World.drewN _) (Nat.add_assoc _ _ _))⟩))))
       go_ret2
       exact ⟨by first|rfl|(simp;done)|(simp [*];done)|(simp [qaj];done),by repeat (first|exact Drawn0.refl _|apply Drawn0.step)⟩
      ·rw [if_neg c9] at H
       exact absurd H (by simp)
    ·rw [if_neg c4] at H
     exact absurd H (by simp)
   ·rw [if_neg c3] at H
    have c3b0 : decide (x6_1 < (a0.size : Int)) = false := decide_eq_false c3
    clear c3
    by_cases c12 : 0 ≤ x6_1
    ·rw [if_pos c12] at H
     have c12b0 := eq_true c12
     have c12b1 : decide (0 ≤ x6_1) = true := decide_eq_true c12
     clear c12
     by_cases c13 : x6_1 ≤ (a0.size : Int)
     ·rw [if_pos c13] at H
      have c13b0 := eq_true c13
      have c13b1 : decide (x6_1 ≤ (a0.size : Int)) = true := decide_eq_true c13
      clear c13
      have c14b0 := eq_true (of_decide_eq_true (by assumption) : 0 ≤ x6_1)
      have c15b0 := eq_true (of_decide_eq_true (by assumption) : x6_1 ≤ (a0.size : Int))
      simp only [Option.some.injEq,Prod.mk.injEq] at H
      obtain ⟨rfl,rfl⟩ := H
      go_wp2
      repeat (go_quiet (fail);try go_wp2)
      go_ret2
      exact ⟨by first|rfl|(simp;done)|(simp [*];done)|(simp [qaj];done),by repeat (first|exact Drawn0.refl _|apply Drawn0.step)⟩
     ·rw [if_neg c13] at H
      exact absurd H (by simp)
    ·rw [if_neg c12] at H
     exact absurd H (by simp)
mutual
def version_CompareText.l0 : Nat → ByteArray → ByteArray → Nat → Option (Int)
 | 0,_,_,_ => none
 | k + 1,x0,x1,x5 => if x0.toList = ([] : List UInt8) then (version_CompareText.j1 k x0 x1 x5 (x1.toList != ([] : List UInt8))) else (version_CompareText.j1 k x0 x1 x5 true)
def version_CompareText.j1 : Nat → ByteArray → ByteArray → Nat → Bool → Option (Int)
 | 0,_,_,_,_ => none
 | k + 1,x0,x1,x5,x16 => if x16 = true then ((version_part_133.f k x0 x5).bind fun bt205 => ((version_part_133.f k x1 x5).bind fun bt207 => ((version_part_130.f k bt205.2 0).bind fun bt209 => ((version_part_130.f k bt207.2 0).bind fun bt211 => ((version_words.f k bt205.1 bt207.1).bind fun t213 => ((version_numbers.f k bt209.1 bt211.1).bind fun t214 => ((cmp_Or_int.f k (([t213,t214] : List Int))).bind fun t218 => (if t218 = 0 then (version_CompareText.l0 k bt209.2 bt211.2 x5) else (some t218))))))))) else (some 0)
end
def version_CompareText.f (k : Nat) (a0 : ByteArray) (a1 : ByteArray) : Option (Int) := version_CompareText.l0 k a0 a1 0
theorem version_CompareText.mono_l : ∀ k,(∀ y0 y1 y2,LeO (version_CompareText.l0 k y0 y1 y2) (version_CompareText.l0 (k + 1) y0 y1 y2)) ∧ (∀ y0 y1 y2 y3,LeO (version_CompareText.j1 k y0 y1 y2 y3) (version_CompareText.j1 (k + 1) y0 y1 y2 y3))
 | 0 => ⟨fun _ _ _ r h => by simp [version_CompareText.l0] at h,fun _ _ _ _ r h => by simp [version_CompareText.j1] at h⟩
 | k + 1 => by
  obtain ⟨ih0,ih1⟩ := version_CompareText.mono_l k
  refine ⟨?_,?_⟩
  ·intro y0 y1 y2
   unfold version_CompareText.l0
   repeat' first
   | (with_reducible exact ih0 _ _ _)
   | (with_reducible exact ih1 _ _ _ _)
   | (with_reducible exact cmp_Or_int.mono _ _)
   | (with_reducible exact version_numbers.mono _ _ _)
   | (with_reducible exact version_part_130.mono _ _ _)
   | (with_reducible exact version_part_133.mono _ _ _)
   | (with_reducible exact version_words.mono _ _ _)
   | (with_reducible exact LeO.refl _)
   | (with_reducible exact LeO.none _)
   | (with_reducible refine LeO.ite ?_ ?_)
   | (with_reducible refine LeO.bind ?_ (fun _ => ?_))
   | exact ih0 _ _ _
   | exact ih1 _ _ _ _
   | exact cmp_Or_int.mono _ _
   | exact version_numbers.mono _ _ _
   | exact version_part_130.mono _ _ _
   | exact version_part_133.mono _ _ _
   | exact version_words.mono _ _ _
   | exact LeO.none _
   | refine LeO.ite ?_ ?_
   | refine LeO.bind ?_ (fun _ => ?_)
  ·intro y0 y1 y2 y3
   unfold version_CompareText.j1
   repeat' first
   | (with_reducible exact ih0 _ _ _)
   | (with_reducible exact ih1 _ _ _ _)
   | (with_reducible exact cmp_Or_int.mono _ _)
   | (with_reducible exact version_numbers.mono _ _ _)
   | (with_reducible exact version_part_130.mono _ _ _)
   | (with_reducible exact version_part_133.mono _ _ _)
   | (with_reducible exact version_words.mono _ _ _)
   | (with_reducible exact LeO.refl _)
   | (with_reducible exact LeO.none _)
   | (with_reducible refine LeO.ite ?_ ?_)
   | (with_reducible refine LeO.bind ?_ (fun _ => ?_))
   | exact ih0 _ _ _
   | exact ih1 _ _ _ _
   | exact cmp_Or_int.mono _ _
   | exact version_numbers.mono _ _ _
   | exact version_part_130.mono _ _ _
   | exact version_part_133.mono _ _ _
   | exact version_words.mono _ _ _
   | exact LeO.none _
   | refine LeO.ite ?_ ?_
   | refine LeO.bind ?_ (fun _ => ?_)
theorem version_CompareText.mono : ∀ a0 a1 k,LeO (version_CompareText.f k a0 a1) (version_CompareText.f (k + 1) a0 a1) := by
 intro a0 a1 k
 obtain ⟨ih0,ih1⟩ := version_CompareText.mono_l k
 unfold version_CompareText.f
 repeat' first
   | (with_reducible exact ih0 _ _ _)
   | (with_reducible exact ih1 _ _ _ _)
   | (with_reducible exact cmp_Or_int.mono _ _)
   | (with_reducible exact version_numbers.mono _ _ _)
   | (with_reducible exact version_part_130.mono _ _ _)
   | (with_reducible exact version_part_133.mono _ _ _)
   | (with_reducible exact version_words.mono _ _ _)
   | (with_reducible exact LeO.refl _)
   | (with_reducible exact LeO.none _)
   | (with_reducible refine LeO.ite ?_ ?_)
   | (with_reducible refine LeO.bind ?_ (fun _ => ?_))
   | exact ih0 _ _ _
   | exact ih1 _ _ _ _
   | exact cmp_Or_int.mono _ _
   | exact version_numbers.mono _ _ _
   | exact version_part_130.mono _ _ _
   | exact version_part_133.mono _ _ _
   | exact version_words.mono _ _ _
   | exact LeO.none _
   | refine LeO.ite ?_ ?_
   | refine LeO.bind ?_ (fun _ => ?_)
theorem version_CompareText.calls (k : Nat) (a0 : ByteArray) (a1 : ByteArray) (r : Int) (w : World) (hG : GL w) (h : version_CompareText.f k a0 a1 = some r) :
  Calls Tryz.prog 120 #[.string a0,.string a1] w fun e w' => e = .returned (.int .i64 r) ∧ Below w.heap.size w w' := by
 have HB := Aside0.mk (Below.refl w.heap.size w)
 have H : (version_CompareText.l0 k a0 a1 0) = some r := h
 clear h
 have H' := Aside0.mk H
 clear H
 go_enter Tryz.func120,Tryz.ntmps120
 go_wp2
 go_loopg [0,1] k (fun kq v0 v1 w' => ∃ (x0_1 : ByteArray) (x1_1 : ByteArray),v0 = .string x0_1 ∧ v1 = .string x1_1 ∧ Aside0 (version_CompareText.l0 kq x0_1 x1_1 0 = some r) ∧ Aside0 (kq ≤ k) ∧ Aside0 (Below w.heap.size w w'))
 case atStart => exact ⟨(a0),(a1),(by first|rfl|(simp;done)|(simp [*];done)|(simp [qaj];done)),(by first|rfl|(simp;done)|(simp [*];done)|(simp [qaj];done)),H',⟨Nat.le_refl _⟩,⟨by repeat (with_reducible first|exact HB.out|apply qab|apply qaa|apply qac)⟩⟩
 case round =>
  clear H'
  try clear c1
  try clear p2
  obtain ⟨x0_1,x1_1,rfl,rfl,HA,HK1,HB⟩ := hrel
  cases gk with
  | zero => exact absurd HA.out (by simp [version_CompareText.l0])
  | succ k1 =>
   have H := HA.out
   clear HA
   simp only [version_CompareText.l0] at H
   have HC3 := Aside0.mk H
   clear H
   go_upto_region 2 with (fail)
   go_cut [16] (fun v16 wc => ∃ (kq : Nat) (x16_2 : Bool),v16 = .bool x16_2 ∧ Aside0 (version_CompareText.j1 kq x0_1 x1_1 0 x16_2 = some r) ∧ Aside0 (kq ≤ k1) ∧ Aside0 (Below w.heap.size w wc))
   case first =>
    have H := HC3.out
    clear HC3
    by_cases c4 : x0_1.toList = ([] : List UInt8)
    ·rw [if_pos c4] at H
     have c4b0 : (x0_1.toList == ([] : List UInt8)) = true := beq_iff_eq.mpr c4
     have c4b1 : (x0_1.toList != ([] : List UInt8)) = false := bne_eq_false_iff_eq.mpr c4
     clear c4
     (first|rw [c4b0]|(simp only [i64_w,i32_w];rw [c4b0]) | skip)
     have H' := Aside0.mk H
     clear H
     go_wp2
     go_meet
     case rel => exact ⟨_,((x1_1.toList != ([] : List UInt8))),(by first|rfl|(simp;done)|(simp [*];done)|(simp [qaj];done)),H',⟨by have := HK1.out;first|omega|exact Nat.le_refl _⟩,⟨by repeat (with_reducible first|exact HB.out|apply qab|apply qaa|apply qac)⟩⟩
    ·rw [if_neg c4] at H
     have c4b0 : (x0_1.toList == ([] : List UInt8)) = false := beq_eq_false_iff_ne.mpr c4
     have c4b1 : (x0_1.toList != ([] : List UInt8)) = true := bne_iff_ne.mpr c4
     (first|rw [c4b0]|(simp only [i64_w,i32_w];rw [c4b0]) | skip)
     have H' := Aside0.mk H
     clear H
     go_wp2
     go_meet
     case rel => exact ⟨_,(true),(by first|rfl|(simp;done)|(simp [*];done)|(simp [qaj];done)),H',⟨by have := HK1.out;first|omega|exact Nat.le_refl _⟩,⟨by repeat (with_reducible first|exact HB.out|apply qab|apply qaa|apply qac)⟩⟩
   case rest =>
    clear HC3
    try clear c1
    try clear p2
    try clear c4
    try clear c4b0
    try clear c4b1
    try clear p2
    obtain ⟨kq,x16_2,rfl,HA,HJ2,HB⟩ := hcut
    cases kq with
    | zero => exact absurd HA.out (by simp [version_CompareText.j1])
    | succ kj2 =>
     have H := HA.out
     clear HA
     simp only [version_CompareText.j1] at H
     by_cases c5 : x16_2 = true
     ·subst c5
      have H1 : ((version_part_133.f kj2 x0_1 0).bind fun bt205 => ((version_part_133.f kj2 x1_1 0).bind fun bt207 => ((version_part_130.f kj2 bt205.2 0).bind fun bt209 => ((version_part_130.f kj2 bt207.2 0).bind fun bt211 => ((version_words.f kj2 bt205.1 bt207.1).bind fun t213 => ((version_numbers.f kj2 bt209.1 bt211.1).bind fun t214 => ((cmp_Or_int.f kj2 (([t213,t214] : List Int))).bind fun t218 => (if t218 = 0 then (version_CompareText.l0 kj2 bt209.2 bt211.2 0) else (some t218))))))))) = some r := by rw [if_pos rfl] at H;exact H
      clear H
      have H := H1
      clear H1
      replace H := Option.bind_eq_some_iff.mp H
      obtain ⟨⟨t205,t206⟩,A60,H⟩ := H
      replace H : ((version_part_133.f kj2 x1_1 0).bind fun bt207 => ((version_part_130.f kj2 t206 0).bind fun bt209 => ((version_part_130.f kj2 bt207.2 0).bind fun bt211 => ((version_words.f kj2 t205 bt207.1).bind fun t213 => ((version_numbers.f kj2 bt209.1 bt211.1).bind fun t214 => ((cmp_Or_int.f kj2 (([t213,t214] : List Int))).bind fun t218 => (if t218 = 0 then (version_CompareText.l0 kj2 bt209.2 bt211.2 0) else (some t218)))))))) = some r := H
      have A6 := Aside0.mk A60
      clear A60
      replace H := Option.bind_eq_some_iff.mp H
      obtain ⟨⟨t207,t208⟩,A70,H⟩ := H
      replace H : ((version_part_130.f kj2 t206 0).bind fun bt209 => ((version_part_130.f kj2 t208 0).bind fun bt211 => ((version_words.f kj2 t205 t207).bind fun t213 => ((version_numbers.f kj2 bt209.1 bt211.1).bind fun t214 => ((cmp_Or_int.f kj2 (([t213,t214] : List Int))).bind fun t218 => (if t218 = 0 then (version_CompareText.l0 kj2 bt209.2 bt211.2 0) else (some t218))))))) = some r := H
      have A7 := Aside0.mk A70
      clear A70
      replace H := Option.bind_eq_some_iff.mp H
      obtain ⟨⟨t209,t210⟩,A80,H⟩ := H
      replace H : ((version_part_130.f kj2 t208 0).bind fun bt211 => ((version_words.f kj2 t205 t207).bind fun t213 => ((version_numbers.f kj2 t209 bt211.1).bind fun t214 => ((cmp_Or_int.f kj2 (([t213,t214] : List Int))).bind fun t218 => (if t218 = 0 then (version_CompareText.l0 kj2 t210 bt211.2 0) else (some t218)))))) = some r := H
      have A8 := Aside0.mk A80
      clear A80
      replace H := Option.bind_eq_some_iff.mp H
      obtain ⟨⟨t211,t212⟩,A90,H⟩ := H
      replace H : ((version_words.f kj2 t205 t207).bind fun t213 => ((version_numbers.f kj2 t209 t211).bind fun t214 => ((cmp_Or_int.f kj2 (([t213,t214] : List Int))).bind fun t218 => (if t218 = 0 then (version_CompareText.l0 kj2 t210 t212 0) else (some t218))))) = some r := H
      have A9 := Aside0.mk A90
      clear A90
      replace H := Option.bind_eq_some_iff.mp H
      obtain ⟨t213,A100,H⟩ := H
      replace H : ((version_numbers.f kj2 t209 t211).bind fun t214 => ((cmp_Or_int.f kj2 (([t213,t214] : List Int))).bind fun t218 => (if t218 = 0 then (version_CompareText.l0 kj2 t210 t212 0) else (some t218)))) = some r := H
      have A10 := Aside0.mk A100
      clear A100
      replace H := Option.bind_eq_some_iff.mp H
      obtain ⟨t214,A110,H⟩ := H
      replace H : ((cmp_Or_int.f kj2 (([t213,t214] : List Int))).bind fun t218 => (if t218 = 0 then (version_CompareText.l0 kj2 t210 t212 0) else (some t218))) = some r := H
      have A11 := Aside0.mk A110
      clear A110
      obtain ⟨y215,hy215⟩ : ∃ y_ : List Int,y_ = (([t213,t214] : List Int)) := ⟨_,rfl⟩
      replace H : ((cmp_Or_int.f kj2 y215).bind fun t218 => (if t218 = 0 then (version_CompareText.l0 kj2 t210 t212 0) else (some t218))) = some r := by first|(rw [hy215];with_reducible exact H)|(have H2_ := (Option.bind_some _ _).symm.trans H;rw [hy215];with_reducible exact H2_)|(have H2_ := (Option.bind_some _ _).symm.trans H;with_reducible exact H2_) | with_reducible exact H|(rw [hy215];exact H)|exact H
      have Ny215 := Aside0.mk hy215
      clear hy215
      replace H := Option.bind_eq_some_iff.mp H
      obtain ⟨t218,A120,H⟩ := H
      replace H : (if t218 = 0 then (version_CompareText.l0 kj2 t210 t212 0) else (some t218)) = some r := H
      have A12 := Aside0.mk A120
      clear A120
      by_cases c13 : t218 = 0
      ·rw [if_pos c13] at H
       have c13b0 : (t218 == 0) = true := beq_iff_eq.mpr c13
       have c13b1 : (t218 != 0) = false := bne_eq_false_iff_eq.mpr c13
       clear c13
       have H' := Aside0.mk H
       clear H
       go_wp2_with (first|((with_reducible refine qam (f := 134) rfl ?_);refine goesL_ (some 20) rfl rfl Tryz.func134 (by kernel_rfl) rfl #[.string x0_1,.func (.func 133) #[] #[]] rfl (by first|rfl|(simp only [List.map_toArray,List.map_cons,List.map_nil,List.length_drop,List.length_take];rfl)|simp only [List.map_toArray,List.map_cons,List.map_nil]) ?_;(with_reducible refine (version_part_133.calls kj2 x0_1 0 t205 t206 _ (by first|exact hG|exact GL.below hG (by repeat (with_reducible first|exact HB.out|apply qab|apply qaa|apply qac)))  A6.out).mono ?_);rintro e w' ⟨rfl,⟨nd,rfl⟩⟩;refine ⟨_,rfl,?_⟩)|((with_reducible refine qam (f := 134) rfl ?_);refine goesL_ (some 26) rfl rfl Tryz.func134 (by kernel_rfl) rfl #[.string x1_1,.func (.func 133) #[] #[]] rfl (by first|rfl|(simp only [List.map_toArray,List.map_cons,List.map_nil,List.length_drop,List.length_take];rfl)|simp only [List.map_toArray,List.map_cons,List.map_nil]) ?_;(with_reducible refine (version_part_133.calls kj2 x1_1 0 t207 t208 _ (by first|exact hG|exact GL.below hG (by repeat (with_reducible first|exact HB.out|apply qab|apply qaa|apply qac)))  A7.out).mono ?_);rintro e w' ⟨rfl,⟨nd,rfl⟩⟩;refine ⟨_,rfl,?_⟩)|((with_reducible refine qam (f := 134) rfl ?_);refine goesL_ (some 31) rfl rfl Tryz.func134 (by kernel_rfl) rfl #[.string t206,.func (.func 130) #[] #[]] rfl (by first|rfl|(simp only [List.map_toArray,List.map_cons,List.map_nil,List.length_drop,List.length_take];rfl)|simp only [List.map_toArray,List.map_cons,List.map_nil]) ?_;(with_reducible refine (version_part_130.calls kj2 t206 0 t209 t210 _ (by first|exact hG|exact GL.below hG (by repeat (with_reducible first|exact HB.out|apply qab|apply qaa|apply qac)))  A8.out).mono ?_);rintro e w' ⟨rfl,⟨nd,rfl⟩⟩;refine ⟨_,rfl,?_⟩)|((with_reducible refine qam (f := 134) rfl ?_);refine goesL_ (some 36) rfl rfl Tryz.func134 (by kernel_rfl) rfl #[.string t208,.func (.func 130) #[] #[]] rfl (by first|rfl|(simp only [List.map_toArray,List.map_cons,List.map_nil,List.length_drop,List.length_take];rfl)|simp only [List.map_toArray,List.map_cons,List.map_nil]) ?_;(with_reducible refine (version_part_130.calls kj2 t208 0 t211 t212 _ (by first|exact hG|exact GL.below hG (by repeat (with_reducible first|exact HB.out|apply qab|apply qaa|apply qac)))  A9.out).mono ?_);rintro e w' ⟨rfl,⟨nd,rfl⟩⟩;refine ⟨_,rfl,?_⟩)|((with_reducible refine qam (f := 135) rfl ?_);refine goesL_ (some 41) rfl rfl Tryz.func135 (by kernel_rfl) rfl #[.string t205,.string t207] rfl (by first|rfl|(simp only [List.map_toArray,List.map_cons,List.map_nil,List.length_drop,List.length_take];rfl)|simp only [List.map_toArray,List.map_cons,List.map_nil]) ?_;(with_reducible refine (version_words.calls kj2 t205 t207 t213 _ (by first|exact hG|exact GL.below hG (by repeat (with_reducible first|exact HB.out|apply qab|apply qaa|apply qac)))  A10.out).mono ?_);rintro e w14 ⟨rfl,hb⟩;refine ⟨_,rfl,?_⟩;have n0_ := Aside0.mk (qan (by repeat (with_reducible first|exact HB.out|apply qab|apply qaa|apply qac)) hb);clear HB;have HB := n0_;clear n0_;(try clear hb);(try clear hb2);(try clear hk);(try clear hi))|((with_reducible refine qam (f := 136) rfl ?_);refine goesL_ (some 44) rfl rfl Tryz.func136 (by kernel_rfl) rfl #[.string t209,.string t211] rfl (by first|rfl|(simp only [List.map_toArray,List.map_cons,List.map_nil,List.length_drop,List.length_take];rfl)|simp only [List.map_toArray,List.map_cons,List.map_nil]) ?_;(with_reducible refine (version_numbers.calls kj2 t209 t211 t214 _ (by first|exact hG|exact GL.below hG (by repeat (with_reducible first|exact HB.out|apply qab|apply qaa|apply qac)))  A11.out).mono ?_);rintro e w15 ⟨rfl,hb⟩;refine ⟨_,rfl,?_⟩;have n0_ := Aside0.mk (qan (by repeat (with_reducible first|exact HB.out|apply qab|apply qaa|apply qac)) hb);clear HB;have HB := n0_;clear n0_;(try clear hb);(try clear hb2);(try clear hk);(try clear hi))|((with_reducible refine gate_dst (N := 45) rfl ?_);refine Kd.R_lit (Kd.int .i64) _ 3 ?hg (N := 45) ?hd (xs := ([t213,t214] : List Int)) (inner := [.int .i64 t213,.int .i64 t214]) (ok := fun _ => True) (okp := fun _ => True) ?hr ?hp (fun _ hk => hk) trivial (Below.refl _ _) (Nat.le_refl _) (by simp) ?_;(case hd => rfl);(case hg => rfl);(case hr => first|(go_simp;done)|(go_simp;rfl));(case hp => exact (Reps.one (show Kd.M (Kd.int .i64) _ _ _ t213 [.int .i64 t213] from rfl) (Reps.one (show Kd.M (Kd.int .i64) _ _ _ t214 [.int .i64 t214] from rfl) (Reps.none _ _))));intro v216 w16 ho17 hb hg_ hnew_;clear hg_ hnew_;(first|rw [← Ny215.out] at ho17|(simp only [Int.reduceToNat] at ho17;rw [← Ny215.out] at ho17));have n0_ := Aside0.mk (Kd.R_lower ho17 (qao (by repeat (with_reducible first|exact HB.out|apply qab|apply qaa|apply qac))));have n1_ := Aside0.mk (qan (by repeat (with_reducible first|exact HB.out|apply qab|apply qaa|apply qac)) hb);clear HB;have HO217 := n0_;have HB := n1_;clear n0_ n1_;clear hb ho17;obtain ⟨Ao18,co18,eo18⟩ := Kd.R_slice HO217.out;subst eo18)|((with_reducible refine qam (f := 118) rfl ?_);refine goesL_ (some 46) rfl rfl Tryz.func118 (by kernel_rfl) rfl #[.slice Ao18 y215.length co18] rfl (by first|rfl|(simp only [List.map_toArray,List.map_cons,List.map_nil,List.length_drop,List.length_take];rfl)|simp only [List.map_toArray,List.map_cons,List.map_nil]) ?_;(with_reducible refine (cmp_Or_int.calls kj2 _ _ y215 t218 _ (by first|exact hG|exact GL.below hG (by repeat (with_reducible first|exact HB.out|apply qab|apply qaa|apply qac)))  ?side1 ?side2 A12.out).mono ?_);(case side1 => repeat (first|exact (Kd.R_reads' HO217.out).2.2|(with_reducible refine Kd.C_alloc ?_ _)|(with_reducible refine Kd.C_drewN ?_ _)|(with_reducible refine Kd.C_drew ?_)));(case side2 => exact (Kd.R_reads' HO217.out).2.1);rintro e w' ⟨rfl,⟨nd,rfl⟩⟩;refine ⟨_,rfl,?_⟩))
       go_roundg kj2
       case measure => have := HK1.out;have := HJ2.out;omega
       case rel => exact ⟨(t210),(t212),(by first|rfl|(simp;done)|(simp [*];done)|(simp [qaj];done)),(by first|rfl|(simp;done)|(simp [*];done)|(simp [qaj];done)),H',⟨by have := HK1.out;have := HJ2.out;omega⟩,⟨by repeat (with_reducible first|exact HB.out|apply qab|apply qaa|apply qac)⟩⟩
      ·rw [if_neg c13] at H
       have c13b0 : (t218 == 0) = false := beq_eq_false_iff_ne.mpr c13
       have c13b1 : (t218 != 0) = true := bne_iff_ne.mpr c13
       obtain rfl := Option.some.inj H
       go_wp2_with (first|((with_reducible refine qam (f := 134) rfl ?_);refine goesL_ (some 20) rfl rfl Tryz.func134 (by kernel_rfl) rfl #[.string x0_1,.func (.func 133) #[] #[]] rfl (by first|rfl|(simp only [List.map_toArray,List.map_cons,List.map_nil,List.length_drop,List.length_take];rfl)|simp only [List.map_toArray,List.map_cons,List.map_nil]) ?_;(with_reducible refine (version_part_133.calls kj2 x0_1 0 t205 t206 _ (by first|exact hG|exact GL.below hG (by repeat (with_reducible first|exact HB.out|apply qab|apply qaa|apply qac)))  A6.out).mono ?_);rintro e w' ⟨rfl,⟨nd,rfl⟩⟩;refine ⟨_,rfl,?_⟩)|((with_reducible refine qam (f := 134) rfl ?_);refine goesL_ (some 26) rfl rfl Tryz.func134 (by kernel_rfl) rfl #[.string x1_1,.func (.func 133) #[] #[]] rfl (by first|rfl|(simp only [List.map_toArray,List.map_cons,List.map_nil,List.length_drop,List.length_take];rfl)|simp only [List.map_toArray,List.map_cons,List.map_nil]) ?_;(with_reducible refine (version_part_133.calls kj2 x1_1 0 t207 t208 _ (by first|exact hG|exact GL.below hG (by repeat (with_reducible first|exact HB.out|apply qab|apply qaa|apply qac)))  A7.out).mono ?_);rintro e w' ⟨rfl,⟨nd,rfl⟩⟩;refine ⟨_,rfl,?_⟩)|((with_reducible refine qam (f := 134) rfl ?_);refine goesL_ (some 31) rfl rfl Tryz.func134 (by kernel_rfl) rfl #[.string t206,.func (.func 130) #[] #[]] rfl (by first|rfl|(simp only [List.map_toArray,List.map_cons,List.map_nil,List.length_drop,List.length_take];rfl)|simp only [List.map_toArray,List.map_cons,List.map_nil]) ?_;(with_reducible refine (version_part_130.calls kj2 t206 0 t209 t210 _ (by first|exact hG|exact GL.below hG (by repeat (with_reducible first|exact HB.out|apply qab|apply qaa|apply qac)))  A8.out).mono ?_);rintro e w' ⟨rfl,⟨nd,rfl⟩⟩;refine ⟨_,rfl,?_⟩)|((with_reducible refine qam (f := 134) rfl ?_);refine goesL_ (some 36) rfl rfl Tryz.func134 (by kernel_rfl) rfl #[.string t208,.func (.func 130) #[] #[]] rfl (by first|rfl|(simp only [List.map_toArray,List.map_cons,List.map_nil,List.length_drop,List.length_take];rfl)|simp only [List.map_toArray,List.map_cons,List.map_nil]) ?_;(with_reducible refine (version_part_130.calls kj2 t208 0 t211 t212 _ (by first|exact hG|exact GL.below hG (by repeat (with_reducible first|exact HB.out|apply qab|apply qaa|apply qac)))  A9.out).mono ?_);rintro e w' ⟨rfl,⟨nd,rfl⟩⟩;refine ⟨_,rfl,?_⟩)|((with_reducible refine qam (f := 135) rfl ?_);refine goesL_ (some 41) rfl rfl Tryz.func135 (by kernel_rfl) rfl #[.string t205,.string t207] rfl (by first|rfl|(simp only [List.map_toArray,List.map_cons,List.map_nil,List.length_drop,List.length_take];rfl)|simp only [List.map_toArray,List.map_cons,List.map_nil]) ?_;(with_reducible refine (version_words.calls kj2 t205 t207 t213 _ (by first|exact hG|exact GL.below hG (by repeat (with_reducible first|exact HB.out|apply qab|apply qaa|apply qac)))  A10.out).mono ?_);rintro e w19 ⟨rfl,hb⟩;refine ⟨_,rfl,?_⟩;have n0_ := Aside0.mk (qan (by repeat (with_reducible first|exact HB.out|apply qab|apply qaa|apply qac)) hb);clear HB;have HB := n0_;clear n0_;(try clear hb);(try clear hb2);(try clear hk);(try clear hi))|((with_reducible refine qam (f := 136) rfl ?_);refine goesL_ (some 44) rfl rfl Tryz.func136 (by kernel_rfl) rfl #[.string t209,.string t211] rfl (by first|rfl|(simp only [List.map_toArray,List.map_cons,List.map_nil,List.length_drop,List.length_take];rfl)|simp only [List.map_toArray,List.map_cons,List.map_nil]) ?_;(with_reducible refine (version_numbers.calls kj2 t209 t211 t214 _ (by first|exact hG|exact GL.below hG (by repeat (with_reducible first|exact HB.out|apply qab|apply qaa|apply qac)))  A11.out).mono ?_);rintro e w20 ⟨rfl,hb⟩;refine ⟨_,rfl,?_⟩;have n0_ := Aside0.mk (qan (by repeat (with_reducible first|exact HB.out|apply qab|apply qaa|apply qac)) hb);clear HB;have HB := n0_;clear n0_;(try clear hb);(try clear hb2);(try clear hk);(try clear hi))|((with_reducible refine gate_dst (N := 45) rfl ?_);refine Kd.R_lit (Kd.int .i64) _ 3 ?hg (N := 45) ?hd (xs := ([t213,t214] : List Int)) (inner := [.int .i64 t213,.int .i64 t214]) (ok := fun _ => True) (okp := fun _ => True) ?hr ?hp (fun _ hk => hk) trivial (Below.refl _ _) (Nat.le_refl _) (by simp) ?_;(case hd => rfl);(case hg => rfl);(case hr => first|(go_simp;done)|(go_simp;rfl));(case hp => exact (Reps.one (show Kd.M (Kd.int .i64) _ _ _ t213 [.int .i64 t213] from rfl) (Reps.one (show Kd.M (Kd.int .i64) _ _ _ t214 [.int .i64 t214] from rfl) (Reps.none _ _))));intro v216 w21 ho22 hb hg_ hnew_;clear hg_ hnew_;(first|rw [← Ny215.out] at ho22|(simp only [Int.reduceToNat] at ho22;rw [← Ny215.out] at ho22));have n0_ := Aside0.mk (Kd.R_lower ho22 (qao (by repeat (with_reducible first|exact HB.out|apply qab|apply qaa|apply qac))));have n1_ := Aside0.mk (qan (by repeat (with_reducible first|exact HB.out|apply qab|apply qaa|apply qac)) hb);clear HB;have HO217 := n0_;have HB := n1_;clear n0_ n1_;clear hb ho22;obtain ⟨Ao23,co23,eo23⟩ := Kd.R_slice HO217.out;subst eo23)|((with_reducible refine qam (f := 118) rfl ?_);refine goesL_ (some 46) rfl rfl Tryz.func118 (by kernel_rfl) rfl #[.slice Ao23 y215.length co23] rfl (by first|rfl|(simp only [List.map_toArray,List.map_cons,List.map_nil,List.length_drop,List.length_take];rfl)|simp only [List.map_toArray,List.map_cons,List.map_nil]) ?_;(with_reducible refine (cmp_Or_int.calls kj2 _ _ y215 t218 _ (by first|exact hG|exact GL.below hG (by repeat (with_reducible first|exact HB.out|apply qab|apply qaa|apply qac)))  ?side1 ?side2 A12.out).mono ?_);(case side1 => repeat (first|exact (Kd.R_reads' HO217.out).2.2|(with_reducible refine Kd.C_alloc ?_ _)|(with_reducible refine Kd.C_drewN ?_ _)|(with_reducible refine Kd.C_drew ?_)));(case side2 => exact (Kd.R_reads' HO217.out).2.1);rintro e w' ⟨rfl,⟨nd,rfl⟩⟩;refine ⟨_,rfl,?_⟩))
       go_ret
       exact ⟨by first|rfl|(simp [qak,qal]<;>rfl)|(simp [*,qak,qal]<;>rfl),by repeat (with_reducible first|exact HB.out|apply qab|apply qaa|apply qac)⟩
     ·replace c5 := Bool.eq_false_iff.mpr c5
      subst c5
      have H1 : (some 0) = some r := by rw [if_neg (show ¬ (false = true) by decide)] at H;exact H
      clear H
      have H := H1
      clear H1
      obtain rfl := Option.some.inj H
      go_wp2
      go_ret
      exact ⟨by first|rfl|(simp [qak,qal]<;>rfl)|(simp [*,qak,qal]<;>rfl),by repeat (with_reducible first|exact HB.out|apply qab|apply qaa|apply qac)⟩
end Go.Proofs.YtjbbgekkombpnaaGreatDoor.PA
