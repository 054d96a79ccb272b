
import Derived.Test.YtjbbgekkombpnaaGreatDoorPAx0
import Derived.Test.YtjbbgekkombpnaaGreatDoorPAx6
import Derived.Test.YtjbbgekkombpnaaGreatDoorPAx11
import Derived.Test.YtjbbgekkombpnaaGreatDoorPAx18
import Derived.Test.YtjbbgekkombpnaaGreatDoorPAx19
import Derived.Test.YtjbbgekkombpnaaGreatDoorPAx20
noncomputable section
namespace Go.Proofs.YtjbbgekkombpnaaGreatDoor.PA
open Go.RowKit Go.Proofs.YtjbbgekkombpnaaGreatDoorW.PrintWords Go.Proofs.YtjbbgekkombpnaaGreatDoorW.PrintLast Go.Proofs.YtjbbgekkombpnaaGreatDoorW.PrintMore
attribute [local go_sem] max2_int min2_int max_two min_two max_three min_three max_four min_four
set_option maxHeartbeats 8000000
set_option maxRecDepth 100000
set_option linter.unusedVariables false
set_option linter.unusedSimpArgs false
mutual
def keelsonlaw4_DependsBlanks.j0 : Nat → List (S39) → Int → Bool → Bool → Option (Bool)
 | 0,_,_,_,_ => none
 | k + 1,x0,x1,x5,x31 => if x31 = true then (some x5) else (if x1 < 0 then (keelsonlaw4_DependsBlanks.j1 k x0 (wrap64 (-(wrap64 (x1 + 1))))) else (keelsonlaw4_DependsBlanks.j1 k x0 x1))
def keelsonlaw4_DependsBlanks.j1 : Nat → List (S39) → Int → Option (Bool)
 | 0,_,_ => none
 | k + 1,x0,x1 => if 0 ≤ (Int.tmod x1 9) then (if (Int.tmod x1 9) ≤ 8 then (keelsonlaw4_DependsBlanks.l0 k x0 ((⟨#[32,32,32,32,32,32,32,32]⟩ : ByteArray).extract 0 ((Int.tmod x1 9) : Int).toNat) (⟨#[]⟩ : ByteArray) 0) else (none)) else (none)
def keelsonlaw4_DependsBlanks.l0 : Nat → List (S39) → ByteArray → ByteArray → Int → Option (Bool)
 | 0,_,_,_,_ => none
 | k + 1,x0,x7,x8,x9 => if x9 < (x0.length : Int) then (if 0 ≤ x9 then ((keelsonref3_Right.f k ((rd_T39 x0 x9).f0) ((rd_T39 x0 x9).f1) ((rd_T39 x0 x9).f2)).bind fun t467 => (if t467 = true then (if x9 > 0 then (if x8.size + 1 ≤ 9223372036854775807 then (if (x8 ++ (⟨#[44]⟩ : ByteArray)).size + x7.size ≤ 9223372036854775807 then ((keelsonref3_Print.f k ((rd_T39 x0 x9).f0) ((rd_T39 x0 x9).f1) ((rd_T39 x0 x9).f2)).bind fun t469 => (if ((x8 ++ (⟨#[44]⟩ : ByteArray)) ++ x7).size + t469.size ≤ 9223372036854775807 then (if (((x8 ++ (⟨#[44]⟩ : ByteArray)) ++ x7) ++ t469).size + x7.size ≤ 9223372036854775807 then (keelsonlaw4_DependsBlanks.l0 k x0 x7 ((((x8 ++ (⟨#[44]⟩ : ByteArray)) ++ x7) ++ t469) ++ x7) (wrap64 (x9 + 1))) else (none)) else (none))) else (none)) else (none)) else (if x8.size + x7.size ≤ 9223372036854775807 then ((keelsonref3_Print.f k ((rd_T39 x0 x9).f0) ((rd_T39 x0 x9).f1) ((rd_T39 x0 x9).f2)).bind fun t471 => (if (x8 ++ x7).size + t471.size ≤ 9223372036854775807 then (if ((x8 ++ x7) ++ t471).size + x7.size ≤ 9223372036854775807 then (keelsonlaw4_DependsBlanks.l0 k x0 x7 (((x8 ++ x7) ++ t471) ++ x7) (wrap64 (x9 + 1))) else (none)) else (none))) else (none))) else (some true))) else (none)) else ((depends_Atoms.f k x8).bind fun bt461 => (if bt461.2 = 0 then ((keelsonlaw4_sameAtoms.f k bt461.1 x0).bind fun t465 => (some t465)) else (some false)))
end
def keelsonlaw4_DependsBlanks.f (k : Nat) (l0 : List (S39)) (a1 : Int) : Option (Bool) := (keelsonlaw4_shown.f k).bind fun t459 => ((keelsonlaw4_light.f k l0).bind fun t460 => (if t459 = true then (if t460 = true then (if (l0.length : Int) > 12 then (keelsonlaw4_DependsBlanks.j0 k l0 a1 t459 true) else (keelsonlaw4_DependsBlanks.j0 k l0 a1 t459 ((l0.length : Int) == 0))) else (keelsonlaw4_DependsBlanks.j0 k l0 a1 t459 true)) else (keelsonlaw4_DependsBlanks.j0 k l0 a1 t459 true)))
theorem keelsonlaw4_DependsBlanks.mono_l : ∀ k,(∀ y0 y1 y2 y3,LeO (keelsonlaw4_DependsBlanks.j0 k y0 y1 y2 y3) (keelsonlaw4_DependsBlanks.j0 (k + 1) y0 y1 y2 y3)) ∧ (∀ y0 y1,LeO (keelsonlaw4_DependsBlanks.j1 k y0 y1) (keelsonlaw4_DependsBlanks.j1 (k + 1) y0 y1)) ∧ (∀ y0 y1 y2 y3,LeO (keelsonlaw4_DependsBlanks.l0 k y0 y1 y2 y3) (keelsonlaw4_DependsBlanks.l0 (k + 1) y0 y1 y2 y3))
 | 0 => ⟨fun _ _ _ _ r h => by simp [keelsonlaw4_DependsBlanks.j0] at h,fun _ _ r h => by simp [keelsonlaw4_DependsBlanks.j1] at h,fun _ _ _ _ r h => by simp [keelsonlaw4_DependsBlanks.l0] at h⟩
 | k + 1 => by
  obtain ⟨ih0,ih1,ih2⟩ := keelsonlaw4_DependsBlanks.mono_l k
  refine ⟨?_,?_,?_⟩
  ·intro y0 y1 y2 y3
   unfold keelsonlaw4_DependsBlanks.j0
   repeat' first
   | (with_reducible exact ih0 _ _ _ _)
   | (with_reducible exact ih1 _ _)
   | (with_reducible exact ih2 _ _ _ _)
   | (with_reducible exact depends_Atoms.mono _ _)
   | (with_reducible exact keelsonlaw4_light.mono _ _)
   | (with_reducible exact keelsonlaw4_sameAtoms.mono _ _ _)
   | (with_reducible exact keelsonlaw4_shown.mono _)
   | (with_reducible exact keelsonref3_Print.mono _ _ _ _)
   | (with_reducible exact keelsonref3_Right.mono _ _ _ _)
   | (with_reducible exact LeO.refl _)
   | (with_reducible exact LeO.none _)
   | (with_reducible refine LeO.ite ?_ ?_)
   | (with_reducible refine LeO.bind ?_ (fun _ => ?_))
   | exact ih0 _ _ _ _
   | exact ih1 _ _
   | exact ih2 _ _ _ _
   | exact depends_Atoms.mono _ _
   | exact keelsonlaw4_light.mono _ _
   | exact keelsonlaw4_sameAtoms.mono _ _ _
   | exact keelsonlaw4_shown.mono _
   | exact keelsonref3_Print.mono _ _ _ _
   | exact keelsonref3_Right.mono _ _ _ _
   | exact LeO.none _
   | refine LeO.ite ?_ ?_
   | refine LeO.bind ?_ (fun _ => ?_)
  ·intro y0 y1
   unfold keelsonlaw4_DependsBlanks.j1
   repeat' first
   | (with_reducible exact ih0 _ _ _ _)
   | (with_reducible exact ih1 _ _)
   | (with_reducible exact ih2 _ _ _ _)
   | (with_reducible exact depends_Atoms.mono _ _)
   | (with_reducible exact keelsonlaw4_light.mono _ _)
   | (with_reducible exact keelsonlaw4_sameAtoms.mono _ _ _)
   | (with_reducible exact keelsonlaw4_shown.mono _)
   | (with_reducible exact keelsonref3_Print.mono _ _ _ _)
   | (with_reducible exact keelsonref3_Right.mono _ _ _ _)
   | (with_reducible exact LeO.refl _)
   | (with_reducible exact LeO.none _)
   | (with_reducible refine LeO.ite ?_ ?_)
   | (with_reducible refine LeO.bind ?_ (fun _ => ?_))
   | exact ih0 _ _ _ _
   | exact ih1 _ _
   | exact ih2 _ _ _ _
   | exact depends_Atoms.mono _ _
   | exact keelsonlaw4_light.mono _ _
   | exact keelsonlaw4_sameAtoms.mono _ _ _
   | exact keelsonlaw4_shown.mono _
   | exact keelsonref3_Print.mono _ _ _ _
   | exact keelsonref3_Right.mono _ _ _ _
   | exact LeO.none _
   | refine LeO.ite ?_ ?_
   | refine LeO.bind ?_ (fun _ => ?_)
  ·intro y0 y1 y2 y3
   unfold keelsonlaw4_DependsBlanks.l0
   repeat' first
   | (with_reducible exact ih0 _ _ _ _)
   | (with_reducible exact ih1 _ _)
   | (with_reducible exact ih2 _ _ _ _)
   | (with_reducible exact depends_Atoms.mono _ _)
   | (with_reducible exact keelsonlaw4_light.mono _ _)
   | (with_reducible exact keelsonlaw4_sameAtoms.mono _ _ _)
   | (with_reducible exact keelsonlaw4_shown.mono _)
   | (with_reducible exact keelsonref3_Print.mono _ _ _ _)
   | (with_reducible exact keelsonref3_Right.mono _ _ _ _)
   | (with_reducible exact LeO.refl _)
   | (with_reducible exact LeO.none _)
   | (with_reducible refine LeO.ite ?_ ?_)
   | (with_reducible refine LeO.bind ?_ (fun _ => ?_))
   | exact ih0 _ _ _ _
   | exact ih1 _ _
   | exact ih2 _ _ _ _
   | exact depends_Atoms.mono _ _
   | exact keelsonlaw4_light.mono _ _
   | exact keelsonlaw4_sameAtoms.mono _ _ _
   | exact keelsonlaw4_shown.mono _
   | exact keelsonref3_Print.mono _ _ _ _
   | exact keelsonref3_Right.mono _ _ _ _
   | exact LeO.none _
   | refine LeO.ite ?_ ?_
   | refine LeO.bind ?_ (fun _ => ?_)
theorem keelsonlaw4_DependsBlanks.mono : ∀ a0 a1 k,LeO (keelsonlaw4_DependsBlanks.f k a0 a1) (keelsonlaw4_DependsBlanks.f (k + 1) a0 a1) := by
 intro a0 a1 k
 obtain ⟨ih0,ih1,ih2⟩ := keelsonlaw4_DependsBlanks.mono_l k
 unfold keelsonlaw4_DependsBlanks.f
 repeat' first
   | (with_reducible exact ih0 _ _ _ _)
   | (with_reducible exact ih1 _ _)
   | (with_reducible exact ih2 _ _ _ _)
   | (with_reducible exact depends_Atoms.mono _ _)
   | (with_reducible exact keelsonlaw4_light.mono _ _)
   | (with_reducible exact keelsonlaw4_sameAtoms.mono _ _ _)
   | (with_reducible exact keelsonlaw4_shown.mono _)
   | (with_reducible exact keelsonref3_Print.mono _ _ _ _)
   | (with_reducible exact keelsonref3_Right.mono _ _ _ _)
   | (with_reducible exact LeO.refl _)
   | (with_reducible exact LeO.none _)
   | (with_reducible refine LeO.ite ?_ ?_)
   | (with_reducible refine LeO.bind ?_ (fun _ => ?_))
   | exact ih0 _ _ _ _
   | exact ih1 _ _
   | exact ih2 _ _ _ _
   | exact depends_Atoms.mono _ _
   | exact keelsonlaw4_light.mono _ _
   | exact keelsonlaw4_sameAtoms.mono _ _ _
   | exact keelsonlaw4_shown.mono _
   | exact keelsonref3_Print.mono _ _ _ _
   | exact keelsonref3_Right.mono _ _ _ _
   | exact LeO.none _
   | refine LeO.ite ?_ ?_
   | refine LeO.bind ?_ (fun _ => ?_)
theorem keelsonlaw4_DependsBlanks.calls (k : Nat) (A0 : Option Addr) (c0 : Nat) (l0 : List (S39)) (a1 : Int) (r : Bool) (w : World) (hG : GL w) (hr0 : Kd.C k39 w A0 l0.length l0) (hc0 : l0.length ≤ c0) (h : keelsonlaw4_DependsBlanks.f k l0 a1 = some r) :
  Calls Tryz.prog 5 #[.slice A0 l0.length c0,.int .i64 a1] w fun e w' => e = .returned (.bool r) ∧ Below w.heap.size w w' := by
 have hu39 := Tryz.underlying39
 have HR0 := Aside0.mk hr0
 have HC0 := Aside0.mk hc0
 clear hr0 hc0
 have HB := Aside0.mk (Below.refl w.heap.size w)
 have H : ((keelsonlaw4_shown.f k).bind fun t459 => ((keelsonlaw4_light.f k l0).bind fun t460 => (if t459 = true then (if t460 = true then (if (l0.length : Int) > 12 then (keelsonlaw4_DependsBlanks.j0 k l0 a1 t459 true) else (keelsonlaw4_DependsBlanks.j0 k l0 a1 t459 ((l0.length : Int) == 0))) else (keelsonlaw4_DependsBlanks.j0 k l0 a1 t459 true)) else (keelsonlaw4_DependsBlanks.j0 k l0 a1 t459 true)))) = some r := h
 clear h
 replace H := Option.bind_eq_some_iff.mp H
 obtain ⟨t459,A30,H⟩ := H
 replace H : ((keelsonlaw4_light.f k l0).bind fun t460 => (if t459 = true then (if t460 = true then (if (l0.length : Int) > 12 then (keelsonlaw4_DependsBlanks.j0 k l0 a1 t459 true) else (keelsonlaw4_DependsBlanks.j0 k l0 a1 t459 ((l0.length : Int) == 0))) else (keelsonlaw4_DependsBlanks.j0 k l0 a1 t459 true)) else (keelsonlaw4_DependsBlanks.j0 k l0 a1 t459 true))) = some r := H
 have A3 := Aside0.mk A30
 clear A30
 replace H := Option.bind_eq_some_iff.mp H
 obtain ⟨t460,A40,H⟩ := H
 replace H : (if t459 = true then (if t460 = true then (if (l0.length : Int) > 12 then (keelsonlaw4_DependsBlanks.j0 k l0 a1 t459 true) else (keelsonlaw4_DependsBlanks.j0 k l0 a1 t459 ((l0.length : Int) == 0))) else (keelsonlaw4_DependsBlanks.j0 k l0 a1 t459 true)) else (keelsonlaw4_DependsBlanks.j0 k l0 a1 t459 true)) = some r := H
 have A4 := Aside0.mk A40
 clear A40
 have HC5 := Aside0.mk H
 clear H
 go_enter Tryz.func5,Tryz.ntmps5
 go_upto_region 3 with (first|((with_reducible refine qam (f := 9) rfl ?_);refine goesL_ (some 13) rfl rfl Tryz.func9 (by kernel_rfl) rfl #[] rfl (by first|rfl|(simp only [List.map_toArray,List.map_cons,List.map_nil,List.length_drop,List.length_take];rfl)|simp only [List.map_toArray,List.map_cons,List.map_nil]) ?_;(with_reducible refine (keelsonlaw4_shown.calls k  t459 _ (by first|exact hG|exact GL.below hG (by repeat (with_reducible first|exact HB.out|apply qab|apply qaa|apply qac)))  A3.out).mono ?_);rintro e w6 ⟨rfl,hb⟩;refine ⟨_,rfl,?_⟩;have n0_ := Aside0.mk (qan (by repeat (with_reducible first|exact HB.out|apply qab|apply qaa|apply qac)) hb);clear HB;have HB := n0_;clear n0_;(try clear hb);(try clear hb2);(try clear hk);(try clear hi))|((with_reducible refine qam (f := 19) rfl ?_);refine goesL_ (some 15) rfl rfl Tryz.func19 (by kernel_rfl) rfl #[.slice A0 l0.length c0] rfl (by first|rfl|(simp only [List.map_toArray,List.map_cons,List.map_nil,List.length_drop,List.length_take];rfl)|simp only [List.map_toArray,List.map_cons,List.map_nil]) ?_;(with_reducible refine (keelsonlaw4_light.calls k _ _ l0 t460 _ (by first|exact hG|exact GL.below hG (by repeat (with_reducible first|exact HB.out|apply qab|apply qaa|apply qac)))  ?side1 ?side2 A4.out).mono ?_);(case side1 => repeat (first|exact (Kd.C_below HR0.out HB.out)|(with_reducible refine Kd.C_alloc ?_ _)|(with_reducible refine Kd.C_drewN ?_ _)|(with_reducible refine Kd.C_drew ?_)));(case side2 => exact HC0.out);rintro e w' ⟨rfl,⟨nd,rfl⟩⟩;refine ⟨_,rfl,?_⟩))
 (try simp only [Act.put,List.setIfInBounds_toArray,List.set_cons_zero,List.set_cons_succ])
 go_cut [31] (fun v31 wc => ∃ (kq : Nat) (x31_4 : Bool),v31 = .bool x31_4 ∧ Aside0 (keelsonlaw4_DependsBlanks.j0 kq l0 a1 t459 x31_4 = some r) ∧ Aside0 (kq ≤ k) ∧ Aside0 (Below w.heap.size w wc))
 case first =>
  have H := HC5.out
  clear HC5
  by_cases c7 : t459 = true
  ·subst c7
   have H1 : (if t460 = true then (if (l0.length : Int) > 12 then (keelsonlaw4_DependsBlanks.j0 k l0 a1 true true) else (keelsonlaw4_DependsBlanks.j0 k l0 a1 true ((l0.length : Int) == 0))) else (keelsonlaw4_DependsBlanks.j0 k l0 a1 true true)) = some r := by rw [if_pos rfl] at H;exact H
   clear H
   have H := H1
   clear H1
   by_cases c8 : t460 = true
   ·subst c8
    have H1 : (if (l0.length : Int) > 12 then (keelsonlaw4_DependsBlanks.j0 k l0 a1 true true) else (keelsonlaw4_DependsBlanks.j0 k l0 a1 true ((l0.length : Int) == 0))) = some r := by rw [if_pos rfl] at H;exact H
    clear H
    have H := H1
    clear H1
    by_cases c9 : (l0.length : Int) > 12
    ·rw [if_pos c9] at H
     have c9b0 : decide (12 < (l0.length : Int)) = true := decide_eq_true c9
     have c9b1 : decide (12 < l0.length) = true := decide_eq_true (by omega)
     clear c9
     (first|rw [c9b0]|(simp only [i64_w,i32_w];rw [c9b0]) | skip)
     have H' := Aside0.mk H
     clear H
     go_wp2
     go_meet
     case rel => exact ⟨_,(true),(by first|rfl|(simp;done)|(simp [*];done)|(simp [qaj];done)),H',⟨by first|omega|exact Nat.le_refl _⟩,⟨by repeat (with_reducible first|exact HB.out|apply qab|apply qaa|apply qac)⟩⟩
    ·rw [if_neg c9] at H
     have c9b0 : decide (12 < (l0.length : Int)) = false := decide_eq_false c9
     have c9b1 : decide (12 < l0.length) = false := decide_eq_false (by omega)
     clear c9
     (first|rw [c9b0]|(simp only [i64_w,i32_w];rw [c9b0]) | skip)
     have H' := Aside0.mk H
     clear H
     go_wp2
     go_meet
     case rel => exact ⟨_,(((l0.length : Int) == 0)),(by first|rfl|(simp;done)|(simp [*];done)|(simp [qaj];done)),H',⟨by first|omega|exact Nat.le_refl _⟩,⟨by repeat (with_reducible first|exact HB.out|apply qab|apply qaa|apply qac)⟩⟩
   ·replace c8 := Bool.eq_false_iff.mpr c8
    subst c8
    have H1 : (keelsonlaw4_DependsBlanks.j0 k l0 a1 true true) = some r := by rw [if_neg (show ¬ (false = true) by decide)] at H;exact H
    clear H
    have H := H1
    clear H1
    have H' := Aside0.mk H
    clear H
    go_wp2
    go_meet
    case rel => exact ⟨_,(true),(by first|rfl|(simp;done)|(simp [*];done)|(simp [qaj];done)),H',⟨by first|omega|exact Nat.le_refl _⟩,⟨by repeat (with_reducible first|exact HB.out|apply qab|apply qaa|apply qac)⟩⟩
  ·replace c7 := Bool.eq_false_iff.mpr c7
   subst c7
   have H1 : (keelsonlaw4_DependsBlanks.j0 k l0 a1 false true) = some r := by rw [if_neg (show ¬ (false = true) by decide)] at H;exact H
   clear H
   have H := H1
   clear H1
   have H' := Aside0.mk H
   clear H
   go_wp2
   go_meet
   case rel => exact ⟨_,(true),(by first|rfl|(simp;done)|(simp [*];done)|(simp [qaj];done)),H',⟨by first|omega|exact Nat.le_refl _⟩,⟨by repeat (with_reducible first|exact HB.out|apply qab|apply qaa|apply qac)⟩⟩
 case rest =>
  clear HC5
  try clear c1
  try clear p2
  try clear c5
  try clear c7
  try clear c8
  try clear c9
  try clear c9b0
  try clear c9b1
  obtain ⟨kq,x31_4,rfl,HA,HJ4,HB⟩ := hcut
  cases kq with
  | zero => exact absurd HA.out (by simp [keelsonlaw4_DependsBlanks.j0])
  | succ kj4 =>
   have H := HA.out
   clear HA
   simp only [keelsonlaw4_DependsBlanks.j0] at H
   by_cases c10 : x31_4 = true
   ·subst c10
    have H1 : (some t459) = some r := by rw [if_pos rfl] at H;exact H
    clear H
    have H := H1
    clear H1
    obtain rfl := Option.some.inj H
    go_wp2
    go_ret
    exact ⟨by first|rfl|(simp [qak,qal]<;>rfl)|(simp [*,qak,qal]<;>rfl),by repeat (with_reducible first|exact HB.out|apply qab|apply qaa|apply qac)⟩
   ·replace c10 := Bool.eq_false_iff.mpr c10
    subst c10
    have H1 : (if a1 < 0 then (keelsonlaw4_DependsBlanks.j1 kj4 l0 (wrap64 (-(wrap64 (a1 + 1))))) else (keelsonlaw4_DependsBlanks.j1 kj4 l0 a1)) = some r := by rw [if_neg (show ¬ (false = true) by decide)] at H;exact H
    clear H
    have H := H1
    clear H1
    have HC11 := Aside0.mk H
    clear H
    go_upto_if 34 with (fail)
    go_cut [1] (fun v1 wc => ∃ (kq : Nat) (x1_10 : Int),v1 = .int .i64 x1_10 ∧ Aside0 (keelsonlaw4_DependsBlanks.j1 kq l0 x1_10 = some r) ∧ Aside0 (kq ≤ kj4) ∧ Aside0 (Below w.heap.size w wc))
    case first =>
     have H := HC11.out
     clear HC11
     by_cases c12 : a1 < 0
     ·rw [if_pos c12] at H
      have c12b0 : decide (a1 < 0) = true := decide_eq_true c12
      clear c12
      (first|rw [c12b0]|(simp only [i64_w,i32_w];rw [c12b0]) | skip)
      have H' := Aside0.mk H
      clear H
      go_wp2
      go_meet
      case rel => exact ⟨_,(wrap64 (-(wrap64 (a1 + 1)))),(by first|rfl|(simp;done)|(simp [*];done)|(simp [qaj];done)),H',⟨by have := HJ4.out;first|omega|exact Nat.le_refl _⟩,⟨by repeat (with_reducible first|exact HB.out|apply qab|apply qaa|apply qac)⟩⟩
     ·rw [if_neg c12] at H
      have c12b0 : decide (a1 < 0) = false := decide_eq_false c12
      clear c12
      (first|rw [c12b0]|(simp only [i64_w,i32_w];rw [c12b0]) | skip)
      have H' := Aside0.mk H
      clear H
      go_wp2
      go_meet
      case rel => exact ⟨_,(a1),(by first|rfl|(simp;done)|(simp [*];done)|(simp [qaj];done)),H',⟨by have := HJ4.out;first|omega|exact Nat.le_refl _⟩,⟨by repeat (with_reducible first|exact HB.out|apply qab|apply qaa|apply qac)⟩⟩
    case rest =>
     clear HC11
     try clear c1
     try clear p2
     try clear c5
     try clear p6
     try clear c7
     try clear c8
     try clear c9
     try clear c9b0
     try clear c9b1
     try clear c10
     try clear c12
     try clear c12b0
     try clear p2
     obtain ⟨kq,x1_10,rfl,HA,HJ10,HB⟩ := hcut
     cases kq with
     | zero => exact absurd HA.out (by simp [keelsonlaw4_DependsBlanks.j1])
     | succ kj10 =>
      have H := HA.out
      clear HA
      simp only [keelsonlaw4_DependsBlanks.j1] at H
      obtain ⟨ji13,hji13⟩ : ∃ j_ : Int,(Int.tmod x1_10 9) = j_ := ⟨_,rfl⟩
      replace H : (if 0 ≤ (ji13) then (if (ji13) ≤ 8 then (keelsonlaw4_DependsBlanks.l0 kj10 l0 ((⟨#[32,32,32,32,32,32,32,32]⟩ : ByteArray).extract 0 ((ji13) : Int).toNat) (⟨#[]⟩ : ByteArray) 0) else (none)) else (none)) = some r := by first|(rw [hji13] at H;exact H)|(simp only [hji13] at H ⊢;exact H)
      by_cases c14 : 0 ≤ (ji13)
      ·rw [if_pos c14] at H
       have c14b0 := eq_true c14
       have c14b1 : decide (0 ≤ (ji13)) = true := decide_eq_true c14
       clear c14
       by_cases c15 : (ji13) ≤ 8
       ·rw [if_pos c15] at H
        have c15b0 := eq_true c15
        have c15b1 : decide ((ji13) ≤ 8) = true := decide_eq_true c15
        clear c15
        obtain ⟨ji16,hji16⟩ : ∃ j_ : ByteArray,((⟨#[32,32,32,32,32,32,32,32]⟩ : ByteArray).extract 0 ((ji13) : Int).toNat) = j_ := ⟨_,rfl⟩
        replace H : (keelsonlaw4_DependsBlanks.l0 kj10 l0 ji16 (⟨#[]⟩ : ByteArray) 0) = some r := by first|(rw [hji16] at H;exact H)|(simp only [hji16] at H ⊢;exact H)
        have H' := Aside0.mk H
        clear H
        go_wp2
        go_loopg [8,9] kj10 (fun kq v8 v9 w' => ∃ (x8_3 : ByteArray) (x9_3 : Int),v8 = .string x8_3 ∧ v9 = .int .i64 x9_3 ∧ Aside0 (keelsonlaw4_DependsBlanks.l0 kq l0 ji16 x8_3 x9_3 = some r) ∧ Aside0 (kq ≤ kj10) ∧ Aside0 (Below w.heap.size w w'))
        case atStart => exact ⟨((⟨#[]⟩ : ByteArray)),(0),(by first|rfl|(simp;done)|(simp [*];done)|(simp [qaj];done)),(by first|rfl|(simp;done)|(simp [*];done)|(simp [qaj];done)),H',⟨Nat.le_refl _⟩,⟨by repeat (with_reducible first|exact HB.out|apply qab|apply qaa|apply qac)⟩⟩
        case round =>
         clear H'
         try clear c1
         try clear p2
         try clear c5
         try clear p6
         try clear c7
         try clear c8
         try clear c9
         try clear c9b0
         try clear c9b1
         try clear c10
         try clear c12
         try clear c12b0
         try clear c14
         try clear c14b0
         try clear c14b1
         try clear c15
         try clear c15b0
         try clear c15b1
         try clear p2
         try clear p6
         obtain ⟨x8_3,x9_3,rfl,rfl,HA,HK3,HB⟩ := hrel
         cases gk with
         | zero => exact absurd HA.out (by simp [keelsonlaw4_DependsBlanks.l0])
         | succ k3 =>
          have H := HA.out
          clear HA
          simp only [keelsonlaw4_DependsBlanks.l0] at H
          by_cases c17 : x9_3 < (l0.length : Int)
          ·rw [if_pos c17] at H
           have c17b0 : decide (x9_3 < (l0.length : Int)) = true := decide_eq_true c17
           clear c17
           by_cases c18 : 0 ≤ x9_3
           ·rw [if_pos c18] at H
            have c18b0 : decide (0 ≤ x9_3) = true := decide_eq_true c18
            clear c18
            replace H := Option.bind_eq_some_iff.mp H
            obtain ⟨t467,A190,H⟩ := H
            replace H : (if t467 = true then (if x9_3 > 0 then (if x8_3.size + 1 ≤ 9223372036854775807 then (if (x8_3 ++ (⟨#[44]⟩ : ByteArray)).size + ji16.size ≤ 9223372036854775807 then ((keelsonref3_Print.f k3 ((rd_T39 l0 x9_3).f0) ((rd_T39 l0 x9_3).f1) ((rd_T39 l0 x9_3).f2)).bind fun t469 => (if ((x8_3 ++ (⟨#[44]⟩ : ByteArray)) ++ ji16).size + t469.size ≤ 9223372036854775807 then (if (((x8_3 ++ (⟨#[44]⟩ : ByteArray)) ++ ji16) ++ t469).size + ji16.size ≤ 9223372036854775807 then (keelsonlaw4_DependsBlanks.l0 k3 l0 ji16 ((((x8_3 ++ (⟨#[44]⟩ : ByteArray)) ++ ji16) ++ t469) ++ ji16) (wrap64 (x9_3 + 1))) else (none)) else (none))) else (none)) else (none)) else (if x8_3.size + ji16.size ≤ 9223372036854775807 then ((keelsonref3_Print.f k3 ((rd_T39 l0 x9_3).f0) ((rd_T39 l0 x9_3).f1) ((rd_T39 l0 x9_3).f2)).bind fun t471 => (if (x8_3 ++ ji16).size + t471.size ≤ 9223372036854775807 then (if ((x8_3 ++ ji16) ++ t471).size + ji16.size ≤ 9223372036854775807 then (keelsonlaw4_DependsBlanks.l0 k3 l0 ji16 (((x8_3 ++ ji16) ++ t471) ++ ji16) (wrap64 (x9_3 + 1))) else (none)) else (none))) else (none))) else (some true)) = some r := H
            have A19 := Aside0.mk A190
            clear A190
            by_cases c20 : t467 = true
            ·subst c20
             have H1 : (if x9_3 > 0 then (if x8_3.size + 1 ≤ 9223372036854775807 then (if (x8_3 ++ (⟨#[44]⟩ : ByteArray)).size + ji16.size ≤ 9223372036854775807 then ((keelsonref3_Print.f k3 ((rd_T39 l0 x9_3).f0) ((rd_T39 l0 x9_3).f1) ((rd_T39 l0 x9_3).f2)).bind fun t469 => (if ((x8_3 ++ (⟨#[44]⟩ : ByteArray)) ++ ji16).size + t469.size ≤ 9223372036854775807 then (if (((x8_3 ++ (⟨#[44]⟩ : ByteArray)) ++ ji16) ++ t469).size + ji16.size ≤ 9223372036854775807 then (keelsonlaw4_DependsBlanks.l0 k3 l0 ji16 ((((x8_3 ++ (⟨#[44]⟩ : ByteArray)) ++ ji16) ++ t469) ++ ji16) (wrap64 (x9_3 + 1))) else (none)) else (none))) else (none)) else (none)) else (if x8_3.size + ji16.size ≤ 9223372036854775807 then ((keelsonref3_Print.f k3 ((rd_T39 l0 x9_3).f0) ((rd_T39 l0 x9_3).f1) ((rd_T39 l0 x9_3).f2)).bind fun t471 => (if (x8_3 ++ ji16).size + t471.size ≤ 9223372036854775807 then (if ((x8_3 ++ ji16) ++ t471).size + ji16.size ≤ 9223372036854775807 then (keelsonlaw4_DependsBlanks.l0 k3 l0 ji16 (((x8_3 ++ ji16) ++ t471) ++ ji16) (wrap64 (x9_3 + 1))) else (none)) else (none))) else (none))) = some r := by rw [if_pos rfl] at H;exact H
             clear H
             have H := H1
             clear H1
             by_cases c21 : x9_3 > 0
             ·rw [if_pos c21] at H
              have c21b0 : decide (0 < x9_3) = true := decide_eq_true c21
              clear c21
              by_cases c22 : x8_3.size + 1 ≤ 9223372036854775807
              ·rw [if_pos c22] at H
               have c22b0 := eq_true c22
               have c22b1 : decide (x8_3.size + 1 ≤ 9223372036854775807) = true := decide_eq_true c22
               try have c22b2 : (9223372036854775807 < x8_3.size + 1) = False := eq_false (Nat.not_lt.2 c22)
               by_cases c23 : (x8_3 ++ (⟨#[44]⟩ : ByteArray)).size + ji16.size ≤ 9223372036854775807
               ·rw [if_pos c23] at H
                have c23b0 := eq_true c23
                have c23b1 : decide ((x8_3 ++ (⟨#[44]⟩ : ByteArray)).size + ji16.size ≤ 9223372036854775807) = true := decide_eq_true c23
                try have c23b2 : (9223372036854775807 < (x8_3 ++ (⟨#[44]⟩ : ByteArray)).size + ji16.size) = False := eq_false (Nat.not_lt.2 c23)
                (try (have c23n := c23;simp only [ByteArray.size_append,size_of_lit,List.size_toArray,List.length_cons,List.length_nil,Nat.zero_add,Nat.reduceAdd] at c23n;have c23n1 := eq_false (Nat.not_lt.2 c23n)))
                replace H := Option.bind_eq_some_iff.mp H
                obtain ⟨t469,A240,H⟩ := H
                replace H : (if ((x8_3 ++ (⟨#[44]⟩ : ByteArray)) ++ ji16).size + t469.size ≤ 9223372036854775807 then (if (((x8_3 ++ (⟨#[44]⟩ : ByteArray)) ++ ji16) ++ t469).size + ji16.size ≤ 9223372036854775807 then (keelsonlaw4_DependsBlanks.l0 k3 l0 ji16 ((((x8_3 ++ (⟨#[44]⟩ : ByteArray)) ++ ji16) ++ t469) ++ ji16) (wrap64 (x9_3 + 1))) else (none)) else (none)) = some r := H
                have A24 := Aside0.mk A240
                clear A240
                by_cases c25 : ((x8_3 ++ (⟨#[44]⟩ : ByteArray)) ++ ji16).size + t469.size ≤ 9223372036854775807
                ·rw [if_pos c25] at H
                 have c25b0 := eq_true c25
                 have c25b1 : decide (((x8_3 ++ (⟨#[44]⟩ : ByteArray)) ++ ji16).size + t469.size ≤ 9223372036854775807) = true := decide_eq_true c25
                 try have c25b2 : (9223372036854775807 < ((x8_3 ++ (⟨#[44]⟩ : ByteArray)) ++ ji16).size + t469.size) = False := eq_false (Nat.not_lt.2 c25)
                 (try (have c25n := c25;simp only [ByteArray.size_append,size_of_lit,List.size_toArray,List.length_cons,List.length_nil,Nat.zero_add,Nat.reduceAdd] at c25n;have c25n1 := eq_false (Nat.not_lt.2 c25n)))
                 by_cases c26 : (((x8_3 ++ (⟨#[44]⟩ : ByteArray)) ++ ji16) ++ t469).size + ji16.size ≤ 9223372036854775807
                 ·rw [if_pos c26] at H
                  have c26b0 := eq_true c26
                  have c26b1 : decide ((((x8_3 ++ (⟨#[44]⟩ : ByteArray)) ++ ji16) ++ t469).size + ji16.size ≤ 9223372036854775807) = true := decide_eq_true c26
                  try have c26b2 : (9223372036854775807 < (((x8_3 ++ (⟨#[44]⟩ : ByteArray)) ++ ji16) ++ t469).size + ji16.size) = False := eq_false (Nat.not_lt.2 c26)
                  (try (have c26n := c26;simp only [ByteArray.size_append,size_of_lit,List.size_toArray,List.length_cons,List.length_nil,Nat.zero_add,Nat.reduceAdd] at c26n;have c26n1 := eq_false (Nat.not_lt.2 c26n)))
                  have H' := Aside0.mk H
                  clear H
                  have p466 : 0 ≤ (x9_3 : Int) := of_decide_eq_true (by assumption)
                  have q466 : x9_3 < (l0.length : Int) := of_decide_eq_true (by assumption)
                  obtain ⟨ad466,e466,hx466_0,hx466_1,hx466_2⟩ := at_T39 HR0.out x9_3 p466 q466
                  cases e466
                  replace hx466_0 := (HB.out.cell (World.block_lt_of_cell? w _ hx466_0)).trans hx466_0
                  replace hx466_1 := (HB.out.cell (World.block_lt_of_cell? w _ hx466_1)).trans hx466_1
                  replace hx466_2 := (HB.out.cell (World.block_lt_of_cell? w _ hx466_2)).trans hx466_2
                  replace p466 := eq_true p466
                  replace q466 := eq_true q466
                  go_wp2_with (first|((with_reducible refine qam (f := 20) rfl ?_);refine goesL_ (some 51) rfl rfl Tryz.func20 (by kernel_rfl) rfl #[.agg #[.string ((rd_T39 l0 x9_3).f0),.int .i64 ((rd_T39 l0 x9_3).f1),.string ((rd_T39 l0 x9_3).f2)]] rfl (by first|rfl|(simp only [List.map_toArray,List.map_cons,List.map_nil,List.length_drop,List.length_take];rfl)|simp only [List.map_toArray,List.map_cons,List.map_nil]) ?_;(with_reducible refine (keelsonref3_Right.calls k3 ((rd_T39 l0 x9_3).f0) ((rd_T39 l0 x9_3).f1) ((rd_T39 l0 x9_3).f2) true _ (by first|exact hG|exact GL.below hG (by repeat (with_reducible first|exact HB.out|apply qab|apply qaa|apply qac)))  A19.out).mono ?_);rintro e w27 ⟨rfl,hb⟩;refine ⟨_,rfl,?_⟩;have n0_ := Aside0.mk (qan (by repeat (with_reducible first|exact HB.out|apply qab|apply qaa|apply qac)) hb);clear HB;have HB := n0_;clear n0_;(try clear hb);(try clear hb2);(try clear hk);(try clear hi);have p468 : 0 ≤ (x9_3 : Int) := of_decide_eq_true (by assumption);have q468 : x9_3 < (l0.length : Int) := of_decide_eq_true (by assumption);obtain ⟨ad468,e468,hx468_0,hx468_1,hx468_2⟩ := at_T39 HR0.out x9_3 p468 q468;obtain rfl : ad466 = ad468 := (by injection e468);replace hx468_0 := (HB.out.cell (World.block_lt_of_cell? w _ hx468_0)).trans hx468_0;replace hx468_1 := (HB.out.cell (World.block_lt_of_cell? w _ hx468_1)).trans hx468_1;replace hx468_2 := (HB.out.cell (World.block_lt_of_cell? w _ hx468_2)).trans hx468_2;replace p468 := eq_true p468;replace q468 := eq_true q468)|((with_reducible refine qam (f := 21) rfl ?_);refine goesL_ (some 65) rfl rfl Tryz.func21 (by kernel_rfl) rfl #[.agg #[.string ((rd_T39 l0 x9_3).f0),.int .i64 ((rd_T39 l0 x9_3).f1),.string ((rd_T39 l0 x9_3).f2)]] rfl (by first|rfl|(simp only [List.map_toArray,List.map_cons,List.map_nil,List.length_drop,List.length_take];rfl)|simp only [List.map_toArray,List.map_cons,List.map_nil]) ?_;(with_reducible refine (keelsonref3_Print.calls k3 ((rd_T39 l0 x9_3).f0) ((rd_T39 l0 x9_3).f1) ((rd_T39 l0 x9_3).f2) t469 _ (by first|exact hG|exact GL.below hG (by repeat (with_reducible first|exact HB.out|apply qab|apply qaa|apply qac)))  A24.out).mono ?_);rintro e w28 ⟨rfl,hb⟩;refine ⟨_,rfl,?_⟩;have n0_ := Aside0.mk (qan (by repeat (with_reducible first|exact HB.out|apply qab|apply qaa|apply qac)) hb);clear HB;have HB := n0_;clear n0_;(try clear hb);(try clear hb2);(try clear hk);(try clear hi)))
                  go_roundg k3
                  case measure => have := HJ4.out;have := HJ10.out;have := HK3.out;omega
                  case rel => exact ⟨((((x8_3 ++ (⟨#[44]⟩ : ByteArray)) ++ ji16) ++ t469) ++ ji16),(wrap64 (x9_3 + 1)),(by first|rfl|(simp;done)|(simp only [← hji16]<;>(first|rfl|simp))|(simp [*];done)),(by first|rfl|(simp;done)|(simp [*];done)|(simp [qaj];done)),H',⟨by have := HJ4.out;have := HJ10.out;have := HK3.out;omega⟩,⟨by repeat (with_reducible first|exact HB.out|apply qab|apply qaa|apply qac)⟩⟩
                 ·rw [if_neg c26] at H
                  exact absurd H (by simp)
                ·rw [if_neg c25] at H
                 exact absurd H (by simp)
               ·rw [if_neg c23] at H
                exact absurd H (by simp)
              ·rw [if_neg c22] at H
               exact absurd H (by simp)
             ·rw [if_neg c21] at H
              have c21b0 : decide (0 < x9_3) = false := decide_eq_false c21
              clear c21
              by_cases c29 : x8_3.size + ji16.size ≤ 9223372036854775807
              ·rw [if_pos c29] at H
               have c29b0 := eq_true c29
               have c29b1 : decide (x8_3.size + ji16.size ≤ 9223372036854775807) = true := decide_eq_true c29
               try have c29b2 : (9223372036854775807 < x8_3.size + ji16.size) = False := eq_false (Nat.not_lt.2 c29)
               replace H := Option.bind_eq_some_iff.mp H
               obtain ⟨t471,A300,H⟩ := H
               replace H : (if (x8_3 ++ ji16).size + t471.size ≤ 9223372036854775807 then (if ((x8_3 ++ ji16) ++ t471).size + ji16.size ≤ 9223372036854775807 then (keelsonlaw4_DependsBlanks.l0 k3 l0 ji16 (((x8_3 ++ ji16) ++ t471) ++ ji16) (wrap64 (x9_3 + 1))) else (none)) else (none)) = some r := H
               have A30 := Aside0.mk A300
               clear A300
               by_cases c31 : (x8_3 ++ ji16).size + t471.size ≤ 9223372036854775807
               ·rw [if_pos c31] at H
                have c31b0 := eq_true c31
                have c31b1 : decide ((x8_3 ++ ji16).size + t471.size ≤ 9223372036854775807) = true := decide_eq_true c31
                try have c31b2 : (9223372036854775807 < (x8_3 ++ ji16).size + t471.size) = False := eq_false (Nat.not_lt.2 c31)
                (try (have c31n := c31;simp only [ByteArray.size_append,size_of_lit,List.size_toArray,List.length_cons,List.length_nil,Nat.zero_add,Nat.reduceAdd] at c31n;have c31n1 := eq_false (Nat.not_lt.2 c31n)))
                by_cases c32 : ((x8_3 ++ ji16) ++ t471).size + ji16.size ≤ 9223372036854775807
                ·rw [if_pos c32] at H
                 have c32b0 := eq_true c32
                 have c32b1 : decide (((x8_3 ++ ji16) ++ t471).size + ji16.size ≤ 9223372036854775807) = true := decide_eq_true c32
                 try have c32b2 : (9223372036854775807 < ((x8_3 ++ ji16) ++ t471).size + ji16.size) = False := eq_false (Nat.not_lt.2 c32)
                 (try (have c32n := c32;simp only [ByteArray.size_append,size_of_lit,List.size_toArray,List.length_cons,List.length_nil,Nat.zero_add,Nat.reduceAdd] at c32n;have c32n1 := eq_false (Nat.not_lt.2 c32n)))
                 have H' := Aside0.mk H
                 clear H
                 have p466 : 0 ≤ (x9_3 : Int) := of_decide_eq_true (by assumption)
                 have q466 : x9_3 < (l0.length : Int) := of_decide_eq_true (by assumption)
                 obtain ⟨ad466,e466,hx466_0,hx466_1,hx466_2⟩ := at_T39 HR0.out x9_3 p466 q466
                 cases e466
                 replace hx466_0 := (HB.out.cell (World.block_lt_of_cell? w _ hx466_0)).trans hx466_0
                 replace hx466_1 := (HB.out.cell (World.block_lt_of_cell? w _ hx466_1)).trans hx466_1
                 replace hx466_2 := (HB.out.cell (World.block_lt_of_cell? w _ hx466_2)).trans hx466_2
                 replace p466 := eq_true p466
                 replace q466 := eq_true q466
                 go_wp2_with (first|((with_reducible refine qam (f := 20) rfl ?_);refine goesL_ (some 51) rfl rfl Tryz.func20 (by kernel_rfl) rfl #[.agg #[.string ((rd_T39 l0 x9_3).f0),.int .i64 ((rd_T39 l0 x9_3).f1),.string ((rd_T39 l0 x9_3).f2)]] rfl (by first|rfl|(simp only [List.map_toArray,List.map_cons,List.map_nil,List.length_drop,List.length_take];rfl)|simp only [List.map_toArray,List.map_cons,List.map_nil]) ?_;(with_reducible refine (keelsonref3_Right.calls k3 ((rd_T39 l0 x9_3).f0) ((rd_T39 l0 x9_3).f1) ((rd_T39 l0 x9_3).f2) true _ (by first|exact hG|exact GL.below hG (by repeat (with_reducible first|exact HB.out|apply qab|apply qaa|apply qac)))  A19.out).mono ?_);rintro e w33 ⟨rfl,hb⟩;refine ⟨_,rfl,?_⟩;have n0_ := Aside0.mk (qan (by repeat (with_reducible first|exact HB.out|apply qab|apply qaa|apply qac)) hb);clear HB;have HB := n0_;clear n0_;(try clear hb);(try clear hb2);(try clear hk);(try clear hi);have p470 : 0 ≤ (x9_3 : Int) := of_decide_eq_true (by assumption);have q470 : x9_3 < (l0.length : Int) := of_decide_eq_true (by assumption);obtain ⟨ad470,e470,hx470_0,hx470_1,hx470_2⟩ := at_T39 HR0.out x9_3 p470 q470;obtain rfl : ad466 = ad470 := (by injection e470);replace hx470_0 := (HB.out.cell (World.block_lt_of_cell? w _ hx470_0)).trans hx470_0;replace hx470_1 := (HB.out.cell (World.block_lt_of_cell? w _ hx470_1)).trans hx470_1;replace hx470_2 := (HB.out.cell (World.block_lt_of_cell? w _ hx470_2)).trans hx470_2;replace p470 := eq_true p470;replace q470 := eq_true q470)|((with_reducible refine qam (f := 21) rfl ?_);refine goesL_ (some 65) rfl rfl Tryz.func21 (by kernel_rfl) rfl #[.agg #[.string ((rd_T39 l0 x9_3).f0),.int .i64 ((rd_T39 l0 x9_3).f1),.string ((rd_T39 l0 x9_3).f2)]] rfl (by first|rfl|(simp only [List.map_toArray,List.map_cons,List.map_nil,List.length_drop,List.length_take];rfl)|simp only [List.map_toArray,List.map_cons,List.map_nil]) ?_;(with_reducible refine (keelsonref3_Print.calls k3 ((rd_T39 l0 x9_3).f0) ((rd_T39 l0 x9_3).f1) ((rd_T39 l0 x9_3).f2) t471 _ (by first|exact hG|exact GL.below hG (by repeat (with_reducible first|exact HB.out|apply qab|apply qaa|apply qac)))  A30.out).mono ?_);rintro e w34 ⟨rfl,hb⟩;refine ⟨_,rfl,?_⟩;have n0_ := Aside0.mk (qan (by repeat (with_reducible first|exact HB.out|apply qab|apply qaa|apply qac)) hb);clear HB;have HB := n0_;clear n0_;(try clear hb);(try clear hb2);(try clear hk);(try clear hi)))
                 go_roundg k3
                 case measure => have := HJ4.out;have := HJ10.out;have := HK3.out;omega
                 case rel => exact ⟨(((x8_3 ++ ji16) ++ t471) ++ ji16),(wrap64 (x9_3 + 1)),(by first|rfl|(simp;done)|(simp only [← hji16]<;>(first|rfl|simp))|(simp [*];done)),(by first|rfl|(simp;done)|(simp [*];done)|(simp [qaj];done)),H',⟨by have := HJ4.out;have := HJ10.out;have := HK3.out;omega⟩,⟨by repeat (with_reducible first|exact HB.out|apply qab|apply qaa|apply qac)⟩⟩
                ·rw [if_neg c32] at H
                 exact absurd H (by simp)
               ·rw [if_neg c31] at H
                exact absurd H (by simp)
              ·rw [if_neg c29] at H
               exact absurd H (by simp)
            ·replace c20 := Bool.eq_false_iff.mpr c20
             subst c20
             have H1 : (some true) = some r := by rw [if_neg (show ¬ (false = true) by decide)] at H;exact H
             clear H
             have H := H1
             clear H1
             obtain rfl := Option.some.inj H
             have p466 : 0 ≤ (x9_3 : Int) := of_decide_eq_true (by assumption)
             have q466 : x9_3 < (l0.length : Int) := of_decide_eq_true (by assumption)
             obtain ⟨ad466,e466,hx466_0,hx466_1,hx466_2⟩ := at_T39 HR0.out x9_3 p466 q466
             cases e466
             replace hx466_0 := (HB.out.cell (World.block_lt_of_cell? w _ hx466_0)).trans hx466_0
             replace hx466_1 := (HB.out.cell (World.block_lt_of_cell? w _ hx466_1)).trans hx466_1
             replace hx466_2 := (HB.out.cell (World.block_lt_of_cell? w _ hx466_2)).trans hx466_2
             replace p466 := eq_true p466
             replace q466 := eq_true q466
             go_wp2_with (first|((with_reducible refine qam (f := 20) rfl ?_);refine goesL_ (some 51) rfl rfl Tryz.func20 (by kernel_rfl) rfl #[.agg #[.string ((rd_T39 l0 x9_3).f0),.int .i64 ((rd_T39 l0 x9_3).f1),.string ((rd_T39 l0 x9_3).f2)]] rfl (by first|rfl|(simp only [List.map_toArray,List.map_cons,List.map_nil,List.length_drop,List.length_take];rfl)|simp only [List.map_toArray,List.map_cons,List.map_nil]) ?_;(with_reducible refine (keelsonref3_Right.calls k3 ((rd_T39 l0 x9_3).f0) ((rd_T39 l0 x9_3).f1) ((rd_T39 l0 x9_3).f2) false _ (by first|exact hG|exact GL.below hG (by repeat (with_reducible first|exact HB.out|apply qab|apply qaa|apply qac)))  A19.out).mono ?_);rintro e w35 ⟨rfl,hb⟩;refine ⟨_,rfl,?_⟩;have n0_ := Aside0.mk (qan (by repeat (with_reducible first|exact HB.out|apply qab|apply qaa|apply qac)) hb);clear HB;have HB := n0_;clear n0_;(try clear hb);(try clear hb2);(try clear hk);(try clear hi)))
             go_ret
             exact ⟨by first|rfl|(simp [qak,qal]<;>rfl)|(simp only [← hji13,← hji16];first|rfl|(simp [qak,qal]<;>rfl))|(simp [*,qak,qal]<;>rfl),by repeat (with_reducible first|exact HB.out|apply qab|apply qaa|apply qac)⟩
           ·rw [if_neg c18] at H
            exact absurd H (by simp)
          ·rw [if_neg c17] at H
           have c17b0 : decide (x9_3 < (l0.length : Int)) = false := decide_eq_false c17
           clear c17
           replace H := Option.bind_eq_some_iff.mp H
           obtain ⟨⟨t461,t462⟩,A360,H⟩ := H
           replace H : (if t462 = 0 then ((keelsonlaw4_sameAtoms.f k3 t461 l0).bind fun t465 => (some t465)) else (some false)) = some r := H
           have A36 := Aside0.mk A360
           clear A360
           by_cases c37 : t462 = 0
           ·rw [if_pos c37] at H
            have c37b0 : (t462 == 0) = true := beq_iff_eq.mpr c37
            have c37b1 : (t462 != 0) = false := bne_eq_false_iff_eq.mpr c37
            clear c37
            replace H := Option.bind_eq_some_iff.mp H
            obtain ⟨t465,A380,H⟩ := H
            replace H : (some t465) = some r := H
            have A38 := Aside0.mk A380
            clear A380
            obtain rfl := Option.some.inj H
            go_wp2_with (first|((with_reducible refine qam (f := 12) rfl ?_);refine goesL_ (some 71) rfl rfl Tryz.func12 (by kernel_rfl) rfl #[.string x8_3] rfl (by first|rfl|(simp only [List.map_toArray,List.map_cons,List.map_nil,List.length_drop,List.length_take];rfl)|simp only [List.map_toArray,List.map_cons,List.map_nil]) ?_;(with_reducible refine (depends_Atoms.calls k3 x8_3 t461 t462 _ (by first|exact hG|exact GL.below hG (by repeat (with_reducible first|exact HB.out|apply qab|apply qaa|apply qac)))  A36.out).mono ?_);rintro e w39 ⟨v463,rfl,ho0,hb⟩;refine ⟨_,rfl,?_⟩;have n0_ := Aside0.mk (Kd.R_lower ho0 (qao (by repeat (with_reducible first|exact HB.out|apply qab|apply qaa|apply qac))));have n1_ := Aside0.mk (qan (by repeat (with_reducible first|exact HB.out|apply qab|apply qaa|apply qac)) hb);clear HB;have HO464 := n0_;have HB := n1_;clear n0_ n1_;(try clear hb);(try clear hb2);(try clear hk);(try clear hi);(try clear ho0);obtain ⟨Ao40,co40,eo40⟩ := Kd.R_slice HO464.out;subst eo40)|(go_at_call 15;(with_reducible refine (keelsonlaw4_sameAtoms.calls k3 _ _ t461 _ _ l0 t465 _ (by first|exact hG|exact GL.below hG (by repeat (with_reducible first|exact HB.out|apply qab|apply qaa|apply qac)))  ?side1 ?side2 ?side3 ?side4 A38.out).mono ?_);(case side1 => repeat (first|exact (Kd.R_reads' HO464.out).2.2|(with_reducible refine Kd.C_alloc ?_ _)|(with_reducible refine Kd.C_drewN ?_ _)|(with_reducible refine Kd.C_drew ?_)));(case side2 => exact (Kd.R_reads' HO464.out).2.1);(case side3 => repeat (first|exact (Kd.C_below HR0.out HB.out)|(with_reducible refine Kd.C_alloc ?_ _)|(with_reducible refine Kd.C_drewN ?_ _)|(with_reducible refine Kd.C_drew ?_)));(case side4 => exact HC0.out);rintro e w' ⟨rfl,⟨nd,rfl⟩⟩))
            go_ret
            exact ⟨by first|rfl|(simp [qak,qal]<;>rfl)|(simp only [← hji13,← hji16];first|rfl|(simp [qak,qal]<;>rfl))|(simp [*,qak,qal]<;>rfl),by repeat (with_reducible first|exact HB.out|apply qab|apply qaa|apply qac)⟩
           ·rw [if_neg c37] at H
            have c37b0 : (t462 == 0) = false := beq_eq_false_iff_ne.mpr c37
            have c37b1 : (t462 != 0) = true := bne_iff_ne.mpr c37
            obtain rfl := Option.some.inj H
            go_wp2_with (first|((with_reducible refine qam (f := 12) rfl ?_);refine goesL_ (some 71) rfl rfl Tryz.func12 (by kernel_rfl) rfl #[.string x8_3] rfl (by first|rfl|(simp only [List.map_toArray,List.map_cons,List.map_nil,List.length_drop,List.length_take];rfl)|simp only [List.map_toArray,List.map_cons,List.map_nil]) ?_;(with_reducible refine (depends_Atoms.calls k3 x8_3 t461 t462 _ (by first|exact hG|exact GL.below hG (by repeat (with_reducible first|exact HB.out|apply qab|apply qaa|apply qac)))  A36.out).mono ?_);rintro e w41 ⟨v463,rfl,ho0,hb⟩;refine ⟨_,rfl,?_⟩;have n0_ := Aside0.mk (Kd.R_lower ho0 (qao (by repeat (with_reducible first|exact HB.out|apply qab|apply qaa|apply qac))));have n1_ := Aside0.mk (qan (by repeat (with_reducible first|exact HB.out|apply qab|apply qaa|apply qac)) hb);clear HB;have HO464 := n0_;have HB := n1_;clear n0_ n1_;(try clear hb);(try clear hb2);(try clear hk);(try clear hi);(try clear ho0)))
            go_ret
            exact ⟨by first|rfl|(simp [qak,qal]<;>rfl)|(simp only [← hji13,← hji16];first|rfl|(simp [qak,qal]<;>rfl))|(simp [*,qak,qal]<;>rfl),by repeat (with_reducible first|exact HB.out|apply qab|apply qaa|apply qac)⟩
       ·rw [if_neg c15] at H
        exact absurd H (by simp)
      ·rw [if_neg c14] at H
       exact absurd H (by simp)
end Go.Proofs.YtjbbgekkombpnaaGreatDoor.PA
