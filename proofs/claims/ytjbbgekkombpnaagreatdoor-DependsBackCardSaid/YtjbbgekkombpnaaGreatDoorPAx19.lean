
import Derived.Test.YtjbbgekkombpnaaGreatDoorPAx0
import Derived.Test.YtjbbgekkombpnaaGreatDoorPAx6
import Derived.Test.YtjbbgekkombpnaaGreatDoorPAx7
import Derived.Test.YtjbbgekkombpnaaGreatDoorPAx8
import Derived.Test.YtjbbgekkombpnaaGreatDoorPAx11
import Derived.Test.YtjbbgekkombpnaaGreatDoorPAx18
noncomputable section
namespace Go.Proofs.YtjbbgekkombpnaaGreatDoor.PA
open Go.RowKit Go.Proofs.YtjbbgekkombpnaaGreatDoorW.PrintWords Go.Proofs.YtjbbgekkombpnaaGreatDoorW.PrintLast Go.Proofs.YtjbbgekkombpnaaGreatDoorW.PrintMore
attribute [local go_sem] max2_int min2_int max_two min_two max_three min_three max_four min_four
set_option maxHeartbeats 8000000
set_option maxRecDepth 100000
set_option linter.unusedVariables false
set_option linter.unusedSimpArgs false
mutual
def keelsonlaw4_DependsBack.j0 : Nat → List (List (S39)) → ByteArray → Bool → Bool → Option (Bool)
 | 0,_,_,_,_ => none
 | k + 1,x0,x1,x5,x26 => if x26 = true then (some x5) else ((depends_Right.f k x0).bind fun t356 => (if t356 = true then ((depends_Print.f k x0).bind fun t357 => ((depends_Parse.f k t357).bind fun bt358 => (if bt358.2 = 0 then ((keelsonlaw4_same.f k bt358.1 x0).bind fun t362 => (if t362 = true then (keelsonlaw4_DependsBack.j1 k x1) else (some false))) else (some false)))) else (keelsonlaw4_DependsBack.j1 k x1)))
def keelsonlaw4_DependsBack.j1 : Nat → ByteArray → Option (Bool)
 | 0,_ => none
 | k + 1,x1 => (depends_Parse.f k x1).bind fun bt363 => ((depends_Print.f k bt363.1).bind fun t367 => ((depends_Parse.f k t367).bind fun bt368 => (if bt363.2 = 0 then (if bt368.2 = 0 then ((keelsonlaw4_same.f k bt363.1 bt368.1).bind fun t372 => (if t372 = true then ((depends_Right.f k bt363.1).bind fun t373 => (some t373)) else (some false))) else (some false)) else (if (bt363.1.length : Int) = 0 then (some true) else (some false)))))
end
def keelsonlaw4_DependsBack.f (k : Nat) (l0 : List (List (S39))) (a1 : ByteArray) : Option (Bool) := (keelsonlaw4_shown.f k).bind fun t354 => ((keelsonlaw4_small.f k l0).bind fun t355 => (if t354 = true then (if t355 = true then (keelsonlaw4_DependsBack.j0 k l0 a1 t354 (decide ((a1.size : Int) > 1000))) else (keelsonlaw4_DependsBack.j0 k l0 a1 t354 true)) else (keelsonlaw4_DependsBack.j0 k l0 a1 t354 true)))
theorem keelsonlaw4_DependsBack.mono_l : ∀ k,(∀ y0 y1 y2 y3,LeO (keelsonlaw4_DependsBack.j0 k y0 y1 y2 y3) (keelsonlaw4_DependsBack.j0 (k + 1) y0 y1 y2 y3)) ∧ (∀ y0,LeO (keelsonlaw4_DependsBack.j1 k y0) (keelsonlaw4_DependsBack.j1 (k + 1) y0))
 | 0 => ⟨fun _ _ _ _ r h => by simp [keelsonlaw4_DependsBack.j0] at h,fun _ r h => by simp [keelsonlaw4_DependsBack.j1] at h⟩
 | k + 1 => by
  obtain ⟨ih0,ih1⟩ := keelsonlaw4_DependsBack.mono_l k
  refine ⟨?_,?_⟩
  ·intro y0 y1 y2 y3
   unfold keelsonlaw4_DependsBack.j0
   repeat' first
   | (with_reducible exact ih0 _ _ _ _)
   | (with_reducible exact ih1 _)
   | (with_reducible exact depends_Parse.mono _ _)
   | (with_reducible exact depends_Print.mono _ _)
   | (with_reducible exact depends_Right.mono _ _)
   | (with_reducible exact keelsonlaw4_same.mono _ _ _)
   | (with_reducible exact keelsonlaw4_shown.mono _)
   | (with_reducible exact keelsonlaw4_small.mono _ _)
   | (with_reducible exact LeO.refl _)
   | (with_reducible exact LeO.none _)
   | (with_reducible refine LeO.ite ?_ ?_)
   | (with_reducible refine LeO.bind ?_ (fun _ => ?_))
   | exact ih0 _ _ _ _
   | exact ih1 _
   | exact depends_Parse.mono _ _
   | exact depends_Print.mono _ _
   | exact depends_Right.mono _ _
   | exact keelsonlaw4_same.mono _ _ _
   | exact keelsonlaw4_shown.mono _
   | exact keelsonlaw4_small.mono _ _
   | exact LeO.none _
   | refine LeO.ite ?_ ?_
   | refine LeO.bind ?_ (fun _ => ?_)
  ·intro y0
   unfold keelsonlaw4_DependsBack.j1
   repeat' first
   | (with_reducible exact ih0 _ _ _ _)
   | (with_reducible exact ih1 _)
   | (with_reducible exact depends_Parse.mono _ _)
   | (with_reducible exact depends_Print.mono _ _)
   | (with_reducible exact depends_Right.mono _ _)
   | (with_reducible exact keelsonlaw4_same.mono _ _ _)
   | (with_reducible exact keelsonlaw4_shown.mono _)
   | (with_reducible exact keelsonlaw4_small.mono _ _)
   | (with_reducible exact LeO.refl _)
   | (with_reducible exact LeO.none _)
   | (with_reducible refine LeO.ite ?_ ?_)
   | (with_reducible refine LeO.bind ?_ (fun _ => ?_))
   | exact ih0 _ _ _ _
   | exact ih1 _
   | exact depends_Parse.mono _ _
   | exact depends_Print.mono _ _
   | exact depends_Right.mono _ _
   | exact keelsonlaw4_same.mono _ _ _
   | exact keelsonlaw4_shown.mono _
   | exact keelsonlaw4_small.mono _ _
   | exact LeO.none _
   | refine LeO.ite ?_ ?_
   | refine LeO.bind ?_ (fun _ => ?_)
theorem keelsonlaw4_DependsBack.mono : ∀ a0 a1 k,LeO (keelsonlaw4_DependsBack.f k a0 a1) (keelsonlaw4_DependsBack.f (k + 1) a0 a1) := by
 intro a0 a1 k
 obtain ⟨ih0,ih1⟩ := keelsonlaw4_DependsBack.mono_l k
 unfold keelsonlaw4_DependsBack.f
 repeat' first
   | (with_reducible exact ih0 _ _ _ _)
   | (with_reducible exact ih1 _)
   | (with_reducible exact depends_Parse.mono _ _)
   | (with_reducible exact depends_Print.mono _ _)
   | (with_reducible exact depends_Right.mono _ _)
   | (with_reducible exact keelsonlaw4_same.mono _ _ _)
   | (with_reducible exact keelsonlaw4_shown.mono _)
   | (with_reducible exact keelsonlaw4_small.mono _ _)
   | (with_reducible exact LeO.refl _)
   | (with_reducible exact LeO.none _)
   | (with_reducible refine LeO.ite ?_ ?_)
   | (with_reducible refine LeO.bind ?_ (fun _ => ?_))
   | exact ih0 _ _ _ _
   | exact ih1 _
   | exact depends_Parse.mono _ _
   | exact depends_Print.mono _ _
   | exact depends_Right.mono _ _
   | exact keelsonlaw4_same.mono _ _ _
   | exact keelsonlaw4_shown.mono _
   | exact keelsonlaw4_small.mono _ _
   | exact LeO.none _
   | refine LeO.ite ?_ ?_
   | refine LeO.bind ?_ (fun _ => ?_)
theorem keelsonlaw4_DependsBack.calls (k : Nat) (A0 : Option Addr) (c0 : Nat) (l0 : List (List (S39))) (a1 : ByteArray) (r : Bool) (w : World) (hG : GL w) (hr0 : Kd.C (Kd.slice 39 k39) w A0 l0.length l0) (hc0 : l0.length ≤ c0) (h : keelsonlaw4_DependsBack.f k l0 a1 = some r) :
  Calls Tryz.prog 4 #[.slice A0 l0.length c0,.string a1] w fun e w' => e = .returned (.bool r) ∧ Below w.heap.size w w' := by
 have HR0 := Aside0.mk hr0
 have HC0 := Aside0.mk hc0
 clear hr0 hc0
 have HB := Aside0.mk (Below.refl w.heap.size w)
 have H : ((keelsonlaw4_shown.f k).bind fun t354 => ((keelsonlaw4_small.f k l0).bind fun t355 => (if t354 = true then (if t355 = true then (keelsonlaw4_DependsBack.j0 k l0 a1 t354 (decide ((a1.size : Int) > 1000))) else (keelsonlaw4_DependsBack.j0 k l0 a1 t354 true)) else (keelsonlaw4_DependsBack.j0 k l0 a1 t354 true)))) = some r := h
 clear h
 replace H := Option.bind_eq_some_iff.mp H
 obtain ⟨t354,A30,H⟩ := H
 replace H : ((keelsonlaw4_small.f k l0).bind fun t355 => (if t354 = true then (if t355 = true then (keelsonlaw4_DependsBack.j0 k l0 a1 t354 (decide ((a1.size : Int) > 1000))) else (keelsonlaw4_DependsBack.j0 k l0 a1 t354 true)) else (keelsonlaw4_DependsBack.j0 k l0 a1 t354 true))) = some r := H
 have A3 := Aside0.mk A30
 clear A30
 replace H := Option.bind_eq_some_iff.mp H
 obtain ⟨t355,A40,H⟩ := H
 replace H : (if t354 = true then (if t355 = true then (keelsonlaw4_DependsBack.j0 k l0 a1 t354 (decide ((a1.size : Int) > 1000))) else (keelsonlaw4_DependsBack.j0 k l0 a1 t354 true)) else (keelsonlaw4_DependsBack.j0 k l0 a1 t354 true)) = some r := H
 have A4 := Aside0.mk A40
 clear A40
 have HC5 := Aside0.mk H
 clear H
 go_enter Tryz.func4,Tryz.ntmps4
 go_upto_region 3 with (first|((with_reducible refine qaj (f := 9) rfl ?_);refine goesL_ (some 13) rfl rfl Tryz.func9 (by kernel_rfl) rfl #[] rfl (by first|rfl|(simp only [List.map_toArray,List.map_cons,List.map_nil,List.length_drop,List.length_take];rfl)|simp only [List.map_toArray,List.map_cons,List.map_nil]) ?_;(with_reducible refine (keelsonlaw4_shown.calls k  t354 _ (by first|exact hG|exact GL.below hG (by repeat (with_reducible first|exact HB.out|apply qab|apply qaa|apply qac)))  A3.out).mono ?_);rintro e w6 ⟨rfl,hb⟩;refine ⟨_,rfl,?_⟩;have n0_ := Aside0.mk (qam (by repeat (with_reducible first|exact HB.out|apply qab|apply qaa|apply qac)) hb);clear HB;have HB := n0_;clear n0_;(try clear hb);(try clear hb2);(try clear hk);(try clear hi))|((with_reducible refine qaj (f := 16) rfl ?_);refine goesL_ (some 15) rfl rfl Tryz.func16 (by kernel_rfl) rfl #[.slice A0 l0.length c0] rfl (by first|rfl|(simp only [List.map_toArray,List.map_cons,List.map_nil,List.length_drop,List.length_take];rfl)|simp only [List.map_toArray,List.map_cons,List.map_nil]) ?_;(with_reducible refine (keelsonlaw4_small.calls k _ _ l0 t355 _ (by first|exact hG|exact GL.below hG (by repeat (with_reducible first|exact HB.out|apply qab|apply qaa|apply qac)))  ?side1 ?side2 A4.out).mono ?_);(case side1 => repeat (first|exact (Kd.C_below HR0.out HB.out)|(with_reducible refine Kd.C_alloc ?_ _)|(with_reducible refine Kd.C_drewN ?_ _)|(with_reducible refine Kd.C_drew ?_)));(case side2 => exact HC0.out);rintro e w' ⟨rfl,⟨nd,rfl⟩⟩;refine ⟨_,rfl,?_⟩))
 (try simp only [Act.put,List.setIfInBounds_toArray,List.set_cons_zero,List.set_cons_succ])
 go_cut [26] (fun v26 wc => ∃ (kq : Nat) (x26_4 : Bool),v26 = .bool x26_4 ∧ Aside0 (keelsonlaw4_DependsBack.j0 kq l0 a1 t354 x26_4 = some r) ∧ Aside0 (kq ≤ k) ∧ Aside0 (Below w.heap.size w wc))
 case first =>
  have H := HC5.out
  clear HC5
  by_cases c7 : t354 = true
  ·subst c7
   have H1 : (if t355 = true then (keelsonlaw4_DependsBack.j0 k l0 a1 true (decide ((a1.size : Int) > 1000))) else (keelsonlaw4_DependsBack.j0 k l0 a1 true true)) = some r := by rw [if_pos rfl] at H;exact H
   clear H
   have H := H1
   clear H1
   by_cases c8 : t355 = true
   ·subst c8
    have H1 : (keelsonlaw4_DependsBack.j0 k l0 a1 true (decide ((a1.size : Int) > 1000))) = some r := by rw [if_pos rfl] at H;exact H
    clear H
    have H := H1
    clear H1
    have H' := Aside0.mk H
    clear H
    go_wp2
    go_meet
    case rel => exact ⟨_,(decide ((a1.size : Int) > 1000)),(by first|rfl|(simp;done)|(simp [*];done)|(simp [qan];done)),H',⟨by first|omega|exact Nat.le_refl _⟩,⟨by repeat (with_reducible first|exact HB.out|apply qab|apply qaa|apply qac)⟩⟩
   ·replace c8 := Bool.eq_false_iff.mpr c8
    subst c8
    have H1 : (keelsonlaw4_DependsBack.j0 k l0 a1 true true) = some r := by rw [if_neg (show ¬ (false = true) by decide)] at H;exact H
    clear H
    have H := H1
    clear H1
    have H' := Aside0.mk H
    clear H
    go_wp2
    go_meet
    case rel => exact ⟨_,(true),(by first|rfl|(simp;done)|(simp [*];done)|(simp [qan];done)),H',⟨by first|omega|exact Nat.le_refl _⟩,⟨by repeat (with_reducible first|exact HB.out|apply qab|apply qaa|apply qac)⟩⟩
  ·replace c7 := Bool.eq_false_iff.mpr c7
   subst c7
   have H1 : (keelsonlaw4_DependsBack.j0 k l0 a1 false true) = some r := by rw [if_neg (show ¬ (false = true) by decide)] at H;exact H
   clear H
   have H := H1
   clear H1
   have H' := Aside0.mk H
   clear H
   go_wp2
   go_meet
   case rel => exact ⟨_,(true),(by first|rfl|(simp;done)|(simp [*];done)|(simp [qan];done)),H',⟨by first|omega|exact Nat.le_refl _⟩,⟨by repeat (with_reducible first|exact HB.out|apply qab|apply qaa|apply qac)⟩⟩
 case rest =>
  clear HC5
  try clear c1
  try clear p2
  try clear c4
  try clear c7
  try clear c8
  obtain ⟨kq,x26_4,rfl,HA,HJ4,HB⟩ := hcut
  cases kq with
  | zero => exact absurd HA.out (by simp [keelsonlaw4_DependsBack.j0])
  | succ kj4 =>
   have H := HA.out
   clear HA
   simp only [keelsonlaw4_DependsBack.j0] at H
   by_cases c9 : x26_4 = true
   ·subst c9
    have H1 : (some t354) = some r := by rw [if_pos rfl] at H;exact H
    clear H
    have H := H1
    clear H1
    obtain rfl := Option.some.inj H
    go_wp2
    go_ret
    exact ⟨by first|rfl|(simp [qak,qal]<;>rfl)|(simp [*,qak,qal]<;>rfl),by repeat (with_reducible first|exact HB.out|apply qab|apply qaa|apply qac)⟩
   ·replace c9 := Bool.eq_false_iff.mpr c9
    subst c9
    have H1 : ((depends_Right.f kj4 l0).bind fun t356 => (if t356 = true then ((depends_Print.f kj4 l0).bind fun t357 => ((depends_Parse.f kj4 t357).bind fun bt358 => (if bt358.2 = 0 then ((keelsonlaw4_same.f kj4 bt358.1 l0).bind fun t362 => (if t362 = true then (keelsonlaw4_DependsBack.j1 kj4 a1) else (some false))) else (some false)))) else (keelsonlaw4_DependsBack.j1 kj4 a1))) = some r := by rw [if_neg (show ¬ (false = true) by decide)] at H;exact H
    clear H
    have H := H1
    clear H1
    replace H := Option.bind_eq_some_iff.mp H
    obtain ⟨t356,A100,H⟩ := H
    replace H : (if t356 = true then ((depends_Print.f kj4 l0).bind fun t357 => ((depends_Parse.f kj4 t357).bind fun bt358 => (if bt358.2 = 0 then ((keelsonlaw4_same.f kj4 bt358.1 l0).bind fun t362 => (if t362 = true then (keelsonlaw4_DependsBack.j1 kj4 a1) else (some false))) else (some false)))) else (keelsonlaw4_DependsBack.j1 kj4 a1)) = some r := H
    have A10 := Aside0.mk A100
    clear A100
    have HC11 := Aside0.mk H
    clear H
    go_upto_if 29 with (first|((with_reducible refine qaj (f := 17) rfl ?_);refine goesL_ (some 29) rfl rfl Tryz.func17 (by kernel_rfl) rfl #[.slice A0 l0.length c0] rfl (by first|rfl|(simp only [List.map_toArray,List.map_cons,List.map_nil,List.length_drop,List.length_take];rfl)|simp only [List.map_toArray,List.map_cons,List.map_nil]) ?_;(with_reducible refine (depends_Right.calls kj4 _ _ l0 t356 _ (by first|exact hG|exact GL.below hG (by repeat (with_reducible first|exact HB.out|apply qab|apply qaa|apply qac)))  ?side1 ?side2 A10.out).mono ?_);(case side1 => repeat (first|exact (Kd.C_below HR0.out HB.out)|(with_reducible refine Kd.C_alloc ?_ _)|(with_reducible refine Kd.C_drewN ?_ _)|(with_reducible refine Kd.C_drew ?_)));(case side2 => exact HC0.out);rintro e w12 ⟨rfl,hb⟩;refine ⟨_,rfl,?_⟩;have n0_ := Aside0.mk (qam (by repeat (with_reducible first|exact HB.out|apply qab|apply qaa|apply qac)) hb);clear HB;have HB := n0_;clear n0_;(try clear hb);(try clear hb2);(try clear hk);(try clear hi)))
    (try simp only [Act.put,List.setIfInBounds_toArray,List.set_cons_zero,List.set_cons_succ])
    go_cut [] (fun wc => ∃ (kq : Nat),Aside0 (keelsonlaw4_DependsBack.j1 kq a1 = some r) ∧ Aside0 (kq ≤ kj4) ∧ Aside0 (Below w.heap.size w wc))
    case first =>
     have H := HC11.out
     clear HC11
     by_cases c13 : t356 = true
     ·subst c13
      have H1 : ((depends_Print.f kj4 l0).bind fun t357 => ((depends_Parse.f kj4 t357).bind fun bt358 => (if bt358.2 = 0 then ((keelsonlaw4_same.f kj4 bt358.1 l0).bind fun t362 => (if t362 = true then (keelsonlaw4_DependsBack.j1 kj4 a1) else (some false))) else (some false)))) = some r := by rw [if_pos rfl] at H;exact H
      clear H
      have H := H1
      clear H1
      replace H := Option.bind_eq_some_iff.mp H
      obtain ⟨t357,A140,H⟩ := H
      replace H : ((depends_Parse.f kj4 t357).bind fun bt358 => (if bt358.2 = 0 then ((keelsonlaw4_same.f kj4 bt358.1 l0).bind fun t362 => (if t362 = true then (keelsonlaw4_DependsBack.j1 kj4 a1) else (some false))) else (some false))) = some r := H
      have A14 := Aside0.mk A140
      clear A140
      replace H := Option.bind_eq_some_iff.mp H
      obtain ⟨⟨t358,t359⟩,A150,H⟩ := H
      replace H : (if t359 = 0 then ((keelsonlaw4_same.f kj4 t358 l0).bind fun t362 => (if t362 = true then (keelsonlaw4_DependsBack.j1 kj4 a1) else (some false))) else (some false)) = some r := H
      have A15 := Aside0.mk A150
      clear A150
      by_cases c16 : t359 = 0
      ·rw [if_pos c16] at H
       have c16b0 : (t359 == 0) = true := beq_iff_eq.mpr c16
       have c16b1 : (t359 != 0) = false := bne_eq_false_iff_eq.mpr c16
       clear c16
       (first|rw [c16b0]|(simp only [i64_w,i32_w];rw [c16b0]) | skip)
       replace H := Option.bind_eq_some_iff.mp H
       obtain ⟨t362,A170,H⟩ := H
       replace H : (if t362 = true then (keelsonlaw4_DependsBack.j1 kj4 a1) else (some false)) = some r := H
       have A17 := Aside0.mk A170
       clear A170
       by_cases c18 : t362 = true
       ·subst c18
        have H1 : (keelsonlaw4_DependsBack.j1 kj4 a1) = some r := by rw [if_pos rfl] at H;exact H
        clear H
        have H := H1
        clear H1
        have H' := Aside0.mk H
        clear H
        go_wp2_with (first|((with_reducible refine qaj (f := 18) rfl ?_);refine goesL_ (some 32) rfl rfl Tryz.func18 (by kernel_rfl) rfl #[.slice A0 l0.length c0] rfl (by first|rfl|(simp only [List.map_toArray,List.map_cons,List.map_nil,List.length_drop,List.length_take];rfl)|simp only [List.map_toArray,List.map_cons,List.map_nil]) ?_;(with_reducible refine (depends_Print.calls kj4 _ _ l0 t357 _ (by first|exact hG|exact GL.below hG (by repeat (with_reducible first|exact HB.out|apply qab|apply qaa|apply qac)))  ?side1 ?side2 A14.out).mono ?_);(case side1 => repeat (first|exact (Kd.C_below HR0.out HB.out)|(with_reducible refine Kd.C_alloc ?_ _)|(with_reducible refine Kd.C_drewN ?_ _)|(with_reducible refine Kd.C_drew ?_)));(case side2 => exact HC0.out);rintro e w19 ⟨rfl,hb⟩;refine ⟨_,rfl,?_⟩;have n0_ := Aside0.mk (qam (by repeat (with_reducible first|exact HB.out|apply qab|apply qaa|apply qac)) hb);clear HB;have HB := n0_;clear n0_;(try clear hb);(try clear hb2);(try clear hk);(try clear hi))|((with_reducible refine qaj (f := 10) rfl ?_);refine goesL_ (some 33) rfl rfl Tryz.func10 (by kernel_rfl) rfl #[.string t357] rfl (by first|rfl|(simp only [List.map_toArray,List.map_cons,List.map_nil,List.length_drop,List.length_take];rfl)|simp only [List.map_toArray,List.map_cons,List.map_nil]) ?_;(with_reducible refine (depends_Parse.calls kj4 t357 t358 t359 _ (by first|exact hG|exact GL.below hG (by repeat (with_reducible first|exact HB.out|apply qab|apply qaa|apply qac)))  A15.out).mono ?_);rintro e w20 ⟨v360,rfl,ho0,hb⟩;refine ⟨_,rfl,?_⟩;have n0_ := Aside0.mk (Kd.S_lower ho0 (qao (by repeat (with_reducible first|exact HB.out|apply qab|apply qaa|apply qac))));have n1_ := Aside0.mk (qam (by repeat (with_reducible first|exact HB.out|apply qab|apply qaa|apply qac)) hb);clear HB;have HO361 := n0_;have HB := n1_;clear n0_ n1_;(try clear hb);(try clear hb2);(try clear hk);(try clear hi);(try clear ho0);obtain ⟨Ao21,co21,eo21⟩ := Kd.S_slice HO361.out;subst eo21)|(go_at_call 14;(with_reducible refine (keelsonlaw4_same.calls kj4 _ _ t358 _ _ l0 true _ (by first|exact hG|exact GL.below hG (by repeat (with_reducible first|exact HB.out|apply qab|apply qaa|apply qac)))  ?side1 ?side2 ?side3 ?side4 A17.out).mono ?_);(case side1 => repeat (first|exact (Kd.S_reads' HO361.out).2.2|(with_reducible refine Kd.C_alloc ?_ _)|(with_reducible refine Kd.C_drewN ?_ _)|(with_reducible refine Kd.C_drew ?_)));(case side2 => exact (Kd.S_reads' HO361.out).2.1);(case side3 => repeat (first|exact (Kd.C_below HR0.out HB.out)|(with_reducible refine Kd.C_alloc ?_ _)|(with_reducible refine Kd.C_drewN ?_ _)|(with_reducible refine Kd.C_drew ?_)));(case side4 => exact HC0.out);rintro e w' ⟨rfl,⟨nd,rfl⟩⟩))
        go_meet
        case rel => exact ⟨_,H',⟨by have := HJ4.out;first|omega|exact Nat.le_refl _⟩,⟨by repeat (with_reducible first|exact HB.out|apply qab|apply qaa|apply qac)⟩⟩
       ·replace c18 := Bool.eq_false_iff.mpr c18
        subst c18
        have H1 : (some false) = some r := by rw [if_neg (show ¬ (false = true) by decide)] at H;exact H
        clear H
        have H := H1
        clear H1
        obtain rfl := Option.some.inj H
        go_wp2_with (first|((with_reducible refine qaj (f := 18) rfl ?_);refine goesL_ (some 32) rfl rfl Tryz.func18 (by kernel_rfl) rfl #[.slice A0 l0.length c0] rfl (by first|rfl|(simp only [List.map_toArray,List.map_cons,List.map_nil,List.length_drop,List.length_take];rfl)|simp only [List.map_toArray,List.map_cons,List.map_nil]) ?_;(with_reducible refine (depends_Print.calls kj4 _ _ l0 t357 _ (by first|exact hG|exact GL.below hG (by repeat (with_reducible first|exact HB.out|apply qab|apply qaa|apply qac)))  ?side1 ?side2 A14.out).mono ?_);(case side1 => repeat (first|exact (Kd.C_below HR0.out HB.out)|(with_reducible refine Kd.C_alloc ?_ _)|(with_reducible refine Kd.C_drewN ?_ _)|(with_reducible refine Kd.C_drew ?_)));(case side2 => exact HC0.out);rintro e w22 ⟨rfl,hb⟩;refine ⟨_,rfl,?_⟩;have n0_ := Aside0.mk (qam (by repeat (with_reducible first|exact HB.out|apply qab|apply qaa|apply qac)) hb);clear HB;have HB := n0_;clear n0_;(try clear hb);(try clear hb2);(try clear hk);(try clear hi))|((with_reducible refine qaj (f := 10) rfl ?_);refine goesL_ (some 33) rfl rfl Tryz.func10 (by kernel_rfl) rfl #[.string t357] rfl (by first|rfl|(simp only [List.map_toArray,List.map_cons,List.map_nil,List.length_drop,List.length_take];rfl)|simp only [List.map_toArray,List.map_cons,List.map_nil]) ?_;(with_reducible refine (depends_Parse.calls kj4 t357 t358 t359 _ (by first|exact hG|exact GL.below hG (by repeat (with_reducible first|exact HB.out|apply qab|apply qaa|apply qac)))  A15.out).mono ?_);rintro e w23 ⟨v360,rfl,ho0,hb⟩;refine ⟨_,rfl,?_⟩;have n0_ := Aside0.mk (Kd.S_lower ho0 (qao (by repeat (with_reducible first|exact HB.out|apply qab|apply qaa|apply qac))));have n1_ := Aside0.mk (qam (by repeat (with_reducible first|exact HB.out|apply qab|apply qaa|apply qac)) hb);clear HB;have HO361 := n0_;have HB := n1_;clear n0_ n1_;(try clear hb);(try clear hb2);(try clear hk);(try clear hi);(try clear ho0);obtain ⟨Ao24,co24,eo24⟩ := Kd.S_slice HO361.out;subst eo24)|(go_at_call 14;(with_reducible refine (keelsonlaw4_same.calls kj4 _ _ t358 _ _ l0 false _ (by first|exact hG|exact GL.below hG (by repeat (with_reducible first|exact HB.out|apply qab|apply qaa|apply qac)))  ?side1 ?side2 ?side3 ?side4 A17.out).mono ?_);(case side1 => repeat (first|exact (Kd.S_reads' HO361.out).2.2|(with_reducible refine Kd.C_alloc ?_ _)|(with_reducible refine Kd.C_drewN ?_ _)|(with_reducible refine Kd.C_drew ?_)));(case side2 => exact (Kd.S_reads' HO361.out).2.1);(case side3 => repeat (first|exact (Kd.C_below HR0.out HB.out)|(with_reducible refine Kd.C_alloc ?_ _)|(with_reducible refine Kd.C_drewN ?_ _)|(with_reducible refine Kd.C_drew ?_)));(case side4 => exact HC0.out);rintro e w' ⟨rfl,⟨nd,rfl⟩⟩))
        go_ret
        exact ⟨by first|rfl|(simp [qak,qal]<;>rfl)|(simp [*,qak,qal]<;>rfl),by repeat (with_reducible first|exact HB.out|apply qab|apply qaa|apply qac)⟩
      ·rw [if_neg c16] at H
       have c16b0 : (t359 == 0) = false := beq_eq_false_iff_ne.mpr c16
       have c16b1 : (t359 != 0) = true := bne_iff_ne.mpr c16
       (first|rw [c16b0]|(simp only [i64_w,i32_w];rw [c16b0]) | skip)
       obtain rfl := Option.some.inj H
       go_wp2_with (first|((with_reducible refine qaj (f := 18) rfl ?_);refine goesL_ (some 32) rfl rfl Tryz.func18 (by kernel_rfl) rfl #[.slice A0 l0.length c0] rfl (by first|rfl|(simp only [List.map_toArray,List.map_cons,List.map_nil,List.length_drop,List.length_take];rfl)|simp only [List.map_toArray,List.map_cons,List.map_nil]) ?_;(with_reducible refine (depends_Print.calls kj4 _ _ l0 t357 _ (by first|exact hG|exact GL.below hG (by repeat (with_reducible first|exact HB.out|apply qab|apply qaa|apply qac)))  ?side1 ?side2 A14.out).mono ?_);(case side1 => repeat (first|exact (Kd.C_below HR0.out HB.out)|(with_reducible refine Kd.C_alloc ?_ _)|(with_reducible refine Kd.C_drewN ?_ _)|(with_reducible refine Kd.C_drew ?_)));(case side2 => exact HC0.out);rintro e w25 ⟨rfl,hb⟩;refine ⟨_,rfl,?_⟩;have n0_ := Aside0.mk (qam (by repeat (with_reducible first|exact HB.out|apply qab|apply qaa|apply qac)) hb);clear HB;have HB := n0_;clear n0_;(try clear hb);(try clear hb2);(try clear hk);(try clear hi))|((with_reducible refine qaj (f := 10) rfl ?_);refine goesL_ (some 33) rfl rfl Tryz.func10 (by kernel_rfl) rfl #[.string t357] rfl (by first|rfl|(simp only [List.map_toArray,List.map_cons,List.map_nil,List.length_drop,List.length_take];rfl)|simp only [List.map_toArray,List.map_cons,List.map_nil]) ?_;(with_reducible refine (depends_Parse.calls kj4 t357 t358 t359 _ (by first|exact hG|exact GL.below hG (by repeat (with_reducible first|exact HB.out|apply qab|apply qaa|apply qac)))  A15.out).mono ?_);rintro e w26 ⟨v360,rfl,ho0,hb⟩;refine ⟨_,rfl,?_⟩;have n0_ := Aside0.mk (Kd.S_lower ho0 (qao (by repeat (with_reducible first|exact HB.out|apply qab|apply qaa|apply qac))));have n1_ := Aside0.mk (qam (by repeat (with_reducible first|exact HB.out|apply qab|apply qaa|apply qac)) hb);clear HB;have HO361 := n0_;have HB := n1_;clear n0_ n1_;(try clear hb);(try clear hb2);(try clear hk);(try clear hi);(try clear ho0)))
       go_ret
       exact ⟨by first|rfl|(simp [qak,qal]<;>rfl)|(simp [*,qak,qal]<;>rfl),by repeat (with_reducible first|exact HB.out|apply qab|apply qaa|apply qac)⟩
     ·replace c13 := Bool.eq_false_iff.mpr c13
      subst c13
      have H1 : (keelsonlaw4_DependsBack.j1 kj4 a1) = some r := by rw [if_neg (show ¬ (false = true) by decide)] at H;exact H
      clear H
      have H := H1
      clear H1
      have H' := Aside0.mk H
      clear H
      go_wp2
      go_meet
      case rel => exact ⟨_,H',⟨by have := HJ4.out;first|omega|exact Nat.le_refl _⟩,⟨by repeat (with_reducible first|exact HB.out|apply qab|apply qaa|apply qac)⟩⟩
    case rest =>
     clear HC11
     try clear c1
     try clear p2
     try clear c4
     try clear c7
     try clear c8
     try clear c9
     try clear c10
     try clear c13
     try clear c16
     try clear c16b0
     try clear c16b1
     try clear c17
     try clear c18
     try clear p2
     obtain ⟨kq,HA,HJ10,HB⟩ := hcut
     cases kq with
     | zero => exact absurd HA.out (by simp [keelsonlaw4_DependsBack.j1])
     | succ kj10 =>
      have H := HA.out
      clear HA
      simp only [keelsonlaw4_DependsBack.j1] at H
      replace H := Option.bind_eq_some_iff.mp H
      obtain ⟨⟨t363,t364⟩,A270,H⟩ := H
      replace H : ((depends_Print.f kj10 t363).bind fun t367 => ((depends_Parse.f kj10 t367).bind fun bt368 => (if t364 = 0 then (if bt368.2 = 0 then ((keelsonlaw4_same.f kj10 t363 bt368.1).bind fun t372 => (if t372 = true then ((depends_Right.f kj10 t363).bind fun t373 => (some t373)) else (some false))) else (some false)) else (if (t363.length : Int) = 0 then (some true) else (some false))))) = some r := H
      have A27 := Aside0.mk A270
      clear A270
      replace H := Option.bind_eq_some_iff.mp H
      obtain ⟨t367,A280,H⟩ := H
      replace H : ((depends_Parse.f kj10 t367).bind fun bt368 => (if t364 = 0 then (if bt368.2 = 0 then ((keelsonlaw4_same.f kj10 t363 bt368.1).bind fun t372 => (if t372 = true then ((depends_Right.f kj10 t363).bind fun t373 => (some t373)) else (some false))) else (some false)) else (if (t363.length : Int) = 0 then (some true) else (some false)))) = some r := H
      have A28 := Aside0.mk A280
      clear A280
      replace H := Option.bind_eq_some_iff.mp H
      obtain ⟨⟨t368,t369⟩,A290,H⟩ := H
      replace H : (if t364 = 0 then (if t369 = 0 then ((keelsonlaw4_same.f kj10 t363 t368).bind fun t372 => (if t372 = true then ((depends_Right.f kj10 t363).bind fun t373 => (some t373)) else (some false))) else (some false)) else (if (t363.length : Int) = 0 then (some true) else (some false))) = some r := H
      have A29 := Aside0.mk A290
      clear A290
      by_cases c30 : t364 = 0
      ·rw [if_pos c30] at H
       have c30b0 : (t364 == 0) = true := beq_iff_eq.mpr c30
       have c30b1 : (t364 != 0) = false := bne_eq_false_iff_eq.mpr c30
       clear c30
       by_cases c31 : t369 = 0
       ·rw [if_pos c31] at H
        have c31b0 : (t369 == 0) = true := beq_iff_eq.mpr c31
        have c31b1 : (t369 != 0) = false := bne_eq_false_iff_eq.mpr c31
        clear c31
        replace H := Option.bind_eq_some_iff.mp H
        obtain ⟨t372,A320,H⟩ := H
        replace H : (if t372 = true then ((depends_Right.f kj10 t363).bind fun t373 => (some t373)) else (some false)) = some r := H
        have A32 := Aside0.mk A320
        clear A320
        by_cases c33 : t372 = true
        ·subst c33
         have H1 : ((depends_Right.f kj10 t363).bind fun t373 => (some t373)) = some r := by rw [if_pos rfl] at H;exact H
         clear H
         have H := H1
         clear H1
         replace H := Option.bind_eq_some_iff.mp H
         obtain ⟨t373,A340,H⟩ := H
         replace H : (some t373) = some r := H
         have A34 := Aside0.mk A340
         clear A340
         obtain rfl := Option.some.inj H
         go_wp2_with (first|((with_reducible refine qaj (f := 10) rfl ?_);refine goesL_ (some 46) rfl rfl Tryz.func10 (by kernel_rfl) rfl #[.string a1] rfl (by first|rfl|(simp only [List.map_toArray,List.map_cons,List.map_nil,List.length_drop,List.length_take];rfl)|simp only [List.map_toArray,List.map_cons,List.map_nil]) ?_;(with_reducible refine (depends_Parse.calls kj10 a1 t363 t364 _ (by first|exact hG|exact GL.below hG (by repeat (with_reducible first|exact HB.out|apply qab|apply qaa|apply qac)))  A27.out).mono ?_);rintro e w35 ⟨v365,rfl,ho0,hb⟩;refine ⟨_,rfl,?_⟩;have n0_ := Aside0.mk (Kd.S_lower ho0 (qao (by repeat (with_reducible first|exact HB.out|apply qab|apply qaa|apply qac))));have n1_ := Aside0.mk (qam (by repeat (with_reducible first|exact HB.out|apply qab|apply qaa|apply qac)) hb);clear HB;have HO366 := n0_;have HB := n1_;clear n0_ n1_;(try clear hb);(try clear hb2);(try clear hk);(try clear hi);(try clear ho0);obtain ⟨Ao36,co36,eo36⟩ := Kd.S_slice HO366.out;subst eo36)|((with_reducible refine qaj (f := 18) rfl ?_);refine goesL_ (some 51) rfl rfl Tryz.func18 (by kernel_rfl) rfl #[.slice Ao36 t363.length co36] rfl (by first|rfl|(simp only [List.map_toArray,List.map_cons,List.map_nil,List.length_drop,List.length_take];rfl)|simp only [List.map_toArray,List.map_cons,List.map_nil]) ?_;(with_reducible refine (depends_Print.calls kj10 _ _ t363 t367 _ (by first|exact hG|exact GL.below hG (by repeat (with_reducible first|exact HB.out|apply qab|apply qaa|apply qac)))  ?side1 ?side2 A28.out).mono ?_);(case side1 => repeat (first|exact (Kd.S_reads' HO366.out).2.2|(with_reducible refine Kd.C_alloc ?_ _)|(with_reducible refine Kd.C_drewN ?_ _)|(with_reducible refine Kd.C_drew ?_)));(case side2 => exact (Kd.S_reads' HO366.out).2.1);rintro e w37 ⟨rfl,hb⟩;refine ⟨_,rfl,?_⟩;have n0_ := Aside0.mk (Kd.S_below (by (with_reducible repeat (first|apply Kd.S_alloc|apply Kd.S_drewN|apply Kd.S_drew));exact HO366.out) hb);have n1_ := Aside0.mk (qam (by repeat (with_reducible first|exact HB.out|apply qab|apply qaa|apply qac)) hb);clear HO366;clear HB;have HO366 := n0_;have HB := n1_;clear n0_ n1_;(try clear hb);(try clear hb2);(try clear hk);(try clear hi))|((with_reducible refine qaj (f := 10) rfl ?_);refine goesL_ (some 52) rfl rfl Tryz.func10 (by kernel_rfl) rfl #[.string t367] rfl (by first|rfl|(simp only [List.map_toArray,List.map_cons,List.map_nil,List.length_drop,List.length_take];rfl)|simp only [List.map_toArray,List.map_cons,List.map_nil]) ?_;(with_reducible refine (depends_Parse.calls kj10 t367 t368 t369 _ (by first|exact hG|exact GL.below hG (by repeat (with_reducible first|exact HB.out|apply qab|apply qaa|apply qac)))  A29.out).mono ?_);rintro e w38 ⟨v370,rfl,ho0,hb⟩;refine ⟨_,rfl,?_⟩;have n0_ := Aside0.mk (Kd.S_elder' (by (with_reducible repeat (first|apply Kd.S_alloc|apply Kd.S_drewN|apply Kd.S_drew));exact HO366.out) (Kd.S_base ho0) hb);have n1_ := Aside0.mk (Kd.S_lower (Kd.S_new' ho0 (Kd.S_lt (by (with_reducible repeat (first|apply Kd.S_alloc|apply Kd.S_drewN|apply Kd.S_drew));exact HO366.out))) (qao (by repeat (with_reducible first|exact HB.out|apply qab|apply qaa|apply qac))));have n2_ := Aside0.mk (qam (by repeat (with_reducible first|exact HB.out|apply qab|apply qaa|apply qac)) hb);clear HO366;clear HB;have HO366 := n0_;have HO371 := n1_;have HB := n2_;clear n0_ n1_ n2_;(try clear hb);(try clear hb2);(try clear hk);(try clear hi);(try clear ho0);obtain ⟨Ao39,co39,eo39⟩ := Kd.S_slice HO371.out;subst eo39)|(go_at_call 14;(with_reducible refine (keelsonlaw4_same.calls kj10 _ _ t363 _ _ t368 true _ (by first|exact hG|exact GL.below hG (by repeat (with_reducible first|exact HB.out|apply qab|apply qaa|apply qac)))  ?side1 ?side2 ?side3 ?side4 A32.out).mono ?_);(case side1 => repeat (first|exact (Kd.S_reads' HO366.out).2.2|(with_reducible refine Kd.C_alloc ?_ _)|(with_reducible refine Kd.C_drewN ?_ _)|(with_reducible refine Kd.C_drew ?_)));(case side2 => exact (Kd.S_reads' HO366.out).2.1);(case side3 => repeat (first|exact (Kd.S_reads' HO371.out).2.2|(with_reducible refine Kd.C_alloc ?_ _)|(with_reducible refine Kd.C_drewN ?_ _)|(with_reducible refine Kd.C_drew ?_)));(case side4 => exact (Kd.S_reads' HO371.out).2.1);rintro e w' ⟨rfl,⟨nd,rfl⟩⟩)|(go_at_call 17;(with_reducible refine (depends_Right.calls kj10 _ _ t363 t373 _ (by first|exact hG|exact GL.below hG (by repeat (with_reducible first|exact HB.out|apply qab|apply qaa|apply qac)))  ?side1 ?side2 A34.out).mono ?_);(case side1 => repeat (first|exact (Kd.S_reads' HO366.out).2.2|(with_reducible refine Kd.C_alloc ?_ _)|(with_reducible refine Kd.C_drewN ?_ _)|(with_reducible refine Kd.C_drew ?_)));(case side2 => exact (Kd.S_reads' HO366.out).2.1);rintro e w40 ⟨rfl,hb⟩;have n0_ := Aside0.mk (Kd.S_below (by (with_reducible repeat (first|apply Kd.S_alloc|apply Kd.S_drewN|apply Kd.S_drew));exact HO366.out) hb);have n1_ := Aside0.mk (Kd.S_below (by (with_reducible repeat (first|apply Kd.S_alloc|apply Kd.S_drewN|apply Kd.S_drew));exact HO371.out) hb);have n2_ := Aside0.mk (qam (by repeat (with_reducible first|exact HB.out|apply qab|apply qaa|apply qac)) hb);clear HO366;clear HO371;clear HB;have HO366 := n0_;have HO371 := n1_;have HB := n2_;clear n0_ n1_ n2_;(try clear hb);(try clear hb2);(try clear hk);(try clear hi)))
         go_ret
         exact ⟨by first|rfl|(simp [qak,qal]<;>rfl)|(simp [*,qak,qal]<;>rfl),by repeat (with_reducible first|exact HB.out|apply qab|apply qaa|apply qac)⟩
        ·replace c33 := Bool.eq_false_iff.mpr c33
         subst c33
         have H1 : (some false) = some r := by rw [if_neg (show ¬ (false = true) by decide)] at H;exact H
         clear H
         have H := H1
         clear H1
         obtain rfl := Option.some.inj H
         go_wp2_with (first|((with_reducible refine qaj (f := 10) rfl ?_);refine goesL_ (some 46) rfl rfl Tryz.func10 (by kernel_rfl) rfl #[.string a1] rfl (by first|rfl|(simp only [List.map_toArray,List.map_cons,List.map_nil,List.length_drop,List.length_take];rfl)|simp only [List.map_toArray,List.map_cons,List.map_nil]) ?_;(with_reducible refine (depends_Parse.calls kj10 a1 t363 t364 _ (by first|exact hG|exact GL.below hG (by repeat (with_reducible first|exact HB.out|apply qab|apply qaa|apply qac)))  A27.out).mono ?_);rintro e w41 ⟨v365,rfl,ho0,hb⟩;refine ⟨_,rfl,?_⟩;have n0_ := Aside0.mk (Kd.S_lower ho0 (qao (by repeat (with_reducible first|exact HB.out|apply qab|apply qaa|apply qac))));have n1_ := Aside0.mk (qam (by repeat (with_reducible first|exact HB.out|apply qab|apply qaa|apply qac)) hb);clear HB;have HO366 := n0_;have HB := n1_;clear n0_ n1_;(try clear hb);(try clear hb2);(try clear hk);(try clear hi);(try clear ho0);obtain ⟨Ao42,co42,eo42⟩ := Kd.S_slice HO366.out;subst eo42)|((with_reducible refine qaj (f := 18) rfl ?_);refine goesL_ (some 51) rfl rfl Tryz.func18 (by kernel_rfl) rfl #[.slice Ao42 t363.length co42] rfl (by first|rfl|(simp only [List.map_toArray,List.map_cons,List.map_nil,List.length_drop,List.length_take];rfl)|simp only [List.map_toArray,List.map_cons,List.map_nil]) ?_;(with_reducible refine (depends_Print.calls kj10 _ _ t363 t367 _ (by first|exact hG|exact GL.below hG (by repeat (with_reducible first|exact HB.out|apply qab|apply qaa|apply qac)))  ?side1 ?side2 A28.out).mono ?_);(case side1 => repeat (first|exact (Kd.S_reads' HO366.out).2.2|(with_reducible refine Kd.C_alloc ?_ _)|(with_reducible refine Kd.C_drewN ?_ _)|(with_reducible refine Kd.C_drew ?_)));(case side2 => exact (Kd.S_reads' HO366.out).2.1);rintro e w43 ⟨rfl,hb⟩;refine ⟨_,rfl,?_⟩;have n0_ := Aside0.mk (Kd.S_below (by (with_reducible repeat (first|apply Kd.S_alloc|apply Kd.S_drewN|apply Kd.S_drew));exact HO366.out) hb);have n1_ := Aside0.mk (qam (by repeat (with_reducible first|exact HB.out|apply qab|apply qaa|apply qac)) hb);clear HO366;clear HB;have HO366 := n0_;have HB := n1_;clear n0_ n1_;(try clear hb);(try clear hb2);(try clear hk);(try clear hi))|((with_reducible refine qaj (f := 10) rfl ?_);refine goesL_ (some 52) rfl rfl Tryz.func10 (by kernel_rfl) rfl #[.string t367] rfl (by first|rfl|(simp only [List.map_toArray,List.map_cons,List.map_nil,List.length_drop,List.length_take];rfl)|simp only [List.map_toArray,List.map_cons,List.map_nil]) ?_;(with_reducible refine (depends_Parse.calls kj10 t367 t368 t369 _ (by first|exact hG|exact GL.below hG (by repeat (with_reducible first|exact HB.out|apply qab|apply qaa|apply qac)))  A29.out).mono ?_);rintro e w44 ⟨v370,rfl,ho0,hb⟩;refine ⟨_,rfl,?_⟩;have n0_ := Aside0.mk (Kd.S_elder' (by (with_reducible repeat (first|apply Kd.S_alloc|apply Kd.S_drewN|apply Kd.S_drew));exact HO366.out) (Kd.S_base ho0) hb);have n1_ := Aside0.mk (Kd.S_lower (Kd.S_new' ho0 (Kd.S_lt (by (with_reducible repeat (first|apply Kd.S_alloc|apply Kd.S_drewN|apply Kd.S_drew));exact HO366.out))) (qao (by repeat (with_reducible first|exact HB.out|apply qab|apply qaa|apply qac))));have n2_ := Aside0.mk (qam (by repeat (with_reducible first|exact HB.out|apply qab|apply qaa|apply qac)) hb);clear HO366;clear HB;have HO366 := n0_;have HO371 := n1_;have HB := n2_;clear n0_ n1_ n2_;(try clear hb);(try clear hb2);(try clear hk);(try clear hi);(try clear ho0);obtain ⟨Ao45,co45,eo45⟩ := Kd.S_slice HO371.out;subst eo45)|(go_at_call 14;(with_reducible refine (keelsonlaw4_same.calls kj10 _ _ t363 _ _ t368 false _ (by first|exact hG|exact GL.below hG (by repeat (with_reducible first|exact HB.out|apply qab|apply qaa|apply qac)))  ?side1 ?side2 ?side3 ?side4 A32.out).mono ?_);(case side1 => repeat (first|exact (Kd.S_reads' HO366.out).2.2|(with_reducible refine Kd.C_alloc ?_ _)|(with_reducible refine Kd.C_drewN ?_ _)|(with_reducible refine Kd.C_drew ?_)));(case side2 => exact (Kd.S_reads' HO366.out).2.1);(case side3 => repeat (first|exact (Kd.S_reads' HO371.out).2.2|(with_reducible refine Kd.C_alloc ?_ _)|(with_reducible refine Kd.C_drewN ?_ _)|(with_reducible refine Kd.C_drew ?_)));(case side4 => exact (Kd.S_reads' HO371.out).2.1);rintro e w' ⟨rfl,⟨nd,rfl⟩⟩))
         go_ret
         exact ⟨by first|rfl|(simp [qak,qal]<;>rfl)|(simp [*,qak,qal]<;>rfl),by repeat (with_reducible first|exact HB.out|apply qab|apply qaa|apply qac)⟩
       ·rw [if_neg c31] at H
        have c31b0 : (t369 == 0) = false := beq_eq_false_iff_ne.mpr c31
        have c31b1 : (t369 != 0) = true := bne_iff_ne.mpr c31
        obtain rfl := Option.some.inj H
        go_wp2_with (first|((with_reducible refine qaj (f := 10) rfl ?_);refine goesL_ (some 46) rfl rfl Tryz.func10 (by kernel_rfl) rfl #[.string a1] rfl (by first|rfl|(simp only [List.map_toArray,List.map_cons,List.map_nil,List.length_drop,List.length_take];rfl)|simp only [List.map_toArray,List.map_cons,List.map_nil]) ?_;(with_reducible refine (depends_Parse.calls kj10 a1 t363 t364 _ (by first|exact hG|exact GL.below hG (by repeat (with_reducible first|exact HB.out|apply qab|apply qaa|apply qac)))  A27.out).mono ?_);rintro e w46 ⟨v365,rfl,ho0,hb⟩;refine ⟨_,rfl,?_⟩;have n0_ := Aside0.mk (Kd.S_lower ho0 (qao (by repeat (with_reducible first|exact HB.out|apply qab|apply qaa|apply qac))));have n1_ := Aside0.mk (qam (by repeat (with_reducible first|exact HB.out|apply qab|apply qaa|apply qac)) hb);clear HB;have HO366 := n0_;have HB := n1_;clear n0_ n1_;(try clear hb);(try clear hb2);(try clear hk);(try clear hi);(try clear ho0);obtain ⟨Ao47,co47,eo47⟩ := Kd.S_slice HO366.out;subst eo47)|((with_reducible refine qaj (f := 18) rfl ?_);refine goesL_ (some 51) rfl rfl Tryz.func18 (by kernel_rfl) rfl #[.slice Ao47 t363.length co47] rfl (by first|rfl|(simp only [List.map_toArray,List.map_cons,List.map_nil,List.length_drop,List.length_take];rfl)|simp only [List.map_toArray,List.map_cons,List.map_nil]) ?_;(with_reducible refine (depends_Print.calls kj10 _ _ t363 t367 _ (by first|exact hG|exact GL.below hG (by repeat (with_reducible first|exact HB.out|apply qab|apply qaa|apply qac)))  ?side1 ?side2 A28.out).mono ?_);(case side1 => repeat (first|exact (Kd.S_reads' HO366.out).2.2|(with_reducible refine Kd.C_alloc ?_ _)|(with_reducible refine Kd.C_drewN ?_ _)|(with_reducible refine Kd.C_drew ?_)));(case side2 => exact (Kd.S_reads' HO366.out).2.1);rintro e w48 ⟨rfl,hb⟩;refine ⟨_,rfl,?_⟩;have n0_ := Aside0.mk (Kd.S_below (by (with_reducible repeat (first|apply Kd.S_alloc|apply Kd.S_drewN|apply Kd.S_drew));exact HO366.out) hb);have n1_ := Aside0.mk (qam (by repeat (with_reducible first|exact HB.out|apply qab|apply qaa|apply qac)) hb);clear HO366;clear HB;have HO366 := n0_;have HB := n1_;clear n0_ n1_;(try clear hb);(try clear hb2);(try clear hk);(try clear hi))|((with_reducible refine qaj (f := 10) rfl ?_);refine goesL_ (some 52) rfl rfl Tryz.func10 (by kernel_rfl) rfl #[.string t367] rfl (by first|rfl|(simp only [List.map_toArray,List.map_cons,List.map_nil,List.length_drop,List.length_take];rfl)|simp only [List.map_toArray,List.map_cons,List.map_nil]) ?_;(with_reducible refine (depends_Parse.calls kj10 t367 t368 t369 _ (by first|exact hG|exact GL.below hG (by repeat (with_reducible first|exact HB.out|apply qab|apply qaa|apply qac)))  A29.out).mono ?_);rintro e w49 ⟨v370,rfl,ho0,hb⟩;refine ⟨_,rfl,?_⟩;have n0_ := Aside0.mk (Kd.S_elder' (by (with_reducible repeat (first|apply Kd.S_alloc|apply Kd.S_drewN|apply Kd.S_drew));exact HO366.out) (Kd.S_base ho0) hb);have n1_ := Aside0.mk (Kd.S_lower (Kd.S_new' ho0 (Kd.S_lt (by (with_reducible repeat (first|apply Kd.S_alloc|apply Kd.S_drewN|apply Kd.S_drew));exact HO366.out))) (qao (by repeat (with_reducible first|exact HB.out|apply qab|apply qaa|apply qac))));have n2_ := Aside0.mk (qam (by repeat (with_reducible first|exact HB.out|apply qab|apply qaa|apply qac)) hb);clear HO366;clear HB;have HO366 := n0_;have HO371 := n1_;have HB := n2_;clear n0_ n1_ n2_;(try clear hb);(try clear hb2);(try clear hk);(try clear hi);(try clear ho0)))
        go_ret
        exact ⟨by first|rfl|(simp [qak,qal]<;>rfl)|(simp [*,qak,qal]<;>rfl),by repeat (with_reducible first|exact HB.out|apply qab|apply qaa|apply qac)⟩
      ·rw [if_neg c30] at H
       have c30b0 : (t364 == 0) = false := beq_eq_false_iff_ne.mpr c30
       have c30b1 : (t364 != 0) = true := bne_iff_ne.mpr c30
       by_cases c50 : (t363.length : Int) = 0
       ·rw [if_pos c50] at H
        have c50b0 : ((t363.length : Int) == 0) = true := beq_iff_eq.mpr c50
        have c50b1 : ((t363.length : Int) != 0) = false := bne_eq_false_iff_eq.mpr c50
        clear c50
        obtain rfl := Option.some.inj H
        go_wp2_with (first|((with_reducible refine qaj (f := 10) rfl ?_);refine goesL_ (some 46) rfl rfl Tryz.func10 (by kernel_rfl) rfl #[.string a1] rfl (by first|rfl|(simp only [List.map_toArray,List.map_cons,List.map_nil,List.length_drop,List.length_take];rfl)|simp only [List.map_toArray,List.map_cons,List.map_nil]) ?_;(with_reducible refine (depends_Parse.calls kj10 a1 t363 t364 _ (by first|exact hG|exact GL.below hG (by repeat (with_reducible first|exact HB.out|apply qab|apply qaa|apply qac)))  A27.out).mono ?_);rintro e w51 ⟨v365,rfl,ho0,hb⟩;refine ⟨_,rfl,?_⟩;have n0_ := Aside0.mk (Kd.S_lower ho0 (qao (by repeat (with_reducible first|exact HB.out|apply qab|apply qaa|apply qac))));have n1_ := Aside0.mk (qam (by repeat (with_reducible first|exact HB.out|apply qab|apply qaa|apply qac)) hb);clear HB;have HO366 := n0_;have HB := n1_;clear n0_ n1_;(try clear hb);(try clear hb2);(try clear hk);(try clear hi);(try clear ho0);obtain ⟨Ao52,co52,eo52⟩ := Kd.S_slice HO366.out;subst eo52)|((with_reducible refine qaj (f := 18) rfl ?_);refine goesL_ (some 51) rfl rfl Tryz.func18 (by kernel_rfl) rfl #[.slice Ao52 t363.length co52] rfl (by first|rfl|(simp only [List.map_toArray,List.map_cons,List.map_nil,List.length_drop,List.length_take];rfl)|simp only [List.map_toArray,List.map_cons,List.map_nil]) ?_;(with_reducible refine (depends_Print.calls kj10 _ _ t363 t367 _ (by first|exact hG|exact GL.below hG (by repeat (with_reducible first|exact HB.out|apply qab|apply qaa|apply qac)))  ?side1 ?side2 A28.out).mono ?_);(case side1 => repeat (first|exact (Kd.S_reads' HO366.out).2.2|(with_reducible refine Kd.C_alloc ?_ _)|(with_reducible refine Kd.C_drewN ?_ _)|(with_reducible refine Kd.C_drew ?_)));(case side2 => exact (Kd.S_reads' HO366.out).2.1);rintro e w53 ⟨rfl,hb⟩;refine ⟨_,rfl,?_⟩;have n0_ := Aside0.mk (Kd.S_below (by (with_reducible repeat (first|apply Kd.S_alloc|apply Kd.S_drewN|apply Kd.S_drew));exact HO366.out) hb);have n1_ := Aside0.mk (qam (by repeat (with_reducible first|exact HB.out|apply qab|apply qaa|apply qac)) hb);clear HO366;clear HB;have HO366 := n0_;have HB := n1_;clear n0_ n1_;(try clear hb);(try clear hb2);(try clear hk);(try clear hi))|((with_reducible refine qaj (f := 10) rfl ?_);refine goesL_ (some 52) rfl rfl Tryz.func10 (by kernel_rfl) rfl #[.string t367] rfl (by first|rfl|(simp only [List.map_toArray,List.map_cons,List.map_nil,List.length_drop,List.length_take];rfl)|simp only [List.map_toArray,List.map_cons,List.map_nil]) ?_;(with_reducible refine (depends_Parse.calls kj10 t367 t368 t369 _ (by first|exact hG|exact GL.below hG (by repeat (with_reducible first|exact HB.out|apply qab|apply qaa|apply qac)))  A29.out).mono ?_);rintro e w54 ⟨v370,rfl,ho0,hb⟩;refine ⟨_,rfl,?_⟩;have n0_ := Aside0.mk (Kd.S_elder' (by (with_reducible repeat (first|apply Kd.S_alloc|apply Kd.S_drewN|apply Kd.S_drew));exact HO366.out) (Kd.S_base ho0) hb);have n1_ := Aside0.mk (Kd.S_lower (Kd.S_new' ho0 (Kd.S_lt (by (with_reducible repeat (first|apply Kd.S_alloc|apply Kd.S_drewN|apply Kd.S_drew));exact HO366.out))) (qao (by repeat (with_reducible first|exact HB.out|apply qab|apply qaa|apply qac))));have n2_ := Aside0.mk (qam (by repeat (with_reducible first|exact HB.out|apply qab|apply qaa|apply qac)) hb);clear HO366;clear HB;have HO366 := n0_;have HO371 := n1_;have HB := n2_;clear n0_ n1_ n2_;(try clear hb);(try clear hb2);(try clear hk);(try clear hi);(try clear ho0)))
        go_ret
        exact ⟨by first|rfl|(simp [qak,qal]<;>rfl)|(simp [*,qak,qal]<;>rfl),by repeat (with_reducible first|exact HB.out|apply qab|apply qaa|apply qac)⟩
       ·rw [if_neg c50] at H
        have c50b0 : ((t363.length : Int) == 0) = false := beq_eq_false_iff_ne.mpr c50
        have c50b1 : ((t363.length : Int) != 0) = true := bne_iff_ne.mpr c50
        have c50b2 : ¬ (t363 = []) := fun h_ => c50 (by rw [h_];rfl)
        obtain rfl := Option.some.inj H
        go_wp2_with (first|((with_reducible refine qaj (f := 10) rfl ?_);refine goesL_ (some 46) rfl rfl Tryz.func10 (by kernel_rfl) rfl #[.string a1] rfl (by first|rfl|(simp only [List.map_toArray,List.map_cons,List.map_nil,List.length_drop,List.length_take];rfl)|simp only [List.map_toArray,List.map_cons,List.map_nil]) ?_;(with_reducible refine (depends_Parse.calls kj10 a1 t363 t364 _ (by first|exact hG|exact GL.below hG (by repeat (with_reducible first|exact HB.out|apply qab|apply qaa|apply qac)))  A27.out).mono ?_);rintro e w55 ⟨v365,rfl,ho0,hb⟩;refine ⟨_,rfl,?_⟩;have n0_ := Aside0.mk (Kd.S_lower ho0 (qao (by repeat (with_reducible first|exact HB.out|apply qab|apply qaa|apply qac))));have n1_ := Aside0.mk (qam (by repeat (with_reducible first|exact HB.out|apply qab|apply qaa|apply qac)) hb);clear HB;have HO366 := n0_;have HB := n1_;clear n0_ n1_;(try clear hb);(try clear hb2);(try clear hk);(try clear hi);(try clear ho0);obtain ⟨Ao56,co56,eo56⟩ := Kd.S_slice HO366.out;subst eo56)|((with_reducible refine qaj (f := 18) rfl ?_);refine goesL_ (some 51) rfl rfl Tryz.func18 (by kernel_rfl) rfl #[.slice Ao56 t363.length co56] rfl (by first|rfl|(simp only [List.map_toArray,List.map_cons,List.map_nil,List.length_drop,List.length_take];rfl)|simp only [List.map_toArray,List.map_cons,List.map_nil]) ?_;(with_reducible refine (depends_Print.calls kj10 _ _ t363 t367 _ (by first|exact hG|exact GL.below hG (by repeat (with_reducible first|exact HB.out|apply qab|apply qaa|apply qac)))  ?side1 ?side2 A28.out).mono ?_);(case side1 => repeat (first|exact (Kd.S_reads' HO366.out).2.2|(with_reducible refine Kd.C_alloc ?_ _)|(with_reducible refine Kd.C_drewN ?_ _)|(with_reducible refine Kd.C_drew ?_)));(case side2 => exact (Kd.S_reads' HO366.out).2.1);rintro e w57 ⟨rfl,hb⟩;refine ⟨_,rfl,?_⟩;have n0_ := Aside0.mk (Kd.S_below (by (with_reducible repeat (first|apply Kd.S_alloc|apply Kd.S_drewN|apply Kd.S_drew));exact HO366.out) hb);have n1_ := Aside0.mk (qam (by repeat (with_reducible first|exact HB.out|apply qab|apply qaa|apply qac)) hb);clear HO366;clear HB;have HO366 := n0_;have HB := n1_;clear n0_ n1_;(try clear hb);(try clear hb2);(try clear hk);(try clear hi))|((with_reducible refine qaj (f := 10) rfl ?_);refine goesL_ (some 52) rfl rfl Tryz.func10 (by kernel_rfl) rfl #[.string t367] rfl (by first|rfl|(simp only [List.map_toArray,List.map_cons,List.map_nil,List.length_drop,List.length_take];rfl)|simp only [List.map_toArray,List.map_cons,List.map_nil]) ?_;(with_reducible refine (depends_Parse.calls kj10 t367 t368 t369 _ (by first|exact hG|exact GL.below hG (by repeat (with_reducible first|exact HB.out|apply qab|apply qaa|apply qac)))  A29.out).mono ?_);rintro e w58 ⟨v370,rfl,ho0,hb⟩;refine ⟨_,rfl,?_⟩;have n0_ := Aside0.mk (Kd.S_elder' (by (with_reducible repeat (first|apply Kd.S_alloc|apply Kd.S_drewN|apply Kd.S_drew));exact HO366.out) (Kd.S_base ho0) hb);have n1_ := Aside0.mk (Kd.S_lower (Kd.S_new' ho0 (Kd.S_lt (by (with_reducible repeat (first|apply Kd.S_alloc|apply Kd.S_drewN|apply Kd.S_drew));exact HO366.out))) (qao (by repeat (with_reducible first|exact HB.out|apply qab|apply qaa|apply qac))));have n2_ := Aside0.mk (qam (by repeat (with_reducible first|exact HB.out|apply qab|apply qaa|apply qac)) hb);clear HO366;clear HB;have HO366 := n0_;have HO371 := n1_;have HB := n2_;clear n0_ n1_ n2_;(try clear hb);(try clear hb2);(try clear hk);(try clear hi);(try clear ho0)))
        go_ret
        exact ⟨by first|rfl|(simp [qak,qal]<;>rfl)|(simp [*,qak,qal]<;>rfl),by repeat (with_reducible first|exact HB.out|apply qab|apply qaa|apply qac)⟩
end Go.Proofs.YtjbbgekkombpnaaGreatDoor.PA
