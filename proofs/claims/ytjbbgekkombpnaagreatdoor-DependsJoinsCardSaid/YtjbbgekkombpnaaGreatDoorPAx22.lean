
import Derived.Test.YtjbbgekkombpnaaGreatDoorPAx0
import Derived.Test.YtjbbgekkombpnaaGreatDoorPAx6
import Derived.Test.YtjbbgekkombpnaaGreatDoorPAx11
import Derived.Test.YtjbbgekkombpnaaGreatDoorPAx18
import Derived.Test.YtjbbgekkombpnaaGreatDoorPAx19
import Derived.Test.YtjbbgekkombpnaaGreatDoorPAx21
noncomputable section
namespace Go.Proofs.YtjbbgekkombpnaaGreatDoor.PA
open Go.RowKit Go.Proofs.YtjbbgekkombpnaaGreatDoorW.PrintWords Go.Proofs.YtjbbgekkombpnaaGreatDoorW.PrintLast Go.Proofs.YtjbbgekkombpnaaGreatDoorW.PrintMore
attribute [local go_sem] max2_int min2_int max_two min_two max_three min_three max_four min_four
set_option maxHeartbeats 8000000
set_option maxRecDepth 100000
set_option linter.unusedVariables false
set_option linter.unusedSimpArgs false
mutual
def keelsonlaw4_DependsJoins.j0 : Nat → List (S39) → Bool → Bool → Option (Bool)
 | 0,_,_,_ => none
 | k + 1,x0,x3,x22 => if x22 = true then (some x3) else (keelsonlaw4_DependsJoins.l0 k x0 ([] : List (S39)) ([] : List (S39)) ([] : List (List (S39))) 0)
def keelsonlaw4_DependsJoins.l0 : Nat → List (S39) → List (S39) → List (S39) → List (List (S39)) → Int → Option (Bool)
 | 0,_,_,_,_,_ => none
 | k + 1,x0,x5,x6,x7,x8 => if x8 < (x0.length : Int) then (keelsonlaw4_DependsJoins.j2 k x0 x5 x6 x7 x8 (decide ((x5.length : Int) < 12))) else (keelsonlaw4_DependsJoins.j2 k x0 x5 x6 x7 x8 false)
def keelsonlaw4_DependsJoins.j2 : Nat → List (S39) → List (S39) → List (S39) → List (List (S39)) → Int → Bool → Option (Bool)
 | 0,_,_,_,_,_,_ => none
 | k + 1,x0,x5,x6,x7,x8,x32 => if x32 = true then (if 0 ≤ x8 then (if x8 < (x0.length : Int) then ((keelsonref3_Right.f k ((rd_T39 x0 x8).f0) ((rd_T39 x0 x8).f1) ((rd_T39 x0 x8).f2)).bind fun t423 => (if t423 = true then (if x5.length < 3518437208883 then ((some (x5 ++ [(⟨(rd_T39 x0 x8).f0,(rd_T39 x0 x8).f1,(rd_T39 x0 x8).f2⟩ : S39)] : List (S39))).bind fun y425 => (if x7.length < 5864062014805 then ((some (x7 ++ [(([(⟨(rd_T39 x0 x8).f0,(rd_T39 x0 x8).f1,(rd_T39 x0 x8).f2⟩ : S39)] : List (S39)))] : List (List (S39)))).bind fun y432 => (if ((rd_T39 x0 x8).f1) = 0 then (if x6.length < 3518437208883 then (keelsonlaw4_DependsJoins.l0 k x0 y425 (x6 ++ [(⟨(rd_T39 x0 x8).f0,(rd_T39 x0 x8).f1,(rd_T39 x0 x8).f2⟩ : S39)]) y432 (wrap64 (x8 + 1))) else (none)) else (if ((rd_T39 x0 x8).f1) = 3 then (if x6.length < 3518437208883 then (keelsonlaw4_DependsJoins.l0 k x0 y425 (x6 ++ [(⟨(rd_T39 x0 x8).f0,(rd_T39 x0 x8).f1,(rd_T39 x0 x8).f2⟩ : S39)]) y432 (wrap64 (x8 + 1))) else (none)) else (keelsonlaw4_DependsJoins.l0 k x0 y425 x6 y432 (wrap64 (x8 + 1)))))) else (none))) else (none)) else (keelsonlaw4_DependsJoins.l0 k x0 x5 x6 x7 (wrap64 (x8 + 1))))) else (none)) else (none)) else ((depends_Join.f k x5).bind fun t445 => ((depends_Atoms.f k t445).bind fun bt446 => ((depends_Open.f k x7 x6).bind fun t450 => (keelsonlaw4_DependsJoins.l1 k x5 bt446.1 bt446.2 t450 0))))
def keelsonlaw4_DependsJoins.l1 : Nat → List (S39) → List (S39) → Int → List Int → Int → Option (Bool)
 | 0,_,_,_,_,_ => none
 | k + 1,x5,x10,x11,x12,x13 => if x13 < (x12.length : Int) then (if 0 ≤ x13 then (if 0 ≤ (rd x12 x13) then (if (rd x12 x13) < (x5.length : Int) then (if ((rd_T39 x5 (rd x12 x13)).f1) = 0 then (some false) else (if ((rd_T39 x5 (rd x12 x13)).f1) = 3 then (some false) else (keelsonlaw4_DependsJoins.l1 k x5 x10 x11 x12 (wrap64 (x13 + 1))))) else (none)) else (none)) else (none)) else (if x11 = 0 then ((keelsonlaw4_sameAtoms.f k x10 x5).bind fun t457 => (if t457 = true then ((depends_Join.f k ([] : List (S39))).bind fun t458 => (some (t458.toList == ([] : List UInt8)))) else (some false))) else (some false))
end
def keelsonlaw4_DependsJoins.f (k : Nat) (l0 : List (S39)) : Option (Bool) := (keelsonlaw4_shown.f k).bind fun t420 => ((keelsonlaw4_light.f k l0).bind fun t421 => (if t420 = true then (keelsonlaw4_DependsJoins.j0 k l0 t420 (!t421)) else (keelsonlaw4_DependsJoins.j0 k l0 t420 true)))
theorem keelsonlaw4_DependsJoins.mono_l : ∀ k,(∀ y0 y1 y2,LeO (keelsonlaw4_DependsJoins.j0 k y0 y1 y2) (keelsonlaw4_DependsJoins.j0 (k + 1) y0 y1 y2)) ∧ (∀ y0 y1 y2 y3 y4,LeO (keelsonlaw4_DependsJoins.l0 k y0 y1 y2 y3 y4) (keelsonlaw4_DependsJoins.l0 (k + 1) y0 y1 y2 y3 y4)) ∧ (∀ y0 y1 y2 y3 y4 y5,LeO (keelsonlaw4_DependsJoins.j2 k y0 y1 y2 y3 y4 y5) (keelsonlaw4_DependsJoins.j2 (k + 1) y0 y1 y2 y3 y4 y5)) ∧ (∀ y0 y1 y2 y3 y4,LeO (keelsonlaw4_DependsJoins.l1 k y0 y1 y2 y3 y4) (keelsonlaw4_DependsJoins.l1 (k + 1) y0 y1 y2 y3 y4))
 | 0 => ⟨fun _ _ _ r h => by simp [keelsonlaw4_DependsJoins.j0] at h,fun _ _ _ _ _ r h => by simp [keelsonlaw4_DependsJoins.l0] at h,fun _ _ _ _ _ _ r h => by simp [keelsonlaw4_DependsJoins.j2] at h,fun _ _ _ _ _ r h => by simp [keelsonlaw4_DependsJoins.l1] at h⟩
 | k + 1 => by
  obtain ⟨ih0,ih1,ih2,ih3⟩ := keelsonlaw4_DependsJoins.mono_l k
  refine ⟨?_,?_,?_,?_⟩
  ·intro y0 y1 y2
   unfold keelsonlaw4_DependsJoins.j0
   repeat' first
   | (with_reducible exact ih0 _ _ _)
   | (with_reducible exact ih1 _ _ _ _ _)
   | (with_reducible exact ih2 _ _ _ _ _ _)
   | (with_reducible exact ih3 _ _ _ _ _)
   | (with_reducible exact depends_Atoms.mono _ _)
   | (with_reducible exact depends_Join.mono _ _)
   | (with_reducible exact depends_Open.mono _ _ _)
   | (with_reducible exact keelsonlaw4_light.mono _ _)
   | (with_reducible exact keelsonlaw4_sameAtoms.mono _ _ _)
   | (with_reducible exact keelsonlaw4_shown.mono _)
   | (with_reducible exact keelsonref3_Right.mono _ _ _ _)
   | (with_reducible exact LeO.refl _)
   | (with_reducible exact LeO.none _)
   | (with_reducible refine LeO.ite ?_ ?_)
   | (with_reducible refine LeO.bind ?_ (fun _ => ?_))
   | exact ih0 _ _ _
   | exact ih1 _ _ _ _ _
   | exact ih2 _ _ _ _ _ _
   | exact ih3 _ _ _ _ _
   | exact depends_Atoms.mono _ _
   | exact depends_Join.mono _ _
   | exact depends_Open.mono _ _ _
   | exact keelsonlaw4_light.mono _ _
   | exact keelsonlaw4_sameAtoms.mono _ _ _
   | exact keelsonlaw4_shown.mono _
   | exact keelsonref3_Right.mono _ _ _ _
   | exact LeO.none _
   | refine LeO.ite ?_ ?_
   | refine LeO.bind ?_ (fun _ => ?_)
  ·intro y0 y1 y2 y3 y4
   unfold keelsonlaw4_DependsJoins.l0
   repeat' first
   | (with_reducible exact ih0 _ _ _)
   | (with_reducible exact ih1 _ _ _ _ _)
   | (with_reducible exact ih2 _ _ _ _ _ _)
   | (with_reducible exact ih3 _ _ _ _ _)
   | (with_reducible exact depends_Atoms.mono _ _)
   | (with_reducible exact depends_Join.mono _ _)
   | (with_reducible exact depends_Open.mono _ _ _)
   | (with_reducible exact keelsonlaw4_light.mono _ _)
   | (with_reducible exact keelsonlaw4_sameAtoms.mono _ _ _)
   | (with_reducible exact keelsonlaw4_shown.mono _)
   | (with_reducible exact keelsonref3_Right.mono _ _ _ _)
   | (with_reducible exact LeO.refl _)
   | (with_reducible exact LeO.none _)
   | (with_reducible refine LeO.ite ?_ ?_)
   | (with_reducible refine LeO.bind ?_ (fun _ => ?_))
   | exact ih0 _ _ _
   | exact ih1 _ _ _ _ _
   | exact ih2 _ _ _ _ _ _
   | exact ih3 _ _ _ _ _
   | exact depends_Atoms.mono _ _
   | exact depends_Join.mono _ _
   | exact depends_Open.mono _ _ _
   | exact keelsonlaw4_light.mono _ _
   | exact keelsonlaw4_sameAtoms.mono _ _ _
   | exact keelsonlaw4_shown.mono _
   | exact keelsonref3_Right.mono _ _ _ _
   | exact LeO.none _
   | refine LeO.ite ?_ ?_
   | refine LeO.bind ?_ (fun _ => ?_)
  ·intro y0 y1 y2 y3 y4 y5
   unfold keelsonlaw4_DependsJoins.j2
   repeat' first
   | (with_reducible exact ih0 _ _ _)
   | (with_reducible exact ih1 _ _ _ _ _)
   | (with_reducible exact ih2 _ _ _ _ _ _)
   | (with_reducible exact ih3 _ _ _ _ _)
   | (with_reducible exact depends_Atoms.mono _ _)
   | (with_reducible exact depends_Join.mono _ _)
   | (with_reducible exact depends_Open.mono _ _ _)
   | (with_reducible exact keelsonlaw4_light.mono _ _)
   | (with_reducible exact keelsonlaw4_sameAtoms.mono _ _ _)
   | (with_reducible exact keelsonlaw4_shown.mono _)
   | (with_reducible exact keelsonref3_Right.mono _ _ _ _)
   | (with_reducible exact LeO.refl _)
   | (with_reducible exact LeO.none _)
   | (with_reducible refine LeO.ite ?_ ?_)
   | (with_reducible refine LeO.bind ?_ (fun _ => ?_))
   | exact ih0 _ _ _
   | exact ih1 _ _ _ _ _
   | exact ih2 _ _ _ _ _ _
   | exact ih3 _ _ _ _ _
   | exact depends_Atoms.mono _ _
   | exact depends_Join.mono _ _
   | exact depends_Open.mono _ _ _
   | exact keelsonlaw4_light.mono _ _
   | exact keelsonlaw4_sameAtoms.mono _ _ _
   | exact keelsonlaw4_shown.mono _
   | exact keelsonref3_Right.mono _ _ _ _
   | exact LeO.none _
   | refine LeO.ite ?_ ?_
   | refine LeO.bind ?_ (fun _ => ?_)
  ·intro y0 y1 y2 y3 y4
   unfold keelsonlaw4_DependsJoins.l1
   repeat' first
   | (with_reducible exact ih0 _ _ _)
   | (with_reducible exact ih1 _ _ _ _ _)
   | (with_reducible exact ih2 _ _ _ _ _ _)
   | (with_reducible exact ih3 _ _ _ _ _)
   | (with_reducible exact depends_Atoms.mono _ _)
   | (with_reducible exact depends_Join.mono _ _)
   | (with_reducible exact depends_Open.mono _ _ _)
   | (with_reducible exact keelsonlaw4_light.mono _ _)
   | (with_reducible exact keelsonlaw4_sameAtoms.mono _ _ _)
   | (with_reducible exact keelsonlaw4_shown.mono _)
   | (with_reducible exact keelsonref3_Right.mono _ _ _ _)
   | (with_reducible exact LeO.refl _)
   | (with_reducible exact LeO.none _)
   | (with_reducible refine LeO.ite ?_ ?_)
   | (with_reducible refine LeO.bind ?_ (fun _ => ?_))
   | exact ih0 _ _ _
   | exact ih1 _ _ _ _ _
   | exact ih2 _ _ _ _ _ _
   | exact ih3 _ _ _ _ _
   | exact depends_Atoms.mono _ _
   | exact depends_Join.mono _ _
   | exact depends_Open.mono _ _ _
   | exact keelsonlaw4_light.mono _ _
   | exact keelsonlaw4_sameAtoms.mono _ _ _
   | exact keelsonlaw4_shown.mono _
   | exact keelsonref3_Right.mono _ _ _ _
   | exact LeO.none _
   | refine LeO.ite ?_ ?_
   | refine LeO.bind ?_ (fun _ => ?_)
theorem keelsonlaw4_DependsJoins.mono : ∀ a0 k,LeO (keelsonlaw4_DependsJoins.f k a0) (keelsonlaw4_DependsJoins.f (k + 1) a0) := by
 intro a0 k
 obtain ⟨ih0,ih1,ih2,ih3⟩ := keelsonlaw4_DependsJoins.mono_l k
 unfold keelsonlaw4_DependsJoins.f
 repeat' first
   | (with_reducible exact ih0 _ _ _)
   | (with_reducible exact ih1 _ _ _ _ _)
   | (with_reducible exact ih2 _ _ _ _ _ _)
   | (with_reducible exact ih3 _ _ _ _ _)
   | (with_reducible exact depends_Atoms.mono _ _)
   | (with_reducible exact depends_Join.mono _ _)
   | (with_reducible exact depends_Open.mono _ _ _)
   | (with_reducible exact keelsonlaw4_light.mono _ _)
   | (with_reducible exact keelsonlaw4_sameAtoms.mono _ _ _)
   | (with_reducible exact keelsonlaw4_shown.mono _)
   | (with_reducible exact keelsonref3_Right.mono _ _ _ _)
   | (with_reducible exact LeO.refl _)
   | (with_reducible exact LeO.none _)
   | (with_reducible refine LeO.ite ?_ ?_)
   | (with_reducible refine LeO.bind ?_ (fun _ => ?_))
   | exact ih0 _ _ _
   | exact ih1 _ _ _ _ _
   | exact ih2 _ _ _ _ _ _
   | exact ih3 _ _ _ _ _
   | exact depends_Atoms.mono _ _
   | exact depends_Join.mono _ _
   | exact depends_Open.mono _ _ _
   | exact keelsonlaw4_light.mono _ _
   | exact keelsonlaw4_sameAtoms.mono _ _ _
   | exact keelsonlaw4_shown.mono _
   | exact keelsonref3_Right.mono _ _ _ _
   | exact LeO.none _
   | refine LeO.ite ?_ ?_
   | refine LeO.bind ?_ (fun _ => ?_)
theorem keelsonlaw4_DependsJoins.calls (k : Nat) (A0 : Option Addr) (c0 : Nat) (l0 : List (S39)) (r : Bool) (w : World) (hG : GL w) (hr0 : Kd.C k39 w A0 l0.length l0) (hc0 : l0.length ≤ c0) (h : keelsonlaw4_DependsJoins.f k l0 = some r) :
  Calls Tryz.prog 8 #[.slice A0 l0.length c0] w fun e w' => e = .returned (.bool r) ∧ Below w.heap.size w w' := by
 have hu39 := Tryz.underlying39
 have HR0 := Aside0.mk hr0
 have HC0 := Aside0.mk hc0
 clear hr0 hc0
 have HB := Aside0.mk (Below.refl w.heap.size w)
 have H : ((keelsonlaw4_shown.f k).bind fun t420 => ((keelsonlaw4_light.f k l0).bind fun t421 => (if t420 = true then (keelsonlaw4_DependsJoins.j0 k l0 t420 (!t421)) else (keelsonlaw4_DependsJoins.j0 k l0 t420 true)))) = some r := h
 clear h
 replace H := Option.bind_eq_some_iff.mp H
 obtain ⟨t420,A20,H⟩ := H
 replace H : ((keelsonlaw4_light.f k l0).bind fun t421 => (if t420 = true then (keelsonlaw4_DependsJoins.j0 k l0 t420 (!t421)) else (keelsonlaw4_DependsJoins.j0 k l0 t420 true))) = some r := H
 have A2 := Aside0.mk A20
 clear A20
 replace H := Option.bind_eq_some_iff.mp H
 obtain ⟨t421,A30,H⟩ := H
 replace H : (if t420 = true then (keelsonlaw4_DependsJoins.j0 k l0 t420 (!t421)) else (keelsonlaw4_DependsJoins.j0 k l0 t420 true)) = some r := H
 have A3 := Aside0.mk A30
 clear A30
 have HC4 := Aside0.mk H
 clear H
 go_enter Tryz.func8,Tryz.ntmps8
 go_upto_region 3 with (first|((with_reducible refine qak (f := 9) rfl ?_);refine goesL_ (some 14) rfl rfl Tryz.func9 (by kernel_rfl) rfl #[] rfl (by first|rfl|(simp only [List.map_toArray,List.map_cons,List.map_nil,List.length_drop,List.length_take];rfl)|simp only [List.map_toArray,List.map_cons,List.map_nil]) ?_;(with_reducible refine (keelsonlaw4_shown.calls k  t420 _ (by first|exact hG|exact GL.below hG (by repeat (with_reducible first|exact HB.out|apply qab|apply qaa|apply qac)))  A2.out).mono ?_);rintro e w5 ⟨rfl,hb⟩;refine ⟨_,rfl,?_⟩;have n0_ := Aside0.mk (qan (by repeat (with_reducible first|exact HB.out|apply qab|apply qaa|apply qac)) hb);clear HB;have HB := n0_;clear n0_;(try clear hb);(try clear hb2);(try clear hk);(try clear hi))|((with_reducible refine qak (f := 19) rfl ?_);refine goesL_ (some 16) rfl rfl Tryz.func19 (by kernel_rfl) rfl #[.slice A0 l0.length c0] rfl (by first|rfl|(simp only [List.map_toArray,List.map_cons,List.map_nil,List.length_drop,List.length_take];rfl)|simp only [List.map_toArray,List.map_cons,List.map_nil]) ?_;(with_reducible refine (keelsonlaw4_light.calls k _ _ l0 t421 _ (by first|exact hG|exact GL.below hG (by repeat (with_reducible first|exact HB.out|apply qab|apply qaa|apply qac)))  ?side1 ?side2 A3.out).mono ?_);(case side1 => repeat (first|exact (Kd.C_below HR0.out HB.out)|(with_reducible refine Kd.C_alloc ?_ _)|(with_reducible refine Kd.C_drewN ?_ _)|(with_reducible refine Kd.C_drew ?_)));(case side2 => exact HC0.out);rintro e w' ⟨rfl,⟨nd,rfl⟩⟩;refine ⟨_,rfl,?_⟩))
 (try simp only [Act.put,List.setIfInBounds_toArray,List.set_cons_zero,List.set_cons_succ])
 go_cut [22] (fun v22 wc => ∃ (kq : Nat) (x22_3 : Bool),v22 = .bool x22_3 ∧ Aside0 (keelsonlaw4_DependsJoins.j0 kq l0 t420 x22_3 = some r) ∧ Aside0 (kq ≤ k) ∧ Aside0 (Below w.heap.size w wc))
 case first =>
  have H := HC4.out
  clear HC4
  by_cases c6 : t420 = true
  ·subst c6
   have H1 : (keelsonlaw4_DependsJoins.j0 k l0 true (!t421)) = some r := by rw [if_pos rfl] at H;exact H
   clear H
   have H := H1
   clear H1
   have H' := Aside0.mk H
   clear H
   go_wp2
   go_meet
   case rel => exact ⟨_,(!t421),(by first|rfl|(simp;done)|(simp [*];done)|(simp [qaj];done)),H',⟨by first|omega|exact Nat.le_refl _⟩,⟨by repeat (with_reducible first|exact HB.out|apply qab|apply qaa|apply qac)⟩⟩
  ·replace c6 := Bool.eq_false_iff.mpr c6
   subst c6
   have H1 : (keelsonlaw4_DependsJoins.j0 k l0 false true) = some r := by rw [if_neg (show ¬ (false = true) by decide)] at H;exact H
   clear H
   have H := H1
   clear H1
   have H' := Aside0.mk H
   clear H
   go_wp2
   go_meet
   case rel => exact ⟨_,(true),(by first|rfl|(simp;done)|(simp [*];done)|(simp [qaj];done)),H',⟨by first|omega|exact Nat.le_refl _⟩,⟨by repeat (with_reducible first|exact HB.out|apply qab|apply qaa|apply qac)⟩⟩
 case rest =>
  clear HC4
  try clear c1
  try clear p2
  try clear c6
  obtain ⟨kq,x22_3,rfl,HA,HJ3,HB⟩ := hcut
  cases kq with
  | zero => exact absurd HA.out (by simp [keelsonlaw4_DependsJoins.j0])
  | succ kj3 =>
   have H := HA.out
   clear HA
   simp only [keelsonlaw4_DependsJoins.j0] at H
   by_cases c7 : x22_3 = true
   ·subst c7
    have H1 : (some t420) = some r := by rw [if_pos rfl] at H;exact H
    clear H
    have H := H1
    clear H1
    obtain rfl := Option.some.inj H
    go_wp2
    go_ret
    exact ⟨by first|rfl|(simp [qal,qam]<;>rfl)|(simp [*,qal,qam]<;>rfl),by repeat (with_reducible first|exact HB.out|apply qab|apply qaa|apply qac)⟩
   ·replace c7 := Bool.eq_false_iff.mpr c7
    subst c7
    have H1 : (keelsonlaw4_DependsJoins.l0 kj3 l0 ([] : List (S39)) ([] : List (S39)) ([] : List (List (S39))) 0) = some r := by rw [if_neg (show ¬ (false = true) by decide)] at H;exact H
    clear H
    have H := H1
    clear H1
    have H' := Aside0.mk H
    clear H
    go_wp2
    go_loopg [5,6,7,8] kj3 (fun kq v5 v6 v7 v8 w' => ∃ (x5_2 : List (S39)) (x6_2 : List (S39)) (x7_2 : List (List (S39))) (x8_2 : Int),v8 = .int .i64 x8_2 ∧ Aside0 (keelsonlaw4_DependsJoins.l0 kq l0 x5_2 x6_2 x7_2 x8_2 = some r) ∧ Aside0 (kq ≤ kj3) ∧ Aside0 (Kd.R k39 39 w' w.heap.size (fun k_ => some k_ ≠ (v6 : Value).ownBlock) v5 x5_2) ∧ Aside0 (Kd.R k39 39 w' w.heap.size (fun k_ => some k_ ≠ (v5 : Value).ownBlock) v6 x6_2) ∧ Aside0 (Kd.S (Kd.slice 39 k39) 48 w' w.heap.size (fun k_ => some k_ ≠ (v5 : Value).ownBlock ∧ some k_ ≠ (v6 : Value).ownBlock) v7 x7_2) ∧ Aside0 (Below w.heap.size w w'))
    case atStart => exact ⟨(([] : List (S39))),(([] : List (S39))),(([] : List (List (S39)))),(0),(by first|rfl|(simp;done)|(simp [*];done)|(simp [qaj];done)),H',⟨Nat.le_refl _⟩,⟨by first|exact Kd.R_nil _ _ _ _ _|exact Kd.N_nil _ _ _ _ _|exact Kd.V_nil _ _ _ _ _|exact Kd.Q_nil _ _ _ _ _|exact Kd.S_nil _ _ _ _ _⟩,⟨by first|exact Kd.R_nil _ _ _ _ _|exact Kd.N_nil _ _ _ _ _|exact Kd.V_nil _ _ _ _ _|exact Kd.Q_nil _ _ _ _ _|exact Kd.S_nil _ _ _ _ _⟩,⟨by first|exact Kd.S_nil _ _ _ _ _|exact Kd.N_nil _ _ _ _ _|exact Kd.V_nil _ _ _ _ _|exact Kd.Q_nil _ _ _ _ _|exact Kd.R_nil _ _ _ _ _⟩,⟨by repeat (with_reducible first|exact HB.out|apply qab|apply qaa|apply qac)⟩⟩
    case round =>
     clear H'
     try clear c1
     try clear p2
     try clear c6
     try clear c7
     try clear p2
     obtain ⟨x5_2,x6_2,x7_2,x8_2,rfl,HA,HK2,HO_5,HO_6,HO_7,HB⟩ := hrel
     cases gk with
     | zero => exact absurd HA.out (by simp [keelsonlaw4_DependsJoins.l0])
     | succ k2 =>
      have H := HA.out
      clear HA
      simp only [keelsonlaw4_DependsJoins.l0] at H
      have HC8 := Aside0.mk H
      clear H
      go_upto_region 9 with (fail)
      go_cut [32] (fun v32 wc => ∃ (kq : Nat) (x32_7 : Bool),v32 = .bool x32_7 ∧ Aside0 (keelsonlaw4_DependsJoins.j2 kq l0 x5_2 x6_2 x7_2 x8_2 x32_7 = some r) ∧ Aside0 (kq ≤ k2) ∧ Aside0 (Kd.R k39 39 wc w.heap.size (fun k_ => some k_ ≠ (u6 : Value).ownBlock) u5 x5_2) ∧ Aside0 (Kd.R k39 39 wc w.heap.size (fun k_ => some k_ ≠ (u5 : Value).ownBlock) u6 x6_2) ∧ Aside0 (Kd.S (Kd.slice 39 k39) 48 wc w.heap.size (fun k_ => some k_ ≠ (u5 : Value).ownBlock ∧ some k_ ≠ (u6 : Value).ownBlock) u7 x7_2) ∧ Aside0 (Below w.heap.size w wc))
      case first =>
       have H := HC8.out
       clear HC8
       by_cases c9 : x8_2 < (l0.length : Int)
       ·rw [if_pos c9] at H
        have c9b0 : decide (x8_2 < (l0.length : Int)) = true := decide_eq_true c9
        clear c9
        (first|rw [c9b0]|(simp only [i64_w,i32_w];rw [c9b0]) | skip)
        have H' := Aside0.mk H
        clear H
        obtain ⟨Ao10,co10,eo10⟩ := Kd.R_slice HO_5.out
        subst eo10
        go_wp2
        go_meet
        case rel => exact ⟨_,(decide ((x5_2.length : Int) < 12)),(by first|rfl|(simp;done)|(simp [*];done)|(simp [qaj];done)),H',⟨by have := HJ3.out;have := HK2.out;first|omega|exact Nat.le_refl _⟩,⟨by (with_reducible repeat (first|apply Kd.R_alloc|apply Kd.R_drewN|apply Kd.R_drew));exact HO_5.out⟩,⟨by (with_reducible repeat (first|apply Kd.R_alloc|apply Kd.R_drewN|apply Kd.R_drew));exact HO_6.out⟩,⟨by (with_reducible repeat (first|apply Kd.S_alloc|apply Kd.S_drewN|apply Kd.S_drew));exact HO_7.out⟩,⟨by repeat (with_reducible first|exact HB.out|apply qab|apply qaa|apply qac)⟩⟩
       ·rw [if_neg c9] at H
        have c9b0 : decide (x8_2 < (l0.length : Int)) = false := decide_eq_false c9
        clear c9
        (first|rw [c9b0]|(simp only [i64_w,i32_w];rw [c9b0]) | skip)
        have H' := Aside0.mk H
        clear H
        go_wp2
        go_meet
        case rel => exact ⟨_,(false),(by first|rfl|(simp;done)|(simp [*];done)|(simp [qaj];done)),H',⟨by have := HJ3.out;have := HK2.out;first|omega|exact Nat.le_refl _⟩,⟨by (with_reducible repeat (first|apply Kd.R_alloc|apply Kd.R_drewN|apply Kd.R_drew));exact HO_5.out⟩,⟨by (with_reducible repeat (first|apply Kd.R_alloc|apply Kd.R_drewN|apply Kd.R_drew));exact HO_6.out⟩,⟨by (with_reducible repeat (first|apply Kd.S_alloc|apply Kd.S_drewN|apply Kd.S_drew));exact HO_7.out⟩,⟨by repeat (with_reducible first|exact HB.out|apply qab|apply qaa|apply qac)⟩⟩
      case rest =>
       clear HC8
       try clear c1
       try clear p2
       try clear c6
       try clear c7
       try clear c8
       try clear c9
       try clear c9b0
       try clear p2
       obtain ⟨kq,x32_7,rfl,HA,HJ7,HO_5,HO_6,HO_7,HB⟩ := hcut
       cases kq with
       | zero => exact absurd HA.out (by simp [keelsonlaw4_DependsJoins.j2])
       | succ kj7 =>
        have H := HA.out
        clear HA
        simp only [keelsonlaw4_DependsJoins.j2] at H
        by_cases c11 : x32_7 = true
        ·subst c11
         have H1 : (if 0 ≤ x8_2 then (if x8_2 < (l0.length : Int) then ((keelsonref3_Right.f kj7 ((rd_T39 l0 x8_2).f0) ((rd_T39 l0 x8_2).f1) ((rd_T39 l0 x8_2).f2)).bind fun t423 => (if t423 = true then (if x5_2.length < 3518437208883 then ((some (x5_2 ++ [(⟨(rd_T39 l0 x8_2).f0,(rd_T39 l0 x8_2).f1,(rd_T39 l0 x8_2).f2⟩ : S39)] : List (S39))).bind fun y425 => (if x7_2.length < 5864062014805 then ((some (x7_2 ++ [(([(⟨(rd_T39 l0 x8_2).f0,(rd_T39 l0 x8_2).f1,(rd_T39 l0 x8_2).f2⟩ : S39)] : List (S39)))] : List (List (S39)))).bind fun y432 => (if ((rd_T39 l0 x8_2).f1) = 0 then (if x6_2.length < 3518437208883 then (keelsonlaw4_DependsJoins.l0 kj7 l0 y425 (x6_2 ++ [(⟨(rd_T39 l0 x8_2).f0,(rd_T39 l0 x8_2).f1,(rd_T39 l0 x8_2).f2⟩ : S39)]) y432 (wrap64 (x8_2 + 1))) else (none)) else (if ((rd_T39 l0 x8_2).f1) = 3 then (if x6_2.length < 3518437208883 then (keelsonlaw4_DependsJoins.l0 kj7 l0 y425 (x6_2 ++ [(⟨(rd_T39 l0 x8_2).f0,(rd_T39 l0 x8_2).f1,(rd_T39 l0 x8_2).f2⟩ : S39)]) y432 (wrap64 (x8_2 + 1))) else (none)) else (keelsonlaw4_DependsJoins.l0 kj7 l0 y425 x6_2 y432 (wrap64 (x8_2 + 1)))))) else (none))) else (none)) else (keelsonlaw4_DependsJoins.l0 kj7 l0 x5_2 x6_2 x7_2 (wrap64 (x8_2 + 1))))) else (none)) else (none)) = some r := by rw [if_pos rfl] at H;exact H
         clear H
         have H := H1
         clear H1
         by_cases c12 : 0 ≤ x8_2
         ·rw [if_pos c12] at H
          have c12b0 : decide (0 ≤ x8_2) = true := decide_eq_true c12
          clear c12
          by_cases c13 : x8_2 < (l0.length : Int)
          ·rw [if_pos c13] at H
           have c13b0 : decide (x8_2 < (l0.length : Int)) = true := decide_eq_true c13
           clear c13
           replace H := Option.bind_eq_some_iff.mp H
           obtain ⟨t423,A140,H⟩ := H
           replace H : (if t423 = true then (if x5_2.length < 3518437208883 then ((some (x5_2 ++ [(⟨(rd_T39 l0 x8_2).f0,(rd_T39 l0 x8_2).f1,(rd_T39 l0 x8_2).f2⟩ : S39)] : List (S39))).bind fun y425 => (if x7_2.length < 5864062014805 then ((some (x7_2 ++ [(([(⟨(rd_T39 l0 x8_2).f0,(rd_T39 l0 x8_2).f1,(rd_T39 l0 x8_2).f2⟩ : S39)] : List (S39)))] : List (List (S39)))).bind fun y432 => (if ((rd_T39 l0 x8_2).f1) = 0 then (if x6_2.length < 3518437208883 then (keelsonlaw4_DependsJoins.l0 kj7 l0 y425 (x6_2 ++ [(⟨(rd_T39 l0 x8_2).f0,(rd_T39 l0 x8_2).f1,(rd_T39 l0 x8_2).f2⟩ : S39)]) y432 (wrap64 (x8_2 + 1))) else (none)) else (if ((rd_T39 l0 x8_2).f1) = 3 then (if x6_2.length < 3518437208883 then (keelsonlaw4_DependsJoins.l0 kj7 l0 y425 (x6_2 ++ [(⟨(rd_T39 l0 x8_2).f0,(rd_T39 l0 x8_2).f1,(rd_T39 l0 x8_2).f2⟩ : S39)]) y432 (wrap64 (x8_2 + 1))) else (none)) else (keelsonlaw4_DependsJoins.l0 kj7 l0 y425 x6_2 y432 (wrap64 (x8_2 + 1)))))) else (none))) else (none)) else (keelsonlaw4_DependsJoins.l0 kj7 l0 x5_2 x6_2 x7_2 (wrap64 (x8_2 + 1)))) = some r := H
           have A14 := Aside0.mk A140
           clear A140
           by_cases c15 : t423 = true
           ·subst c15
            have H1 : (if x5_2.length < 3518437208883 then ((some (x5_2 ++ [(⟨(rd_T39 l0 x8_2).f0,(rd_T39 l0 x8_2).f1,(rd_T39 l0 x8_2).f2⟩ : S39)] : List (S39))).bind fun y425 => (if x7_2.length < 5864062014805 then ((some (x7_2 ++ [(([(⟨(rd_T39 l0 x8_2).f0,(rd_T39 l0 x8_2).f1,(rd_T39 l0 x8_2).f2⟩ : S39)] : List (S39)))] : List (List (S39)))).bind fun y432 => (if ((rd_T39 l0 x8_2).f1) = 0 then (if x6_2.length < 3518437208883 then (keelsonlaw4_DependsJoins.l0 kj7 l0 y425 (x6_2 ++ [(⟨(rd_T39 l0 x8_2).f0,(rd_T39 l0 x8_2).f1,(rd_T39 l0 x8_2).f2⟩ : S39)]) y432 (wrap64 (x8_2 + 1))) else (none)) else (if ((rd_T39 l0 x8_2).f1) = 3 then (if x6_2.length < 3518437208883 then (keelsonlaw4_DependsJoins.l0 kj7 l0 y425 (x6_2 ++ [(⟨(rd_T39 l0 x8_2).f0,(rd_T39 l0 x8_2).f1,(rd_T39 l0 x8_2).f2⟩ : S39)]) y432 (wrap64 (x8_2 + 1))) else (none)) else (keelsonlaw4_DependsJoins.l0 kj7 l0 y425 x6_2 y432 (wrap64 (x8_2 + 1)))))) else (none))) else (none)) = some r := by rw [if_pos rfl] at H;exact H
            clear H
            have H := H1
            clear H1
            by_cases c16 : x5_2.length < 3518437208883
            ·rw [if_pos c16] at H
             have LMc16 := Aside0.mk c16
             clear c16
             obtain ⟨y425,hy425⟩ : ∃ y_ : List (S39),y_ = (x5_2 ++ [(⟨(rd_T39 l0 x8_2).f0,(rd_T39 l0 x8_2).f1,(rd_T39 l0 x8_2).f2⟩ : S39)]) := ⟨_,rfl⟩
             replace H : (if x7_2.length < 5864062014805 then ((some (x7_2 ++ [(([(⟨(rd_T39 l0 x8_2).f0,(rd_T39 l0 x8_2).f1,(rd_T39 l0 x8_2).f2⟩ : S39)] : List (S39)))] : List (List (S39)))).bind fun y432 => (if ((rd_T39 l0 x8_2).f1) = 0 then (if x6_2.length < 3518437208883 then (keelsonlaw4_DependsJoins.l0 kj7 l0 y425 (x6_2 ++ [(⟨(rd_T39 l0 x8_2).f0,(rd_T39 l0 x8_2).f1,(rd_T39 l0 x8_2).f2⟩ : S39)]) y432 (wrap64 (x8_2 + 1))) else (none)) else (if ((rd_T39 l0 x8_2).f1) = 3 then (if x6_2.length < 3518437208883 then (keelsonlaw4_DependsJoins.l0 kj7 l0 y425 (x6_2 ++ [(⟨(rd_T39 l0 x8_2).f0,(rd_T39 l0 x8_2).f1,(rd_T39 l0 x8_2).f2⟩ : S39)]) y432 (wrap64 (x8_2 + 1))) else (none)) else (keelsonlaw4_DependsJoins.l0 kj7 l0 y425 x6_2 y432 (wrap64 (x8_2 + 1)))))) else (none)) = some r := by first|(rw [hy425];with_reducible exact H)|(have H2_ := (Option.bind_some _ _).symm.trans H;rw [hy425];with_reducible exact H2_)|(have H2_ := (Option.bind_some _ _).symm.trans H;with_reducible exact H2_) | with_reducible exact H|(rw [hy425];exact H)|exact H
             have Ny425 := Aside0.mk hy425
             clear hy425
             obtain ⟨y429,hy429⟩ : ∃ y_ : List (S39),y_ = (([(⟨(rd_T39 l0 x8_2).f0,(rd_T39 l0 x8_2).f1,(rd_T39 l0 x8_2).f2⟩ : S39)] : List (S39))) := ⟨_,rfl⟩
             replace H : (if x7_2.length < 5864062014805 then ((some (x7_2 ++ [y429] : List (List (S39)))).bind fun y432 => (if ((rd_T39 l0 x8_2).f1) = 0 then (if x6_2.length < 3518437208883 then (keelsonlaw4_DependsJoins.l0 kj7 l0 y425 (x6_2 ++ [(⟨(rd_T39 l0 x8_2).f0,(rd_T39 l0 x8_2).f1,(rd_T39 l0 x8_2).f2⟩ : S39)]) y432 (wrap64 (x8_2 + 1))) else (none)) else (if ((rd_T39 l0 x8_2).f1) = 3 then (if x6_2.length < 3518437208883 then (keelsonlaw4_DependsJoins.l0 kj7 l0 y425 (x6_2 ++ [(⟨(rd_T39 l0 x8_2).f0,(rd_T39 l0 x8_2).f1,(rd_T39 l0 x8_2).f2⟩ : S39)]) y432 (wrap64 (x8_2 + 1))) else (none)) else (keelsonlaw4_DependsJoins.l0 kj7 l0 y425 x6_2 y432 (wrap64 (x8_2 + 1)))))) else (none)) = some r := by first|(rw [hy429];with_reducible exact H)|(have H2_ := (Option.bind_some _ _).symm.trans H;rw [hy429];with_reducible exact H2_)|(have H2_ := (Option.bind_some _ _).symm.trans H;with_reducible exact H2_) | with_reducible exact H|(rw [hy429];exact H)|exact H
             have Ny429 := Aside0.mk hy429
             clear hy429
             by_cases c17 : x7_2.length < 5864062014805
             ·rw [if_pos c17] at H
              have LMc17 := Aside0.mk c17
              clear c17
              obtain ⟨y432,hy432⟩ : ∃ y_ : List (List (S39)),y_ = (x7_2 ++ [y429]) := ⟨_,rfl⟩
              replace H : (if ((rd_T39 l0 x8_2).f1) = 0 then (if x6_2.length < 3518437208883 then (keelsonlaw4_DependsJoins.l0 kj7 l0 y425 (x6_2 ++ [(⟨(rd_T39 l0 x8_2).f0,(rd_T39 l0 x8_2).f1,(rd_T39 l0 x8_2).f2⟩ : S39)]) y432 (wrap64 (x8_2 + 1))) else (none)) else (if ((rd_T39 l0 x8_2).f1) = 3 then (if x6_2.length < 3518437208883 then (keelsonlaw4_DependsJoins.l0 kj7 l0 y425 (x6_2 ++ [(⟨(rd_T39 l0 x8_2).f0,(rd_T39 l0 x8_2).f1,(rd_T39 l0 x8_2).f2⟩ : S39)]) y432 (wrap64 (x8_2 + 1))) else (none)) else (keelsonlaw4_DependsJoins.l0 kj7 l0 y425 x6_2 y432 (wrap64 (x8_2 + 1))))) = some r := by first|(rw [hy432];with_reducible exact H)|(have H2_ := (Option.bind_some _ _).symm.trans H;rw [hy432];with_reducible exact H2_)|(have H2_ := (Option.bind_some _ _).symm.trans H;with_reducible exact H2_) | with_reducible exact H|(rw [hy432];exact H)|exact H
              have Ny432 := Aside0.mk hy432
              clear hy432
              by_cases c18 : ((rd_T39 l0 x8_2).f1) = 0
              ·rw [if_pos c18] at H
               have c18b0 : (((rd_T39 l0 x8_2).f1) == 0) = true := beq_iff_eq.mpr c18
               have c18b1 : (((rd_T39 l0 x8_2).f1) != 0) = false := bne_eq_false_iff_eq.mpr c18
               clear c18
               by_cases c19 : x6_2.length < 3518437208883
               ·rw [if_pos c19] at H
                have LMc19 := Aside0.mk c19
                clear c19
                obtain ⟨y437,hy437⟩ : ∃ y_ : List (S39),y_ = (x6_2 ++ [(⟨(rd_T39 l0 x8_2).f0,(rd_T39 l0 x8_2).f1,(rd_T39 l0 x8_2).f2⟩ : S39)]) := ⟨_,rfl⟩
                replace H : (keelsonlaw4_DependsJoins.l0 kj7 l0 y425 y437 y432 (wrap64 (x8_2 + 1))) = some r := by first|(rw [hy437];with_reducible exact H)|(have H2_ := (Option.bind_some _ _).symm.trans H;rw [hy437];with_reducible exact H2_)|(have H2_ := (Option.bind_some _ _).symm.trans H;with_reducible exact H2_) | with_reducible exact H|(rw [hy437];exact H)|exact H
                have Ny437 := Aside0.mk hy437
                clear hy437
                have H' := Aside0.mk H
                clear H
                have p422 : 0 ≤ (x8_2 : Int) := of_decide_eq_true (by assumption)
                have q422 : x8_2 < (l0.length : Int) := of_decide_eq_true (by assumption)
                obtain ⟨ad422,e422,hx422_0,hx422_1,hx422_2⟩ := at_T39 HR0.out x8_2 p422 q422
                cases e422
                replace hx422_0 := (HB.out.cell (World.block_lt_of_cell? w _ hx422_0)).trans hx422_0
                replace hx422_1 := (HB.out.cell (World.block_lt_of_cell? w _ hx422_1)).trans hx422_1
                replace hx422_2 := (HB.out.cell (World.block_lt_of_cell? w _ hx422_2)).trans hx422_2
                replace p422 := eq_true p422
                replace q422 := eq_true q422
                go_wp2_with (first|((with_reducible refine qak (f := 20) rfl ?_);refine goesL_ (some 39) rfl rfl Tryz.func20 (by kernel_rfl) rfl #[.agg #[.string ((rd_T39 l0 x8_2).f0),.int .i64 ((rd_T39 l0 x8_2).f1),.string ((rd_T39 l0 x8_2).f2)]] rfl (by first|rfl|(simp only [List.map_toArray,List.map_cons,List.map_nil,List.length_drop,List.length_take];rfl)|simp only [List.map_toArray,List.map_cons,List.map_nil]) ?_;(with_reducible refine (keelsonref3_Right.calls kj7 ((rd_T39 l0 x8_2).f0) ((rd_T39 l0 x8_2).f1) ((rd_T39 l0 x8_2).f2) true _ (by first|exact hG|exact GL.below hG (by repeat (with_reducible first|exact HB.out|apply qab|apply qaa|apply qac)))  A14.out).mono ?_);rintro e w20 ⟨rfl,hb⟩;refine ⟨_,rfl,?_⟩;have n0_ := Aside0.mk (Kd.R_below (by (with_reducible repeat (first|apply Kd.R_alloc|apply Kd.R_drewN|apply Kd.R_drew));exact HO_5.out) hb);have n1_ := Aside0.mk (Kd.R_below (by (with_reducible repeat (first|apply Kd.R_alloc|apply Kd.R_drewN|apply Kd.R_drew));exact HO_6.out) hb);have n2_ := Aside0.mk (Kd.S_below (by (with_reducible repeat (first|apply Kd.S_alloc|apply Kd.S_drewN|apply Kd.S_drew));exact HO_7.out) hb);have n3_ := Aside0.mk (qan (by repeat (with_reducible first|exact HB.out|apply qab|apply qaa|apply qac)) hb);clear HO_5;clear HO_6;clear HO_7;clear HB;have HO_5 := n0_;have HO_6 := n1_;have HO_7 := n2_;have HB := n3_;clear n0_ n1_ n2_ n3_;(try clear hb);(try clear hb2);(try clear hk);(try clear hi);have p424 : 0 ≤ (x8_2 : Int) := of_decide_eq_true (by assumption);have q424 : x8_2 < (l0.length : Int) := of_decide_eq_true (by assumption);obtain ⟨ad424,e424,hx424_0,hx424_1,hx424_2⟩ := at_T39 HR0.out x8_2 p424 q424;obtain rfl : ad422 = ad424 := (by injection e424);replace hx424_0 := (HB.out.cell (World.block_lt_of_cell? w _ hx424_0)).trans hx424_0;replace hx424_1 := (HB.out.cell (World.block_lt_of_cell? w _ hx424_1)).trans hx424_1;replace hx424_2 := (HB.out.cell (World.block_lt_of_cell? w _ hx424_2)).trans hx424_2;replace p424 := eq_true p424;replace q424 := eq_true q424)|((with_reducible refine gate_builtin (b := .append) (xs := #[.tmp 41,.tmp 46]) rfl ?_);(try (refine gate_guard (by rfl) ?_;dsimp only));at_builtin;refine Kd.R_append k39 (w0 := w) w.heap.size rfl (.tmp 41) (.tmp 46) 27 39 (.agg #[(.string ⟨#[]⟩),(.int .i64 0),(.string ⟨#[]⟩)]) 40 rfl Tryz.underlying27 info39 rfl (by decide) (by omega) u5 x5_2 (⟨(rd_T39 l0 x8_2).f0,(rd_T39 l0 x8_2).f1,(rd_T39 l0 x8_2).f2⟩ : S39) [.string ((rd_T39 l0 x8_2).f0),.int .i64 ((rd_T39 l0 x8_2).f1),.string ((rd_T39 l0 x8_2).f2)] (fun k_ => some k_ ≠ (u6 : Value).ownBlock) (fun _ => False) rfl rfl ?aP (fun _ hk => hk.elim) ?aF ?aO ?aB ?aS ?aL ?_;(case aP => exact k39_mkM _ _ _ (⟨(rd_T39 l0 x8_2).f0,(rd_T39 l0 x8_2).f1,(rd_T39 l0 x8_2).f2⟩ : S39));(case aB => exact (by repeat (with_reducible first|exact HB.out|apply qab|apply qaa|apply qac)));(case aF => exact (fun k_ hk => Kd.fresh' (Kd.R_lt (by (with_reducible repeat (first|apply Kd.R_alloc|apply Kd.R_drewN|apply Kd.R_drew));exact HO_6.out)) k_ hk));(case aO => exact (by (with_reducible repeat (first|apply Kd.R_alloc|apply Kd.R_drewN|apply Kd.R_drew));exact HO_5.out));(case aS => exact (qao (by repeat (with_reducible first|exact HB.out|apply qab|apply qaa|apply qac))));(case aL => have := LMc16.out;omega);intro v426 w21 ho hb hg hat;rw [← Ny425.out] at ho;have n0_ := Aside0.mk (Kd.R_after (ok := (fun _ => True)) (by (with_reducible repeat (first|apply Kd.R_alloc|apply Kd.R_drewN|apply Kd.R_drew));exact Kd.R_mono HO_6.out (fun _ hk => ⟨trivial,hk⟩)) hg hat);have n1_ := Aside0.mk (Kd.S_after (ok := (fun k_ => some k_ ≠ (u6 : Value).ownBlock)) (by (with_reducible repeat (first|apply Kd.S_alloc|apply Kd.S_drewN|apply Kd.S_drew));exact Kd.S_mono HO_7.out (fun _ hk => ⟨hk.2,hk.1⟩)) hg hat);have n2_ := Aside0.mk (hb);have n3_ := Aside0.mk (ho);clear HO_6;clear HO_7;clear HB;clear HO_5;have HO_6 := n0_;have HO_7 := n1_;have HB := n2_;have HO427 := n3_;clear n0_ n1_ n2_ n3_;clear ho hb hg hat;have p428 : 0 ≤ (x8_2 : Int) := of_decide_eq_true (by assumption);have q428 : x8_2 < (l0.length : Int) := of_decide_eq_true (by assumption);obtain ⟨ad428,e428,hx428_0,hx428_1,hx428_2⟩ := at_T39 HR0.out x8_2 p428 q428;obtain rfl : ad422 = ad428 := (by injection e428);replace hx428_0 := (HB.out.cell (World.block_lt_of_cell? w _ hx428_0)).trans hx428_0;replace hx428_1 := (HB.out.cell (World.block_lt_of_cell? w _ hx428_1)).trans hx428_1;replace hx428_2 := (HB.out.cell (World.block_lt_of_cell? w _ hx428_2)).trans hx428_2;replace p428 := eq_true p428;replace q428 := eq_true q428)|((with_reducible refine gate_dst (N := 53) rfl ?_);(try (refine gate_guard (by rfl) ?_;dsimp only));refine Kd.R_lit k39 _ 39 ?hg (N := 53) ?hd (xs := ([(⟨(rd_T39 l0 x8_2).f0,(rd_T39 l0 x8_2).f1,(rd_T39 l0 x8_2).f2⟩ : S39)] : List (S39))) (inner := [.string ((rd_T39 l0 x8_2).f0),.int .i64 ((rd_T39 l0 x8_2).f1),.string ((rd_T39 l0 x8_2).f2)]) (ok := fun _ => True) (okp := fun _ => True) ?hr ?hp (fun _ hk => hk) trivial (Below.refl _ _) (Nat.le_refl _) (by simp) ?_;(case hd => rfl);(case hg => rfl);(case hr => first|(go_simp;done)|(go_simp;rfl));(case hp => exact (Reps.c3 (show Kd.M k39 _ _ _ (⟨(rd_T39 l0 x8_2).f0,(rd_T39 l0 x8_2).f1,(rd_T39 l0 x8_2).f2⟩ : S39) [.string ((rd_T39 l0 x8_2).f0),.int .i64 ((rd_T39 l0 x8_2).f1),.string ((rd_T39 l0 x8_2).f2)] from (k39_mkM _ _ _ (⟨(rd_T39 l0 x8_2).f0,(rd_T39 l0 x8_2).f1,(rd_T39 l0 x8_2).f2⟩ : S39) )) (Reps.none _ _)));intro v430 w22 ho23 hb hg_ hnew_;clear hg_ hnew_;(first|rw [← Ny429.out] at ho23|(simp only [Int.reduceToNat] at ho23;rw [← Ny429.out] at ho23));have n0_ := Aside0.mk (Kd.R_elder' (by (with_reducible repeat (first|apply Kd.R_alloc|apply Kd.R_drewN|apply Kd.R_drew));exact HO_6.out) (Kd.R_base ho23) hb);have n1_ := Aside0.mk (Kd.S_elder' (by (with_reducible repeat (first|apply Kd.S_alloc|apply Kd.S_drewN|apply Kd.S_drew));exact HO_7.out) (Kd.R_base ho23) hb);have n2_ := Aside0.mk (Kd.R_elder' (by (with_reducible repeat (first|apply Kd.R_alloc|apply Kd.R_drewN|apply Kd.R_drew));exact HO427.out) (Kd.R_base ho23) hb);have n3_ := Aside0.mk (Kd.R_lower (Kd.R_new' (Kd.R_new' ho23 (Kd.R_lt (by (with_reducible repeat (first|apply Kd.R_alloc|apply Kd.R_drewN|apply Kd.R_drew));exact HO_6.out))) (Kd.R_lt (by (with_reducible repeat (first|apply Kd.R_alloc|apply Kd.R_drewN|apply Kd.R_drew));exact HO427.out))) (qao (by repeat (with_reducible first|exact HB.out|apply qab|apply qaa|apply qac))));have n4_ := Aside0.mk (qan (by repeat (with_reducible first|exact HB.out|apply qab|apply qaa|apply qac)) hb);clear HO_6;clear HO_7;clear HO427;clear HB;have HO_6 := n0_;have HO_7 := n1_;have HO427 := n2_;have HO431 := n3_;have HB := n4_;clear n0_ n1_ n2_ n3_ n4_;clear hb ho23;obtain ⟨Ao25,co25,eo25⟩ := Kd.R_slice HO431.out;subst eo25)|((with_reducible refine gate_builtin (b := .append) (xs := #[.tmp 48,.tmp 54]) rfl ?_);(try (refine gate_guard (by rfl) ?_;dsimp only));at_builtin;refine Kd.S_append (Kd.slice 39 k39) (w0 := w) w.heap.size rfl (.tmp 48) (.tmp 54) 23 48 (.slice none 0 0) 24 rfl Tryz.underlying23 info48 rfl (by decide) (by omega) u7 x7_2 y429 [.slice Ao25 y429.length co25] (fun k_ => some k_ ≠ (u6 : Value).ownBlock ∧ some k_ ≠ (v426 : Value).ownBlock) (fun k_ => some k_ = (.slice Ao25 y429.length co25 : Value).ownBlock) rfl rfl ?aP (fun k_ hk_ => ((Kd.R_mono (ok' := fun k_ => ((fun k_ => some k_ ≠ (u6 : Value).ownBlock ∧ some k_ ≠ (v426 : Value).ownBlock)) k_ ∧ some k_ ≠ (u7 : Value).ownBlock) (Kd.R_apart' (HO431.out) (Kd.S_typed HO_7.out) (by decide)) (fun k_ hk => ⟨⟨hk.1.1.2,hk.1.2⟩,hk.2⟩))).1 k_ hk_.symm) ?aF ?aO ?aB ?aS ?aL ?_;(case aP => exact Kd.M_row (Kd.R_mono (Kd.R_tight rfl (Kd.R_mono (ok' := fun k_ => ((fun k_ => some k_ ≠ (u6 : Value).ownBlock ∧ some k_ ≠ (v426 : Value).ownBlock)) k_ ∧ some k_ ≠ (u7 : Value).ownBlock) (Kd.R_apart' (HO431.out) (Kd.S_typed HO_7.out) (by decide)) (fun k_ hk => ⟨⟨hk.1.1.2,hk.1.2⟩,hk.2⟩))) (fun _ h_ => h_)));(case aB => exact (by repeat (with_reducible first|exact HB.out|apply qab|apply qaa|apply qac)));(case aF => exact (fun k_ hk => ⟨Kd.fresh' (Kd.R_lt (by (with_reducible repeat (first|apply Kd.R_alloc|apply Kd.R_drewN|apply Kd.R_drew));exact HO_6.out)) k_ hk,Kd.fresh' (Kd.R_lt (by (with_reducible repeat (first|apply Kd.R_alloc|apply Kd.R_drewN|apply Kd.R_drew));exact HO427.out)) k_ hk⟩));(case aO => exact (by (with_reducible repeat (first|apply Kd.S_alloc|apply Kd.S_drewN|apply Kd.S_drew));exact Kd.S_mono HO_7.out (fun k_ hk => ⟨⟨hk.1.1,hk.1.2⟩,fun e_ => hk.2 e_⟩)));(case aS => exact (qao (by repeat (with_reducible first|exact HB.out|apply qab|apply qaa|apply qac))));(case aL => have := LMc17.out;omega);intro v433 w24 ho hb hg hat;rw [← Ny432.out] at ho;have n0_ := Aside0.mk (Kd.R_over' (by (with_reducible repeat (first|apply Kd.R_alloc|apply Kd.R_drewN|apply Kd.R_drew));exact HO_6.out) (Kd.S_typed (by (with_reducible repeat (first|apply Kd.S_alloc|apply Kd.S_drewN|apply Kd.S_drew));exact HO_7.out)) (by decide) hg);have n1_ := Aside0.mk (Kd.R_over' (by (with_reducible repeat (first|apply Kd.R_alloc|apply Kd.R_drewN|apply Kd.R_drew));exact HO427.out) (Kd.S_typed (by (with_reducible repeat (first|apply Kd.S_alloc|apply Kd.S_drewN|apply Kd.S_drew));exact HO_7.out)) (by decide) hg);have n2_ := Aside0.mk (hb);have n3_ := Aside0.mk (ho);clear HO_6;clear HO427;clear HB;clear HO_7;clear HO431;have HO_6 := n0_;have HO427 := n1_;have HB := n2_;have HO434 := n3_;clear n0_ n1_ n2_ n3_;clear ho hb hg hat;have p435 : 0 ≤ (x8_2 : Int) := of_decide_eq_true (by assumption);have q435 : x8_2 < (l0.length : Int) := of_decide_eq_true (by assumption);obtain ⟨ad435,e435,hx435_0,hx435_1,hx435_2⟩ := at_T39 HR0.out x8_2 p435 q435;obtain rfl : ad422 = ad435 := (by injection e435);replace hx435_0 := (HB.out.cell (World.block_lt_of_cell? w _ hx435_0)).trans hx435_0;replace hx435_1 := (HB.out.cell (World.block_lt_of_cell? w _ hx435_1)).trans hx435_1;replace hx435_2 := (HB.out.cell (World.block_lt_of_cell? w _ hx435_2)).trans hx435_2;replace p435 := eq_true p435;replace q435 := eq_true q435;have p436 : 0 ≤ (x8_2 : Int) := of_decide_eq_true (by assumption);have q436 : x8_2 < (l0.length : Int) := of_decide_eq_true (by assumption);obtain ⟨ad436,e436,hx436_0,hx436_1,hx436_2⟩ := at_T39 HR0.out x8_2 p436 q436;obtain rfl : ad422 = ad436 := (by injection e436);replace hx436_0 := (HB.out.cell (World.block_lt_of_cell? w _ hx436_0)).trans hx436_0;replace hx436_1 := (HB.out.cell (World.block_lt_of_cell? w _ hx436_1)).trans hx436_1;replace hx436_2 := (HB.out.cell (World.block_lt_of_cell? w _ hx436_2)).trans hx436_2;replace p436 := eq_true p436;replace q436 := eq_true q436)|((with_reducible refine gate_builtin (b := .append) (xs := #[.tmp 70,.tmp 75]) rfl ?_);(try (refine gate_guard (by rfl) ?_;dsimp only));at_builtin;refine Kd.R_append k39 (w0 := w) w.heap.size rfl (.tmp 70) (.tmp 75) 27 39 (.agg #[(.string ⟨#[]⟩),(.int .i64 0),(.string ⟨#[]⟩)]) 40 rfl Tryz.underlying27 info39 rfl (by decide) (by omega) u6 x6_2 (⟨(rd_T39 l0 x8_2).f0,(rd_T39 l0 x8_2).f1,(rd_T39 l0 x8_2).f2⟩ : S39) [.string ((rd_T39 l0 x8_2).f0),.int .i64 ((rd_T39 l0 x8_2).f1),.string ((rd_T39 l0 x8_2).f2)] (fun k_ => some k_ ≠ (v426 : Value).ownBlock) (fun _ => False) rfl rfl ?aP (fun _ hk => hk.elim) ?aF ?aO ?aB ?aS ?aL ?_;(case aP => exact k39_mkM _ _ _ (⟨(rd_T39 l0 x8_2).f0,(rd_T39 l0 x8_2).f1,(rd_T39 l0 x8_2).f2⟩ : S39));(case aB => exact (by repeat (with_reducible first|exact HB.out|apply qab|apply qaa|apply qac)));(case aF => exact (fun k_ hk => Kd.fresh' (Kd.R_lt (by (with_reducible repeat (first|apply Kd.R_alloc|apply Kd.R_drewN|apply Kd.R_drew));exact HO427.out)) k_ hk));(case aO => exact (by (with_reducible repeat (first|apply Kd.R_alloc|apply Kd.R_drewN|apply Kd.R_drew));exact Kd.R_mono HO_6.out (fun _ hk => hk.1.2)));(case aS => exact (qao (by repeat (with_reducible first|exact HB.out|apply qab|apply qaa|apply qac))));(case aL => have := LMc19.out;omega);intro v438 w26 ho hb hg hat;rw [← Ny437.out] at ho;have n0_ := Aside0.mk (Kd.R_after (ok := (fun _ => True)) (by (with_reducible repeat (first|apply Kd.R_alloc|apply Kd.R_drewN|apply Kd.R_drew));exact Kd.R_mono HO427.out (fun _ hk => ⟨trivial,hk.1⟩)) hg hat);have n1_ := Aside0.mk (Kd.S_after (ok := (fun k_ => some k_ ≠ (v426 : Value).ownBlock)) (by (with_reducible repeat (first|apply Kd.S_alloc|apply Kd.S_drewN|apply Kd.S_drew));exact Kd.S_mono HO434.out (fun _ hk => ⟨hk.2,hk.1⟩)) hg hat);have n2_ := Aside0.mk (hb);have n3_ := Aside0.mk (ho);clear HO427;clear HO434;clear HB;clear HO_6;have HO427 := n0_;have HO434 := n1_;have HB := n2_;have HO439 := n3_;clear n0_ n1_ n2_ n3_;clear ho hb hg hat))
                go_roundg kj7
                case measure => have := HJ3.out;have := HK2.out;have := HJ7.out;omega
                case rel => exact ⟨(y425),(y437),(y432),(wrap64 (x8_2 + 1)),(by first|rfl|(simp;done)|(simp [*];done)|(simp [qaj];done)),H',⟨by have := HJ3.out;have := HK2.out;have := HJ7.out;omega⟩,⟨by (with_reducible repeat (first|apply Kd.R_alloc|apply Kd.R_drewN|apply Kd.R_drew));exact Kd.R_mono HO427.out (fun _ hk => hk.2)⟩,⟨by (with_reducible repeat (first|apply Kd.R_alloc|apply Kd.R_drewN|apply Kd.R_drew));exact HO439.out⟩,⟨by (with_reducible repeat (first|apply Kd.S_alloc|apply Kd.S_drewN|apply Kd.S_drew));exact HO434.out⟩,⟨by repeat (with_reducible first|exact HB.out|apply qab|apply qaa|apply qac)⟩⟩
               ·rw [if_neg c19] at H
                exact absurd H (by simp)
              ·rw [if_neg c18] at H
               have c18b0 : (((rd_T39 l0 x8_2).f1) == 0) = false := beq_eq_false_iff_ne.mpr c18
               have c18b1 : (((rd_T39 l0 x8_2).f1) != 0) = true := bne_iff_ne.mpr c18
               by_cases c27 : ((rd_T39 l0 x8_2).f1) = 3
               ·rw [if_pos c27] at H
                have c27b0 : (((rd_T39 l0 x8_2).f1) == 3) = true := beq_iff_eq.mpr c27
                have c27b1 : (((rd_T39 l0 x8_2).f1) != 3) = false := bne_eq_false_iff_eq.mpr c27
                clear c27
                by_cases c28 : x6_2.length < 3518437208883
                ·rw [if_pos c28] at H
                 have LMc28 := Aside0.mk c28
                 clear c28
                 obtain ⟨y442,hy442⟩ : ∃ y_ : List (S39),y_ = (x6_2 ++ [(⟨(rd_T39 l0 x8_2).f0,(rd_T39 l0 x8_2).f1,(rd_T39 l0 x8_2).f2⟩ : S39)]) := ⟨_,rfl⟩
                 replace H : (keelsonlaw4_DependsJoins.l0 kj7 l0 y425 y442 y432 (wrap64 (x8_2 + 1))) = some r := by first|(rw [hy442];with_reducible exact H)|(have H2_ := (Option.bind_some _ _).symm.trans H;rw [hy442];with_reducible exact H2_)|(have H2_ := (Option.bind_some _ _).symm.trans H;with_reducible exact H2_) | with_reducible exact H|(rw [hy442];exact H)|exact H
                 have Ny442 := Aside0.mk hy442
                 clear hy442
                 have H' := Aside0.mk H
                 clear H
                 have p422 : 0 ≤ (x8_2 : Int) := of_decide_eq_true (by assumption)
                 have q422 : x8_2 < (l0.length : Int) := of_decide_eq_true (by assumption)
                 obtain ⟨ad422,e422,hx422_0,hx422_1,hx422_2⟩ := at_T39 HR0.out x8_2 p422 q422
                 cases e422
                 replace hx422_0 := (HB.out.cell (World.block_lt_of_cell? w _ hx422_0)).trans hx422_0
                 replace hx422_1 := (HB.out.cell (World.block_lt_of_cell? w _ hx422_1)).trans hx422_1
                 replace hx422_2 := (HB.out.cell (World.block_lt_of_cell? w _ hx422_2)).trans hx422_2
                 replace p422 := eq_true p422
                 replace q422 := eq_true q422
                 go_wp2_with (first|((with_reducible refine qak (f := 20) rfl ?_);refine goesL_ (some 39) rfl rfl Tryz.func20 (by kernel_rfl) rfl #[.agg #[.string ((rd_T39 l0 x8_2).f0),.int .i64 ((rd_T39 l0 x8_2).f1),.string ((rd_T39 l0 x8_2).f2)]] rfl (by first|rfl|(simp only [List.map_toArray,List.map_cons,List.map_nil,List.length_drop,List.length_take];rfl)|simp only [List.map_toArray,List.map_cons,List.map_nil]) ?_;(with_reducible refine (keelsonref3_Right.calls kj7 ((rd_T39 l0 x8_2).f0) ((rd_T39 l0 x8_2).f1) ((rd_T39 l0 x8_2).f2) true _ (by first|exact hG|exact GL.below hG (by repeat (with_reducible first|exact HB.out|apply qab|apply qaa|apply qac)))  A14.out).mono ?_);rintro e w29 ⟨rfl,hb⟩;refine ⟨_,rfl,?_⟩;have n0_ := Aside0.mk (Kd.R_below (by (with_reducible repeat (first|apply Kd.R_alloc|apply Kd.R_drewN|apply Kd.R_drew));exact HO_5.out) hb);have n1_ := Aside0.mk (Kd.R_below (by (with_reducible repeat (first|apply Kd.R_alloc|apply Kd.R_drewN|apply Kd.R_drew));exact HO_6.out) hb);have n2_ := Aside0.mk (Kd.S_below (by (with_reducible repeat (first|apply Kd.S_alloc|apply Kd.S_drewN|apply Kd.S_drew));exact HO_7.out) hb);have n3_ := Aside0.mk (qan (by repeat (with_reducible first|exact HB.out|apply qab|apply qaa|apply qac)) hb);clear HO_5;clear HO_6;clear HO_7;clear HB;have HO_5 := n0_;have HO_6 := n1_;have HO_7 := n2_;have HB := n3_;clear n0_ n1_ n2_ n3_;(try clear hb);(try clear hb2);(try clear hk);(try clear hi);have p424 : 0 ≤ (x8_2 : Int) := of_decide_eq_true (by assumption);have q424 : x8_2 < (l0.length : Int) := of_decide_eq_true (by assumption);obtain ⟨ad424,e424,hx424_0,hx424_1,hx424_2⟩ := at_T39 HR0.out x8_2 p424 q424;obtain rfl : ad422 = ad424 := (by injection e424);replace hx424_0 := (HB.out.cell (World.block_lt_of_cell? w _ hx424_0)).trans hx424_0;replace hx424_1 := (HB.out.cell (World.block_lt_of_cell? w _ hx424_1)).trans hx424_1;replace hx424_2 := (HB.out.cell (World.block_lt_of_cell? w _ hx424_2)).trans hx424_2;replace p424 := eq_true p424;replace q424 := eq_true q424)|((with_reducible refine gate_builtin (b := .append) (xs := #[.tmp 41,.tmp 46]) rfl ?_);(try (refine gate_guard (by rfl) ?_;dsimp only));at_builtin;refine Kd.R_append k39 (w0 := w) w.heap.size rfl (.tmp 41) (.tmp 46) 27 39 (.agg #[(.string ⟨#[]⟩),(.int .i64 0),(.string ⟨#[]⟩)]) 40 rfl Tryz.underlying27 info39 rfl (by decide) (by omega) u5 x5_2 (⟨(rd_T39 l0 x8_2).f0,(rd_T39 l0 x8_2).f1,(rd_T39 l0 x8_2).f2⟩ : S39) [.string ((rd_T39 l0 x8_2).f0),.int .i64 ((rd_T39 l0 x8_2).f1),.string ((rd_T39 l0 x8_2).f2)] (fun k_ => some k_ ≠ (u6 : Value).ownBlock) (fun _ => False) rfl rfl ?aP (fun _ hk => hk.elim) ?aF ?aO ?aB ?aS ?aL ?_;(case aP => exact k39_mkM _ _ _ (⟨(rd_T39 l0 x8_2).f0,(rd_T39 l0 x8_2).f1,(rd_T39 l0 x8_2).f2⟩ : S39));(case aB => exact (by repeat (with_reducible first|exact HB.out|apply qab|apply qaa|apply qac)));(case aF => exact (fun k_ hk => Kd.fresh' (Kd.R_lt (by (with_reducible repeat (first|apply Kd.R_alloc|apply Kd.R_drewN|apply Kd.R_drew));exact HO_6.out)) k_ hk));(case aO => exact (by (with_reducible repeat (first|apply Kd.R_alloc|apply Kd.R_drewN|apply Kd.R_drew));exact HO_5.out));(case aS => exact (qao (by repeat (with_reducible first|exact HB.out|apply qab|apply qaa|apply qac))));(case aL => have := LMc16.out;omega);intro v426 w30 ho hb hg hat;rw [← Ny425.out] at ho;have n0_ := Aside0.mk (Kd.R_after (ok := (fun _ => True)) (by (with_reducible repeat (first|apply Kd.R_alloc|apply Kd.R_drewN|apply Kd.R_drew));exact Kd.R_mono HO_6.out (fun _ hk => ⟨trivial,hk⟩)) hg hat);have n1_ := Aside0.mk (Kd.S_after (ok := (fun k_ => some k_ ≠ (u6 : Value).ownBlock)) (by (with_reducible repeat (first|apply Kd.S_alloc|apply Kd.S_drewN|apply Kd.S_drew));exact Kd.S_mono HO_7.out (fun _ hk => ⟨hk.2,hk.1⟩)) hg hat);have n2_ := Aside0.mk (hb);have n3_ := Aside0.mk (ho);clear HO_6;clear HO_7;clear HB;clear HO_5;have HO_6 := n0_;have HO_7 := n1_;have HB := n2_;have HO427 := n3_;clear n0_ n1_ n2_ n3_;clear ho hb hg hat;have p428 : 0 ≤ (x8_2 : Int) := of_decide_eq_true (by assumption);have q428 : x8_2 < (l0.length : Int) := of_decide_eq_true (by assumption);obtain ⟨ad428,e428,hx428_0,hx428_1,hx428_2⟩ := at_T39 HR0.out x8_2 p428 q428;obtain rfl : ad422 = ad428 := (by injection e428);replace hx428_0 := (HB.out.cell (World.block_lt_of_cell? w _ hx428_0)).trans hx428_0;replace hx428_1 := (HB.out.cell (World.block_lt_of_cell? w _ hx428_1)).trans hx428_1;replace hx428_2 := (HB.out.cell (World.block_lt_of_cell? w _ hx428_2)).trans hx428_2;replace p428 := eq_true p428;replace q428 := eq_true q428)|((with_reducible refine gate_dst (N := 53) rfl ?_);(try (refine gate_guard (by rfl) ?_;dsimp only));refine Kd.R_lit k39 _ 39 ?hg (N := 53) ?hd (xs := ([(⟨(rd_T39 l0 x8_2).f0,(rd_T39 l0 x8_2).f1,(rd_T39 l0 x8_2).f2⟩ : S39)] : List (S39))) (inner := [.string ((rd_T39 l0 x8_2).f0),.int .i64 ((rd_T39 l0 x8_2).f1),.string ((rd_T39 l0 x8_2).f2)]) (ok := fun _ => True) (okp := fun _ => True) ?hr ?hp (fun _ hk => hk) trivial (Below.refl _ _) (Nat.le_refl _) (by simp) ?_;(case hd => rfl);(case hg => rfl);(case hr => first|(go_simp;done)|(go_simp;rfl));(case hp => exact (Reps.c3 (show Kd.M k39 _ _ _ (⟨(rd_T39 l0 x8_2).f0,(rd_T39 l0 x8_2).f1,(rd_T39 l0 x8_2).f2⟩ : S39) [.string ((rd_T39 l0 x8_2).f0),.int .i64 ((rd_T39 l0 x8_2).f1),.string ((rd_T39 l0 x8_2).f2)] from (k39_mkM _ _ _ (⟨(rd_T39 l0 x8_2).f0,(rd_T39 l0 x8_2).f1,(rd_T39 l0 x8_2).f2⟩ : S39) )) (Reps.none _ _)));intro v430 w31 ho32 hb hg_ hnew_;clear hg_ hnew_;(first|rw [← Ny429.out] at ho32|(simp only [Int.reduceToNat] at ho32;rw [← Ny429.out] at ho32));have n0_ := Aside0.mk (Kd.R_elder' (by (with_reducible repeat (first|apply Kd.R_alloc|apply Kd.R_drewN|apply Kd.R_drew));exact HO_6.out) (Kd.R_base ho32) hb);have n1_ := Aside0.mk (Kd.S_elder' (by (with_reducible repeat (first|apply Kd.S_alloc|apply Kd.S_drewN|apply Kd.S_drew));exact HO_7.out) (Kd.R_base ho32) hb);have n2_ := Aside0.mk (Kd.R_elder' (by (with_reducible repeat (first|apply Kd.R_alloc|apply Kd.R_drewN|apply Kd.R_drew));exact HO427.out) (Kd.R_base ho32) hb);have n3_ := Aside0.mk (Kd.R_lower (Kd.R_new' (Kd.R_new' ho32 (Kd.R_lt (by (with_reducible repeat (first|apply Kd.R_alloc|apply Kd.R_drewN|apply Kd.R_drew));exact HO_6.out))) (Kd.R_lt (by (with_reducible repeat (first|apply Kd.R_alloc|apply Kd.R_drewN|apply Kd.R_drew));exact HO427.out))) (qao (by repeat (with_reducible first|exact HB.out|apply qab|apply qaa|apply qac))));have n4_ := Aside0.mk (qan (by repeat (with_reducible first|exact HB.out|apply qab|apply qaa|apply qac)) hb);clear HO_6;clear HO_7;clear HO427;clear HB;have HO_6 := n0_;have HO_7 := n1_;have HO427 := n2_;have HO431 := n3_;have HB := n4_;clear n0_ n1_ n2_ n3_ n4_;clear hb ho32;obtain ⟨Ao34,co34,eo34⟩ := Kd.R_slice HO431.out;subst eo34)|((with_reducible refine gate_builtin (b := .append) (xs := #[.tmp 48,.tmp 54]) rfl ?_);(try (refine gate_guard (by rfl) ?_;dsimp only));at_builtin;refine Kd.S_append (Kd.slice 39 k39) (w0 := w) w.heap.size rfl (.tmp 48) (.tmp 54) 23 48 (.slice none 0 0) 24 rfl Tryz.underlying23 info48 rfl (by decide) (by omega) u7 x7_2 y429 [.slice Ao34 y429.length co34] (fun k_ => some k_ ≠ (u6 : Value).ownBlock ∧ some k_ ≠ (v426 : Value).ownBlock) (fun k_ => some k_ = (.slice Ao34 y429.length co34 : Value).ownBlock) rfl rfl ?aP (fun k_ hk_ => ((Kd.R_mono (ok' := fun k_ => ((fun k_ => some k_ ≠ (u6 : Value).ownBlock ∧ some k_ ≠ (v426 : Value).ownBlock)) k_ ∧ some k_ ≠ (u7 : Value).ownBlock) (Kd.R_apart' (HO431.out) (Kd.S_typed HO_7.out) (by decide)) (fun k_ hk => ⟨⟨hk.1.1.2,hk.1.2⟩,hk.2⟩))).1 k_ hk_.symm) ?aF ?aO ?aB ?aS ?aL ?_;(case aP => exact Kd.M_row (Kd.R_mono (Kd.R_tight rfl (Kd.R_mono (ok' := fun k_ => ((fun k_ => some k_ ≠ (u6 : Value).ownBlock ∧ some k_ ≠ (v426 : Value).ownBlock)) k_ ∧ some k_ ≠ (u7 : Value).ownBlock) (Kd.R_apart' (HO431.out) (Kd.S_typed HO_7.out) (by decide)) (fun k_ hk => ⟨⟨hk.1.1.2,hk.1.2⟩,hk.2⟩))) (fun _ h_ => h_)));(case aB => exact (by repeat (with_reducible first|exact HB.out|apply qab|apply qaa|apply qac)));(case aF => exact (fun k_ hk => ⟨Kd.fresh' (Kd.R_lt (by (with_reducible repeat (first|apply Kd.R_alloc|apply Kd.R_drewN|apply Kd.R_drew));exact HO_6.out)) k_ hk,Kd.fresh' (Kd.R_lt (by (with_reducible repeat (first|apply Kd.R_alloc|apply Kd.R_drewN|apply Kd.R_drew));exact HO427.out)) k_ hk⟩));(case aO => exact (by (with_reducible repeat (first|apply Kd.S_alloc|apply Kd.S_drewN|apply Kd.S_drew));exact Kd.S_mono HO_7.out (fun k_ hk => ⟨⟨hk.1.1,hk.1.2⟩,fun e_ => hk.2 e_⟩)));(case aS => exact (qao (by repeat (with_reducible first|exact HB.out|apply qab|apply qaa|apply qac))));(case aL => have := LMc17.out;omega);intro v433 w33 ho hb hg hat;rw [← Ny432.out] at ho;have n0_ := Aside0.mk (Kd.R_over' (by (with_reducible repeat (first|apply Kd.R_alloc|apply Kd.R_drewN|apply Kd.R_drew));exact HO_6.out) (Kd.S_typed (by (with_reducible repeat (first|apply Kd.S_alloc|apply Kd.S_drewN|apply Kd.S_drew));exact HO_7.out)) (by decide) hg);have n1_ := Aside0.mk (Kd.R_over' (by (with_reducible repeat (first|apply Kd.R_alloc|apply Kd.R_drewN|apply Kd.R_drew));exact HO427.out) (Kd.S_typed (by (with_reducible repeat (first|apply Kd.S_alloc|apply Kd.S_drewN|apply Kd.S_drew));exact HO_7.out)) (by decide) hg);have n2_ := Aside0.mk (hb);have n3_ := Aside0.mk (ho);clear HO_6;clear HO427;clear HB;clear HO_7;clear HO431;have HO_6 := n0_;have HO427 := n1_;have HB := n2_;have HO434 := n3_;clear n0_ n1_ n2_ n3_;clear ho hb hg hat;have p435 : 0 ≤ (x8_2 : Int) := of_decide_eq_true (by assumption);have q435 : x8_2 < (l0.length : Int) := of_decide_eq_true (by assumption);obtain ⟨ad435,e435,hx435_0,hx435_1,hx435_2⟩ := at_T39 HR0.out x8_2 p435 q435;obtain rfl : ad422 = ad435 := (by injection e435);replace hx435_0 := (HB.out.cell (World.block_lt_of_cell? w _ hx435_0)).trans hx435_0;replace hx435_1 := (HB.out.cell (World.block_lt_of_cell? w _ hx435_1)).trans hx435_1;replace hx435_2 := (HB.out.cell (World.block_lt_of_cell? w _ hx435_2)).trans hx435_2;replace p435 := eq_true p435;replace q435 := eq_true q435;have p440 : 0 ≤ (x8_2 : Int) := of_decide_eq_true (by assumption);have q440 : x8_2 < (l0.length : Int) := of_decide_eq_true (by assumption);obtain ⟨ad440,e440,hx440_0,hx440_1,hx440_2⟩ := at_T39 HR0.out x8_2 p440 q440;obtain rfl : ad422 = ad440 := (by injection e440);replace hx440_0 := (HB.out.cell (World.block_lt_of_cell? w _ hx440_0)).trans hx440_0;replace hx440_1 := (HB.out.cell (World.block_lt_of_cell? w _ hx440_1)).trans hx440_1;replace hx440_2 := (HB.out.cell (World.block_lt_of_cell? w _ hx440_2)).trans hx440_2;replace p440 := eq_true p440;replace q440 := eq_true q440;have p441 : 0 ≤ (x8_2 : Int) := of_decide_eq_true (by assumption);have q441 : x8_2 < (l0.length : Int) := of_decide_eq_true (by assumption);obtain ⟨ad441,e441,hx441_0,hx441_1,hx441_2⟩ := at_T39 HR0.out x8_2 p441 q441;obtain rfl : ad422 = ad441 := (by injection e441);replace hx441_0 := (HB.out.cell (World.block_lt_of_cell? w _ hx441_0)).trans hx441_0;replace hx441_1 := (HB.out.cell (World.block_lt_of_cell? w _ hx441_1)).trans hx441_1;replace hx441_2 := (HB.out.cell (World.block_lt_of_cell? w _ hx441_2)).trans hx441_2;replace p441 := eq_true p441;replace q441 := eq_true q441)|((with_reducible refine gate_builtin (b := .append) (xs := #[.tmp 70,.tmp 75]) rfl ?_);(try (refine gate_guard (by rfl) ?_;dsimp only));at_builtin;refine Kd.R_append k39 (w0 := w) w.heap.size rfl (.tmp 70) (.tmp 75) 27 39 (.agg #[(.string ⟨#[]⟩),(.int .i64 0),(.string ⟨#[]⟩)]) 40 rfl Tryz.underlying27 info39 rfl (by decide) (by omega) u6 x6_2 (⟨(rd_T39 l0 x8_2).f0,(rd_T39 l0 x8_2).f1,(rd_T39 l0 x8_2).f2⟩ : S39) [.string ((rd_T39 l0 x8_2).f0),.int .i64 ((rd_T39 l0 x8_2).f1),.string ((rd_T39 l0 x8_2).f2)] (fun k_ => some k_ ≠ (v426 : Value).ownBlock) (fun _ => False) rfl rfl ?aP (fun _ hk => hk.elim) ?aF ?aO ?aB ?aS ?aL ?_;(case aP => exact k39_mkM _ _ _ (⟨(rd_T39 l0 x8_2).f0,(rd_T39 l0 x8_2).f1,(rd_T39 l0 x8_2).f2⟩ : S39));(case aB => exact (by repeat (with_reducible first|exact HB.out|apply qab|apply qaa|apply qac)));(case aF => exact (fun k_ hk => Kd.fresh' (Kd.R_lt (by (with_reducible repeat (first|apply Kd.R_alloc|apply Kd.R_drewN|apply Kd.R_drew));exact HO427.out)) k_ hk));(case aO => exact (by (with_reducible repeat (first|apply Kd.R_alloc|apply Kd.R_drewN|apply Kd.R_drew));exact Kd.R_mono HO_6.out (fun _ hk => hk.1.2)));(case aS => exact (qao (by repeat (with_reducible first|exact HB.out|apply qab|apply qaa|apply qac))));(case aL => have := LMc28.out;omega);intro v443 w35 ho hb hg hat;rw [← Ny442.out] at ho;have n0_ := Aside0.mk (Kd.R_after (ok := (fun _ => True)) (by (with_reducible repeat (first|apply Kd.R_alloc|apply Kd.R_drewN|apply Kd.R_drew));exact Kd.R_mono HO427.out (fun _ hk => ⟨trivial,hk.1⟩)) hg hat);have n1_ := Aside0.mk (Kd.S_after (ok := (fun k_ => some k_ ≠ (v426 : Value).ownBlock)) (by (with_reducible repeat (first|apply Kd.S_alloc|apply Kd.S_drewN|apply Kd.S_drew));exact Kd.S_mono HO434.out (fun _ hk => ⟨hk.2,hk.1⟩)) hg hat);have n2_ := Aside0.mk (hb);have n3_ := Aside0.mk (ho);clear HO427;clear HO434;clear HB;clear HO_6;have HO427 := n0_;have HO434 := n1_;have HB := n2_;have HO444 := n3_;clear n0_ n1_ n2_ n3_;clear ho hb hg hat))
                 go_roundg kj7
                 case measure => have := HJ3.out;have := HK2.out;have := HJ7.out;omega
                 case rel => exact ⟨(y425),(y442),(y432),(wrap64 (x8_2 + 1)),(by first|rfl|(simp;done)|(simp [*];done)|(simp [qaj];done)),H',⟨by have := HJ3.out;have := HK2.out;have := HJ7.out;omega⟩,⟨by (with_reducible repeat (first|apply Kd.R_alloc|apply Kd.R_drewN|apply Kd.R_drew));exact Kd.R_mono HO427.out (fun _ hk => hk.2)⟩,⟨by (with_reducible repeat (first|apply Kd.R_alloc|apply Kd.R_drewN|apply Kd.R_drew));exact HO444.out⟩,⟨by (with_reducible repeat (first|apply Kd.S_alloc|apply Kd.S_drewN|apply Kd.S_drew));exact HO434.out⟩,⟨by repeat (with_reducible first|exact HB.out|apply qab|apply qaa|apply qac)⟩⟩
                ·rw [if_neg c28] at H
                 exact absurd H (by simp)
               ·rw [if_neg c27] at H
                have c27b0 : (((rd_T39 l0 x8_2).f1) == 3) = false := beq_eq_false_iff_ne.mpr c27
                have c27b1 : (((rd_T39 l0 x8_2).f1) != 3) = true := bne_iff_ne.mpr c27
                have H' := Aside0.mk H
                clear H
                have p422 : 0 ≤ (x8_2 : Int) := of_decide_eq_true (by assumption)
                have q422 : x8_2 < (l0.length : Int) := of_decide_eq_true (by assumption)
                obtain ⟨ad422,e422,hx422_0,hx422_1,hx422_2⟩ := at_T39 HR0.out x8_2 p422 q422
                cases e422
                replace hx422_0 := (HB.out.cell (World.block_lt_of_cell? w _ hx422_0)).trans hx422_0
                replace hx422_1 := (HB.out.cell (World.block_lt_of_cell? w _ hx422_1)).trans hx422_1
                replace hx422_2 := (HB.out.cell (World.block_lt_of_cell? w _ hx422_2)).trans hx422_2
                replace p422 := eq_true p422
                replace q422 := eq_true q422
                go_wp2_with (first|((with_reducible refine qak (f := 20) rfl ?_);refine goesL_ (some 39) rfl rfl Tryz.func20 (by kernel_rfl) rfl #[.agg #[.string ((rd_T39 l0 x8_2).f0),.int .i64 ((rd_T39 l0 x8_2).f1),.string ((rd_T39 l0 x8_2).f2)]] rfl (by first|rfl|(simp only [List.map_toArray,List.map_cons,List.map_nil,List.length_drop,List.length_take];rfl)|simp only [List.map_toArray,List.map_cons,List.map_nil]) ?_;(with_reducible refine (keelsonref3_Right.calls kj7 ((rd_T39 l0 x8_2).f0) ((rd_T39 l0 x8_2).f1) ((rd_T39 l0 x8_2).f2) true _ (by first|exact hG|exact GL.below hG (by repeat (with_reducible first|exact HB.out|apply qab|apply qaa|apply qac)))  A14.out).mono ?_);rintro e w36 ⟨rfl,hb⟩;refine ⟨_,rfl,?_⟩;have n0_ := Aside0.mk (Kd.R_below (by (with_reducible repeat (first|apply Kd.R_alloc|apply Kd.R_drewN|apply Kd.R_drew));exact HO_5.out) hb);have n1_ := Aside0.mk (Kd.R_below (by (with_reducible repeat (first|apply Kd.R_alloc|apply Kd.R_drewN|apply Kd.R_drew));exact HO_6.out) hb);have n2_ := Aside0.mk (Kd.S_below (by (with_reducible repeat (first|apply Kd.S_alloc|apply Kd.S_drewN|apply Kd.S_drew));exact HO_7.out) hb);have n3_ := Aside0.mk (qan (by repeat (with_reducible first|exact HB.out|apply qab|apply qaa|apply qac)) hb);clear HO_5;clear HO_6;clear HO_7;clear HB;have HO_5 := n0_;have HO_6 := n1_;have HO_7 := n2_;have HB := n3_;clear n0_ n1_ n2_ n3_;(try clear hb);(try clear hb2);(try clear hk);(try clear hi);have p424 : 0 ≤ (x8_2 : Int) := of_decide_eq_true (by assumption);have q424 : x8_2 < (l0.length : Int) := of_decide_eq_true (by assumption);obtain ⟨ad424,e424,hx424_0,hx424_1,hx424_2⟩ := at_T39 HR0.out x8_2 p424 q424;obtain rfl : ad422 = ad424 := (by injection e424);replace hx424_0 := (HB.out.cell (World.block_lt_of_cell? w _ hx424_0)).trans hx424_0;replace hx424_1 := (HB.out.cell (World.block_lt_of_cell? w _ hx424_1)).trans hx424_1;replace hx424_2 := (HB.out.cell (World.block_lt_of_cell? w _ hx424_2)).trans hx424_2;replace p424 := eq_true p424;replace q424 := eq_true q424)|((with_reducible refine gate_builtin (b := .append) (xs := #[.tmp 41,.tmp 46]) rfl ?_);(try (refine gate_guard (by rfl) ?_;dsimp only));at_builtin;refine Kd.R_append k39 (w0 := w) w.heap.size rfl (.tmp 41) (.tmp 46) 27 39 (.agg #[(.string ⟨#[]⟩),(.int .i64 0),(.string ⟨#[]⟩)]) 40 rfl Tryz.underlying27 info39 rfl (by decide) (by omega) u5 x5_2 (⟨(rd_T39 l0 x8_2).f0,(rd_T39 l0 x8_2).f1,(rd_T39 l0 x8_2).f2⟩ : S39) [.string ((rd_T39 l0 x8_2).f0),.int .i64 ((rd_T39 l0 x8_2).f1),.string ((rd_T39 l0 x8_2).f2)] (fun k_ => some k_ ≠ (u6 : Value).ownBlock) (fun _ => False) rfl rfl ?aP (fun _ hk => hk.elim) ?aF ?aO ?aB ?aS ?aL ?_;(case aP => exact k39_mkM _ _ _ (⟨(rd_T39 l0 x8_2).f0,(rd_T39 l0 x8_2).f1,(rd_T39 l0 x8_2).f2⟩ : S39));(case aB => exact (by repeat (with_reducible first|exact HB.out|apply qab|apply qaa|apply qac)));(case aF => exact (fun k_ hk => Kd.fresh' (Kd.R_lt (by (with_reducible repeat (first|apply Kd.R_alloc|apply Kd.R_drewN|apply Kd.R_drew));exact HO_6.out)) k_ hk));(case aO => exact (by (with_reducible repeat (first|apply Kd.R_alloc|apply Kd.R_drewN|apply Kd.R_drew));exact HO_5.out));(case aS => exact (qao (by repeat (with_reducible first|exact HB.out|apply qab|apply qaa|apply qac))));(case aL => have := LMc16.out;omega);intro v426 w37 ho hb hg hat;rw [← Ny425.out] at ho;have n0_ := Aside0.mk (Kd.R_after (ok := (fun _ => True)) (by (with_reducible repeat (first|apply Kd.R_alloc|apply Kd.R_drewN|apply Kd.R_drew));exact Kd.R_mono HO_6.out (fun _ hk => ⟨trivial,hk⟩)) hg hat);have n1_ := Aside0.mk (Kd.S_after (ok := (fun k_ => some k_ ≠ (u6 : Value).ownBlock)) (by (with_reducible repeat (first|apply Kd.S_alloc|apply Kd.S_drewN|apply Kd.S_drew));exact Kd.S_mono HO_7.out (fun _ hk => ⟨hk.2,hk.1⟩)) hg hat);have n2_ := Aside0.mk (hb);have n3_ := Aside0.mk (ho);clear HO_6;clear HO_7;clear HB;clear HO_5;have HO_6 := n0_;have HO_7 := n1_;have HB := n2_;have HO427 := n3_;clear n0_ n1_ n2_ n3_;clear ho hb hg hat;have p428 : 0 ≤ (x8_2 : Int) := of_decide_eq_true (by assumption);have q428 : x8_2 < (l0.length : Int) := of_decide_eq_true (by assumption);obtain ⟨ad428,e428,hx428_0,hx428_1,hx428_2⟩ := at_T39 HR0.out x8_2 p428 q428;obtain rfl : ad422 = ad428 := (by injection e428);replace hx428_0 := (HB.out.cell (World.block_lt_of_cell? w _ hx428_0)).trans hx428_0;replace hx428_1 := (HB.out.cell (World.block_lt_of_cell? w _ hx428_1)).trans hx428_1;replace hx428_2 := (HB.out.cell (World.block_lt_of_cell? w _ hx428_2)).trans hx428_2;replace p428 := eq_true p428;replace q428 := eq_true q428)|((with_reducible refine gate_dst (N := 53) rfl ?_);(try (refine gate_guard (by rfl) ?_;dsimp only));refine Kd.R_lit k39 _ 39 ?hg (N := 53) ?hd (xs := ([(⟨(rd_T39 l0 x8_2).f0,(rd_T39 l0 x8_2).f1,(rd_T39 l0 x8_2).f2⟩ : S39)] : List (S39))) (inner := [.string ((rd_T39 l0 x8_2).f0),.int .i64 ((rd_T39 l0 x8_2).f1),.string ((rd_T39 l0 x8_2).f2)]) (ok := fun _ => True) (okp := fun _ => True) ?hr ?hp (fun _ hk => hk) trivial (Below.refl _ _) (Nat.le_refl _) (by simp) ?_;(case hd => rfl);(case hg => rfl);(case hr => first|(go_simp;done)|(go_simp;rfl));(case hp => exact (Reps.c3 (show Kd.M k39 _ _ _ (⟨(rd_T39 l0 x8_2).f0,(rd_T39 l0 x8_2).f1,(rd_T39 l0 x8_2).f2⟩ : S39) [.string ((rd_T39 l0 x8_2).f0),.int .i64 ((rd_T39 l0 x8_2).f1),.string ((rd_T39 l0 x8_2).f2)] from (k39_mkM _ _ _ (⟨(rd_T39 l0 x8_2).f0,(rd_T39 l0 x8_2).f1,(rd_T39 l0 x8_2).f2⟩ : S39) )) (Reps.none _ _)));intro v430 w38 ho39 hb hg_ hnew_;clear hg_ hnew_;(first|rw [← Ny429.out] at ho39|(simp only [Int.reduceToNat] at ho39;rw [← Ny429.out] at ho39));have n0_ := Aside0.mk (Kd.R_elder' (by (with_reducible repeat (first|apply Kd.R_alloc|apply Kd.R_drewN|apply Kd.R_drew));exact HO_6.out) (Kd.R_base ho39) hb);have n1_ := Aside0.mk (Kd.S_elder' (by (with_reducible repeat (first|apply Kd.S_alloc|apply Kd.S_drewN|apply Kd.S_drew));exact HO_7.out) (Kd.R_base ho39) hb);have n2_ := Aside0.mk (Kd.R_elder' (by (with_reducible repeat (first|apply Kd.R_alloc|apply Kd.R_drewN|apply Kd.R_drew));exact HO427.out) (Kd.R_base ho39) hb);have n3_ := Aside0.mk (Kd.R_lower (Kd.R_new' (Kd.R_new' ho39 (Kd.R_lt (by (with_reducible repeat (first|apply Kd.R_alloc|apply Kd.R_drewN|apply Kd.R_drew));exact HO_6.out))) (Kd.R_lt (by (with_reducible repeat (first|apply Kd.R_alloc|apply Kd.R_drewN|apply Kd.R_drew));exact HO427.out))) (qao (by repeat (with_reducible first|exact HB.out|apply qab|apply qaa|apply qac))));have n4_ := Aside0.mk (qan (by repeat (with_reducible first|exact HB.out|apply qab|apply qaa|apply qac)) hb);clear HO_6;clear HO_7;clear HO427;clear HB;have HO_6 := n0_;have HO_7 := n1_;have HO427 := n2_;have HO431 := n3_;have HB := n4_;clear n0_ n1_ n2_ n3_ n4_;clear hb ho39;obtain ⟨Ao41,co41,eo41⟩ := Kd.R_slice HO431.out;subst eo41)|((with_reducible refine gate_builtin (b := .append) (xs := #[.tmp 48,.tmp 54]) rfl ?_);(try (refine gate_guard (by rfl) ?_;dsimp only));at_builtin;refine Kd.S_append (Kd.slice 39 k39) (w0 := w) w.heap.size rfl (.tmp 48) (.tmp 54) 23 48 (.slice none 0 0) 24 rfl Tryz.underlying23 info48 rfl (by decide) (by omega) u7 x7_2 y429 [.slice Ao41 y429.length co41] (fun k_ => some k_ ≠ (u6 : Value).ownBlock ∧ some k_ ≠ (v426 : Value).ownBlock) (fun k_ => some k_ = (.slice Ao41 y429.length co41 : Value).ownBlock) rfl rfl ?aP (fun k_ hk_ => ((Kd.R_mono (ok' := fun k_ => ((fun k_ => some k_ ≠ (u6 : Value).ownBlock ∧ some k_ ≠ (v426 : Value).ownBlock)) k_ ∧ some k_ ≠ (u7 : Value).ownBlock) (Kd.R_apart' (HO431.out) (Kd.S_typed HO_7.out) (by decide)) (fun k_ hk => ⟨⟨hk.1.1.2,hk.1.2⟩,hk.2⟩))).1 k_ hk_.symm) ?aF ?aO ?aB ?aS ?aL ?_;(case aP => exact Kd.M_row (Kd.R_mono (Kd.R_tight rfl (Kd.R_mono (ok' := fun k_ => ((fun k_ => some k_ ≠ (u6 : Value).ownBlock ∧ some k_ ≠ (v426 : Value).ownBlock)) k_ ∧ some k_ ≠ (u7 : Value).ownBlock) (Kd.R_apart' (HO431.out) (Kd.S_typed HO_7.out) (by decide)) (fun k_ hk => ⟨⟨hk.1.1.2,hk.1.2⟩,hk.2⟩))) (fun _ h_ => h_)));(case aB => exact (by repeat (with_reducible first|exact HB.out|apply qab|apply qaa|apply qac)));(case aF => exact (fun k_ hk => ⟨Kd.fresh' (Kd.R_lt (by (with_reducible repeat (first|apply Kd.R_alloc|apply Kd.R_drewN|apply Kd.R_drew));exact HO_6.out)) k_ hk,Kd.fresh' (Kd.R_lt (by (with_reducible repeat (first|apply Kd.R_alloc|apply Kd.R_drewN|apply Kd.R_drew));exact HO427.out)) k_ hk⟩));(case aO => exact (by (with_reducible repeat (first|apply Kd.S_alloc|apply Kd.S_drewN|apply Kd.S_drew));exact Kd.S_mono HO_7.out (fun k_ hk => ⟨⟨hk.1.1,hk.1.2⟩,fun e_ => hk.2 e_⟩)));(case aS => exact (qao (by repeat (with_reducible first|exact HB.out|apply qab|apply qaa|apply qac))));(case aL => have := LMc17.out;omega);intro v433 w40 ho hb hg hat;rw [← Ny432.out] at ho;have n0_ := Aside0.mk (Kd.R_over' (by (with_reducible repeat (first|apply Kd.R_alloc|apply Kd.R_drewN|apply Kd.R_drew));exact HO_6.out) (Kd.S_typed (by (with_reducible repeat (first|apply Kd.S_alloc|apply Kd.S_drewN|apply Kd.S_drew));exact HO_7.out)) (by decide) hg);have n1_ := Aside0.mk (Kd.R_over' (by (with_reducible repeat (first|apply Kd.R_alloc|apply Kd.R_drewN|apply Kd.R_drew));exact HO427.out) (Kd.S_typed (by (with_reducible repeat (first|apply Kd.S_alloc|apply Kd.S_drewN|apply Kd.S_drew));exact HO_7.out)) (by decide) hg);have n2_ := Aside0.mk (hb);have n3_ := Aside0.mk (ho);clear HO_6;clear HO427;clear HB;clear HO_7;clear HO431;have HO_6 := n0_;have HO427 := n1_;have HB := n2_;have HO434 := n3_;clear n0_ n1_ n2_ n3_;clear ho hb hg hat;have p435 : 0 ≤ (x8_2 : Int) := of_decide_eq_true (by assumption);have q435 : x8_2 < (l0.length : Int) := of_decide_eq_true (by assumption);obtain ⟨ad435,e435,hx435_0,hx435_1,hx435_2⟩ := at_T39 HR0.out x8_2 p435 q435;obtain rfl : ad422 = ad435 := (by injection e435);replace hx435_0 := (HB.out.cell (World.block_lt_of_cell? w _ hx435_0)).trans hx435_0;replace hx435_1 := (HB.out.cell (World.block_lt_of_cell? w _ hx435_1)).trans hx435_1;replace hx435_2 := (HB.out.cell (World.block_lt_of_cell? w _ hx435_2)).trans hx435_2;replace p435 := eq_true p435;replace q435 := eq_true q435;have p440 : 0 ≤ (x8_2 : Int) := of_decide_eq_true (by assumption);have q440 : x8_2 < (l0.length : Int) := of_decide_eq_true (by assumption);obtain ⟨ad440,e440,hx440_0,hx440_1,hx440_2⟩ := at_T39 HR0.out x8_2 p440 q440;obtain rfl : ad422 = ad440 := (by injection e440);replace hx440_0 := (HB.out.cell (World.block_lt_of_cell? w _ hx440_0)).trans hx440_0;replace hx440_1 := (HB.out.cell (World.block_lt_of_cell? w _ hx440_1)).trans hx440_1;replace hx440_2 := (HB.out.cell (World.block_lt_of_cell? w _ hx440_2)).trans hx440_2;replace p440 := eq_true p440;replace q440 := eq_true q440))
                go_roundg kj7
                case measure => have := HJ3.out;have := HK2.out;have := HJ7.out;omega
                case rel => exact ⟨(y425),(x6_2),(y432),(wrap64 (x8_2 + 1)),(by first|rfl|(simp;done)|(simp [*];done)|(simp [qaj];done)),H',⟨by have := HJ3.out;have := HK2.out;have := HJ7.out;omega⟩,⟨by (with_reducible repeat (first|apply Kd.R_alloc|apply Kd.R_drewN|apply Kd.R_drew));exact Kd.R_mono HO427.out (fun _ hk => hk.1)⟩,⟨by (with_reducible repeat (first|apply Kd.R_alloc|apply Kd.R_drewN|apply Kd.R_drew));exact Kd.R_mono HO_6.out (fun _ hk => hk.1.2)⟩,⟨by (with_reducible repeat (first|apply Kd.S_alloc|apply Kd.S_drewN|apply Kd.S_drew));exact Kd.S_mono HO434.out (fun _ hk => ⟨hk.2,hk.1⟩)⟩,⟨by repeat (with_reducible first|exact HB.out|apply qab|apply qaa|apply qac)⟩⟩
             ·rw [if_neg c17] at H
              exact absurd H (by simp)
            ·rw [if_neg c16] at H
             exact absurd H (by simp)
           ·replace c15 := Bool.eq_false_iff.mpr c15
            subst c15
            have H1 : (keelsonlaw4_DependsJoins.l0 kj7 l0 x5_2 x6_2 x7_2 (wrap64 (x8_2 + 1))) = some r := by rw [if_neg (show ¬ (false = true) by decide)] at H;exact H
            clear H
            have H := H1
            clear H1
            have H' := Aside0.mk H
            clear H
            have p422 : 0 ≤ (x8_2 : Int) := of_decide_eq_true (by assumption)
            have q422 : x8_2 < (l0.length : Int) := of_decide_eq_true (by assumption)
            obtain ⟨ad422,e422,hx422_0,hx422_1,hx422_2⟩ := at_T39 HR0.out x8_2 p422 q422
            cases e422
            replace hx422_0 := (HB.out.cell (World.block_lt_of_cell? w _ hx422_0)).trans hx422_0
            replace hx422_1 := (HB.out.cell (World.block_lt_of_cell? w _ hx422_1)).trans hx422_1
            replace hx422_2 := (HB.out.cell (World.block_lt_of_cell? w _ hx422_2)).trans hx422_2
            replace p422 := eq_true p422
            replace q422 := eq_true q422
            go_wp2_with (first|((with_reducible refine qak (f := 20) rfl ?_);refine goesL_ (some 39) rfl rfl Tryz.func20 (by kernel_rfl) rfl #[.agg #[.string ((rd_T39 l0 x8_2).f0),.int .i64 ((rd_T39 l0 x8_2).f1),.string ((rd_T39 l0 x8_2).f2)]] rfl (by first|rfl|(simp only [List.map_toArray,List.map_cons,List.map_nil,List.length_drop,List.length_take];rfl)|simp only [List.map_toArray,List.map_cons,List.map_nil]) ?_;(with_reducible refine (keelsonref3_Right.calls kj7 ((rd_T39 l0 x8_2).f0) ((rd_T39 l0 x8_2).f1) ((rd_T39 l0 x8_2).f2) false _ (by first|exact hG|exact GL.below hG (by repeat (with_reducible first|exact HB.out|apply qab|apply qaa|apply qac)))  A14.out).mono ?_);rintro e w42 ⟨rfl,hb⟩;refine ⟨_,rfl,?_⟩;have n0_ := Aside0.mk (Kd.R_below (by (with_reducible repeat (first|apply Kd.R_alloc|apply Kd.R_drewN|apply Kd.R_drew));exact HO_5.out) hb);have n1_ := Aside0.mk (Kd.R_below (by (with_reducible repeat (first|apply Kd.R_alloc|apply Kd.R_drewN|apply Kd.R_drew));exact HO_6.out) hb);have n2_ := Aside0.mk (Kd.S_below (by (with_reducible repeat (first|apply Kd.S_alloc|apply Kd.S_drewN|apply Kd.S_drew));exact HO_7.out) hb);have n3_ := Aside0.mk (qan (by repeat (with_reducible first|exact HB.out|apply qab|apply qaa|apply qac)) hb);clear HO_5;clear HO_6;clear HO_7;clear HB;have HO_5 := n0_;have HO_6 := n1_;have HO_7 := n2_;have HB := n3_;clear n0_ n1_ n2_ n3_;(try clear hb);(try clear hb2);(try clear hk);(try clear hi)))
            go_roundg kj7
            case measure => have := HJ3.out;have := HK2.out;have := HJ7.out;omega
            case rel => exact ⟨(x5_2),(x6_2),(x7_2),(wrap64 (x8_2 + 1)),(by first|rfl|(simp;done)|(simp [*];done)|(simp [qaj];done)),H',⟨by have := HJ3.out;have := HK2.out;have := HJ7.out;omega⟩,⟨by (with_reducible repeat (first|apply Kd.R_alloc|apply Kd.R_drewN|apply Kd.R_drew));exact HO_5.out⟩,⟨by (with_reducible repeat (first|apply Kd.R_alloc|apply Kd.R_drewN|apply Kd.R_drew));exact HO_6.out⟩,⟨by (with_reducible repeat (first|apply Kd.S_alloc|apply Kd.S_drewN|apply Kd.S_drew));exact HO_7.out⟩,⟨by repeat (with_reducible first|exact HB.out|apply qab|apply qaa|apply qac)⟩⟩
          ·rw [if_neg c13] at H
           exact absurd H (by simp)
         ·rw [if_neg c12] at H
          exact absurd H (by simp)
        ·replace c11 := Bool.eq_false_iff.mpr c11
         subst c11
         have H1 : ((depends_Join.f kj7 x5_2).bind fun t445 => ((depends_Atoms.f kj7 t445).bind fun bt446 => ((depends_Open.f kj7 x7_2 x6_2).bind fun t450 => (keelsonlaw4_DependsJoins.l1 kj7 x5_2 bt446.1 bt446.2 t450 0)))) = some r := by rw [if_neg (show ¬ (false = true) by decide)] at H;exact H
         clear H
         have H := H1
         clear H1
         replace H := Option.bind_eq_some_iff.mp H
         obtain ⟨t445,A430,H⟩ := H
         replace H : ((depends_Atoms.f kj7 t445).bind fun bt446 => ((depends_Open.f kj7 x7_2 x6_2).bind fun t450 => (keelsonlaw4_DependsJoins.l1 kj7 x5_2 bt446.1 bt446.2 t450 0))) = some r := H
         have A43 := Aside0.mk A430
         clear A430
         replace H := Option.bind_eq_some_iff.mp H
         obtain ⟨⟨t446,t447⟩,A440,H⟩ := H
         replace H : ((depends_Open.f kj7 x7_2 x6_2).bind fun t450 => (keelsonlaw4_DependsJoins.l1 kj7 x5_2 t446 t447 t450 0)) = some r := H
         have A44 := Aside0.mk A440
         clear A440
         replace H := Option.bind_eq_some_iff.mp H
         obtain ⟨t450,A450,H⟩ := H
         replace H : (keelsonlaw4_DependsJoins.l1 kj7 x5_2 t446 t447 t450 0) = some r := H
         have A45 := Aside0.mk A450
         clear A450
         have H' := Aside0.mk H
         clear H
         obtain ⟨Ao46,co46,eo46⟩ := Kd.R_slice HO_5.out
         subst eo46
         go_wp2_with (first|((with_reducible refine qak (f := 26) rfl ?_);refine goesL_ (some 79) rfl rfl Tryz.func26 (by kernel_rfl) rfl #[.slice Ao46 x5_2.length co46] rfl (by first|rfl|(simp only [List.map_toArray,List.map_cons,List.map_nil,List.length_drop,List.length_take];rfl)|simp only [List.map_toArray,List.map_cons,List.map_nil]) ?_;(with_reducible refine (depends_Join.calls kj7 _ _ x5_2 t445 _ (by first|exact hG|exact GL.below hG (by repeat (with_reducible first|exact HB.out|apply qab|apply qaa|apply qac)))  ?side1 ?side2 A43.out).mono ?_);(case side1 => repeat (first|exact (Kd.R_reads' HO_5.out).2.2|(with_reducible refine Kd.C_alloc ?_ _)|(with_reducible refine Kd.C_drewN ?_ _)|(with_reducible refine Kd.C_drew ?_)));(case side2 => exact (Kd.R_reads' HO_5.out).2.1);rintro e w47 ⟨rfl,hb⟩;refine ⟨_,rfl,?_⟩;have n0_ := Aside0.mk (Kd.R_below (by (with_reducible repeat (first|apply Kd.R_alloc|apply Kd.R_drewN|apply Kd.R_drew));exact HO_5.out) hb);have n1_ := Aside0.mk (Kd.R_below (by (with_reducible repeat (first|apply Kd.R_alloc|apply Kd.R_drewN|apply Kd.R_drew));exact HO_6.out) hb);have n2_ := Aside0.mk (Kd.S_below (by (with_reducible repeat (first|apply Kd.S_alloc|apply Kd.S_drewN|apply Kd.S_drew));exact HO_7.out) hb);have n3_ := Aside0.mk (qan (by repeat (with_reducible first|exact HB.out|apply qab|apply qaa|apply qac)) hb);clear HO_5;clear HO_6;clear HO_7;clear HB;have HO_5 := n0_;have HO_6 := n1_;have HO_7 := n2_;have HB := n3_;clear n0_ n1_ n2_ n3_;(try clear hb);(try clear hb2);(try clear hk);(try clear hi))|((with_reducible refine qak (f := 12) rfl ?_);refine goesL_ (some 80) rfl rfl Tryz.func12 (by kernel_rfl) rfl #[.string t445] rfl (by first|rfl|(simp only [List.map_toArray,List.map_cons,List.map_nil,List.length_drop,List.length_take];rfl)|simp only [List.map_toArray,List.map_cons,List.map_nil]) ?_;(with_reducible refine (depends_Atoms.calls kj7 t445 t446 t447 _ (by first|exact hG|exact GL.below hG (by repeat (with_reducible first|exact HB.out|apply qab|apply qaa|apply qac)))  A44.out).mono ?_);rintro e w48 ⟨v448,rfl,ho0,hb⟩;refine ⟨_,rfl,?_⟩;have n0_ := Aside0.mk (Kd.R_elder' (by (with_reducible repeat (first|apply Kd.R_alloc|apply Kd.R_drewN|apply Kd.R_drew));exact HO_5.out) (Kd.R_base ho0) hb);have n1_ := Aside0.mk (Kd.R_elder' (by (with_reducible repeat (first|apply Kd.R_alloc|apply Kd.R_drewN|apply Kd.R_drew));exact HO_6.out) (Kd.R_base ho0) hb);have n2_ := Aside0.mk (Kd.S_elder' (by (with_reducible repeat (first|apply Kd.S_alloc|apply Kd.S_drewN|apply Kd.S_drew));exact HO_7.out) (Kd.R_base ho0) hb);have n3_ := Aside0.mk (Kd.R_lower (Kd.R_new' (Kd.R_new' ho0 (Kd.R_lt (by (with_reducible repeat (first|apply Kd.R_alloc|apply Kd.R_drewN|apply Kd.R_drew));exact HO_5.out))) (Kd.R_lt (by (with_reducible repeat (first|apply Kd.R_alloc|apply Kd.R_drewN|apply Kd.R_drew));exact HO_6.out))) (qao (by repeat (with_reducible first|exact HB.out|apply qab|apply qaa|apply qac))));have n4_ := Aside0.mk (qan (by repeat (with_reducible first|exact HB.out|apply qab|apply qaa|apply qac)) hb);clear HO_5;clear HO_6;clear HO_7;clear HB;have HO_5 := n0_;have HO_6 := n1_;have HO_7 := n2_;have HO449 := n3_;have HB := n4_;clear n0_ n1_ n2_ n3_ n4_;(try clear hb);(try clear hb2);(try clear hk);(try clear hi);(try clear ho0);obtain ⟨Ao49,co49,eo49⟩ := Kd.S_slice HO_7.out;subst eo49;obtain ⟨Ao50,co50,eo50⟩ := Kd.R_slice HO_6.out;subst eo50)|((with_reducible refine qak (f := 22) rfl ?_);refine goesL_ (some 85) rfl rfl Tryz.func22 (by kernel_rfl) rfl #[.slice Ao49 x7_2.length co49,.slice Ao50 x6_2.length co50] rfl (by first|rfl|(simp only [List.map_toArray,List.map_cons,List.map_nil,List.length_drop,List.length_take];rfl)|simp only [List.map_toArray,List.map_cons,List.map_nil]) ?_;(with_reducible refine (depends_Open.calls kj7 _ _ x7_2 _ _ x6_2 t450 _ (by first|exact hG|exact GL.below hG (by repeat (with_reducible first|exact HB.out|apply qab|apply qaa|apply qac)))  ?side1 ?side2 ?side3 ?side4 A45.out).mono ?_);(case side1 => repeat (first|exact (Kd.S_reads' HO_7.out).2.2|(with_reducible refine Kd.C_alloc ?_ _)|(with_reducible refine Kd.C_drewN ?_ _)|(with_reducible refine Kd.C_drew ?_)));(case side2 => exact (Kd.S_reads' HO_7.out).2.1);(case side3 => repeat (first|exact (Kd.R_reads' HO_6.out).2.2|(with_reducible refine Kd.C_alloc ?_ _)|(with_reducible refine Kd.C_drewN ?_ _)|(with_reducible refine Kd.C_drew ?_)));(case side4 => exact (Kd.R_reads' HO_6.out).2.1);rintro e w51 ⟨v451,rfl,ho0,hb⟩;refine ⟨_,rfl,?_⟩;have n0_ := Aside0.mk (Kd.R_below (by (with_reducible repeat (first|apply Kd.R_alloc|apply Kd.R_drewN|apply Kd.R_drew));exact HO_5.out) hb);have n1_ := Aside0.mk (Kd.R_below (by (with_reducible repeat (first|apply Kd.R_alloc|apply Kd.R_drewN|apply Kd.R_drew));exact HO_6.out) hb);have n2_ := Aside0.mk (Kd.S_below (by (with_reducible repeat (first|apply Kd.S_alloc|apply Kd.S_drewN|apply Kd.S_drew));exact HO_7.out) hb);have n3_ := Aside0.mk (Kd.R_below (by (with_reducible repeat (first|apply Kd.R_alloc|apply Kd.R_drewN|apply Kd.R_drew));exact HO449.out) hb);have n4_ := Aside0.mk (Kd.R_lower ho0 (qao (by repeat (with_reducible first|exact HB.out|apply qab|apply qaa|apply qac))));have n5_ := Aside0.mk (qan (by repeat (with_reducible first|exact HB.out|apply qab|apply qaa|apply qac)) hb);clear HO_5;clear HO_6;clear HO_7;clear HO449;clear HB;have HO_5 := n0_;have HO_6 := n1_;have HO_7 := n2_;have HO449 := n3_;have HO452 := n4_;have HB := n5_;clear n0_ n1_ n2_ n3_ n4_ n5_;(try clear hb);(try clear hb2);(try clear hk);(try clear hi);(try clear ho0)))
         go_loopg [13] kj7 (fun kq v13 w' => ∃ (x13_4 : Int),v13 = .int .i64 x13_4 ∧ Aside0 (keelsonlaw4_DependsJoins.l1 kq x5_2 t446 t447 t450 x13_4 = some r) ∧ Aside0 (kq ≤ kj7) ∧ Aside0 (Kd.R k39 39 w' w.heap.size (fun k_ => some k_ ≠ (v448 : Value).ownBlock) (.slice Ao46 x5_2.length co46) x5_2) ∧ Aside0 (Kd.R k39 39 w' w.heap.size (fun k_ => some k_ ≠ ((.slice Ao46 x5_2.length co46) : Value).ownBlock) v448 t446) ∧ Aside0 (Kd.R (Kd.int .i64) 3 w' w.heap.size (fun _ => True) v451 t450) ∧ Aside0 (Below w.heap.size w w'))
         case atStart => exact ⟨(0),(by first|rfl|(simp;done)|(simp [*];done)|(simp [qaj];done)),H',⟨Nat.le_refl _⟩,⟨by (with_reducible repeat (first|apply Kd.R_alloc|apply Kd.R_drewN|apply Kd.R_drew));exact Kd.R_mono HO_5.out (fun _ hk => hk.2)⟩,⟨by (with_reducible repeat (first|apply Kd.R_alloc|apply Kd.R_drewN|apply Kd.R_drew));exact Kd.R_mono HO449.out (fun _ hk => hk.1.2)⟩,⟨by (with_reducible repeat (first|apply Kd.R_alloc|apply Kd.R_drewN|apply Kd.R_drew));exact HO452.out⟩,⟨by repeat (with_reducible first|exact HB.out|apply qab|apply qaa|apply qac)⟩⟩
         case round =>
          clear H'
          try clear c1
          try clear c2
          try clear p2
          try clear c3
          try clear p4
          try clear q4
          try clear hx4
          try clear c6
          try clear p6
          try clear c7
          try clear c8
          try clear c9
          try clear c9b0
          try clear c11
          try clear c12
          try clear c12b0
          try clear c13
          try clear c13b0
          try clear c15
          try clear c16
          try clear c17
          try clear c18
          try clear c18b0
          try clear c18b1
          try clear c19
          try clear c20
          try clear c22
          try clear c26
          try clear c27
          try clear c27b0
          try clear c27b1
          try clear c28
          try clear p42
          try clear q42
          try clear hx42
          try clear p43
          try clear q43
          try clear hx43
          try clear p44
          try clear q44
          try clear hx44
          try clear hx422_0
          try clear hx422_1
          try clear hx422_2
          try clear hx424_0
          try clear hx424_1
          try clear hx424_2
          try clear hx428_0
          try clear hx428_1
          try clear hx428_2
          try clear hx435_0
          try clear hx435_1
          try clear hx435_2
          try clear hx436_0
          try clear hx436_1
          try clear hx436_2
          try clear hx440_0
          try clear hx440_1
          try clear hx440_2
          try clear hx441_0
          try clear hx441_1
          try clear hx441_2
          try clear p2
          try clear p422
          try clear p424
          try clear p428
          try clear p435
          try clear p436
          try clear p440
          try clear p441
          try clear q422
          try clear q424
          try clear q428
          try clear q435
          try clear q436
          try clear q440
          try clear q441
          obtain ⟨x13_4,rfl,HA,HK4,HO_5,HO_10,HO_12,HB⟩ := hrel
          cases gk with
          | zero => exact absurd HA.out (by simp [keelsonlaw4_DependsJoins.l1])
          | succ k4 =>
           have H := HA.out
           clear HA
           simp only [keelsonlaw4_DependsJoins.l1] at H
           by_cases c52 : x13_4 < (t450.length : Int)
           ·rw [if_pos c52] at H
            have c52b0 : decide (x13_4 < (t450.length : Int)) = true := decide_eq_true c52
            clear c52
            by_cases c53 : 0 ≤ x13_4
            ·rw [if_pos c53] at H
             have c53b0 : decide (0 ≤ x13_4) = true := decide_eq_true c53
             clear c53
             by_cases c54 : 0 ≤ (rd t450 x13_4)
             ·rw [if_pos c54] at H
              have c54b0 : decide (0 ≤ (rd t450 x13_4)) = true := decide_eq_true c54
              clear c54
              by_cases c55 : (rd t450 x13_4) < (x5_2.length : Int)
              ·rw [if_pos c55] at H
               have c55b0 : decide ((rd t450 x13_4) < (x5_2.length : Int)) = true := decide_eq_true c55
               clear c55
               by_cases c56 : ((rd_T39 x5_2 (rd t450 x13_4)).f1) = 0
               ·rw [if_pos c56] at H
                have c56b0 : (((rd_T39 x5_2 (rd t450 x13_4)).f1) == 0) = true := beq_iff_eq.mpr c56
                have c56b1 : (((rd_T39 x5_2 (rd t450 x13_4)).f1) != 0) = false := bne_eq_false_iff_eq.mpr c56
                clear c56
                obtain rfl := Option.some.inj H
                obtain ⟨Ao57,co57,eo57⟩ := Kd.R_slice HO_12.out
                subst eo57
                have p453 : 0 ≤ (x13_4 : Int) := of_decide_eq_true (by assumption)
                have q453 : x13_4 < (t450.length : Int) := of_decide_eq_true (by assumption)
                obtain ⟨ad453,e453,hx453_0⟩ := Kd.at_int (Kd.R_reads' HO_12.out).2.2 x13_4 p453 q453
                cases e453
                replace p453 := eq_true p453
                replace q453 := eq_true q453
                have p454 : 0 ≤ ((rd t450 x13_4) : Int) := of_decide_eq_true (by assumption)
                have q454 : (rd t450 x13_4) < (x5_2.length : Int) := of_decide_eq_true (by assumption)
                obtain ⟨ad454,e454,hx454_0,hx454_1,hx454_2⟩ := at_T39 (Kd.R_reads' HO_5.out).2.2 (rd t450 x13_4) p454 q454
                cases e454
                replace p454 := eq_true p454
                replace q454 := eq_true q454
                go_wp2
                go_ret
                exact ⟨by first|rfl|(simp [qal,qam]<;>rfl)|(simp [*,qal,qam]<;>rfl),by repeat (with_reducible first|exact HB.out|apply qab|apply qaa|apply qac)⟩
               ·rw [if_neg c56] at H
                have c56b0 : (((rd_T39 x5_2 (rd t450 x13_4)).f1) == 0) = false := beq_eq_false_iff_ne.mpr c56
                have c56b1 : (((rd_T39 x5_2 (rd t450 x13_4)).f1) != 0) = true := bne_iff_ne.mpr c56
                by_cases c58 : ((rd_T39 x5_2 (rd t450 x13_4)).f1) = 3
                ·rw [if_pos c58] at H
                 have c58b0 : (((rd_T39 x5_2 (rd t450 x13_4)).f1) == 3) = true := beq_iff_eq.mpr c58
                 have c58b1 : (((rd_T39 x5_2 (rd t450 x13_4)).f1) != 3) = false := bne_eq_false_iff_eq.mpr c58
                 clear c58
                 obtain rfl := Option.some.inj H
                 obtain ⟨Ao59,co59,eo59⟩ := Kd.R_slice HO_12.out
                 subst eo59
                 have p453 : 0 ≤ (x13_4 : Int) := of_decide_eq_true (by assumption)
                 have q453 : x13_4 < (t450.length : Int) := of_decide_eq_true (by assumption)
                 obtain ⟨ad453,e453,hx453_0⟩ := Kd.at_int (Kd.R_reads' HO_12.out).2.2 x13_4 p453 q453
                 cases e453
                 replace p453 := eq_true p453
                 replace q453 := eq_true q453
                 have p454 : 0 ≤ ((rd t450 x13_4) : Int) := of_decide_eq_true (by assumption)
                 have q454 : (rd t450 x13_4) < (x5_2.length : Int) := of_decide_eq_true (by assumption)
                 obtain ⟨ad454,e454,hx454_0,hx454_1,hx454_2⟩ := at_T39 (Kd.R_reads' HO_5.out).2.2 (rd t450 x13_4) p454 q454
                 cases e454
                 replace p454 := eq_true p454
                 replace q454 := eq_true q454
                 have p455 : 0 ≤ (x13_4 : Int) := of_decide_eq_true (by assumption)
                 have q455 : x13_4 < (t450.length : Int) := of_decide_eq_true (by assumption)
                 obtain ⟨ad455,e455,hx455_0⟩ := Kd.at_int (Kd.R_reads' HO_12.out).2.2 x13_4 p455 q455
                 obtain rfl : ad453 = ad455 := (by injection e455)
                 replace p455 := eq_true p455
                 replace q455 := eq_true q455
                 have p456 : 0 ≤ ((rd t450 x13_4) : Int) := of_decide_eq_true (by assumption)
                 have q456 : (rd t450 x13_4) < (x5_2.length : Int) := of_decide_eq_true (by assumption)
                 obtain ⟨ad456,e456,hx456_0,hx456_1,hx456_2⟩ := at_T39 (Kd.R_reads' HO_5.out).2.2 (rd t450 x13_4) p456 q456
                 obtain rfl : ad454 = ad456 := (by injection e456)
                 replace p456 := eq_true p456
                 replace q456 := eq_true q456
                 go_wp2
                 go_ret
                 exact ⟨by first|rfl|(simp [qal,qam]<;>rfl)|(simp [*,qal,qam]<;>rfl),by repeat (with_reducible first|exact HB.out|apply qab|apply qaa|apply qac)⟩
                ·rw [if_neg c58] at H
                 have c58b0 : (((rd_T39 x5_2 (rd t450 x13_4)).f1) == 3) = false := beq_eq_false_iff_ne.mpr c58
                 have c58b1 : (((rd_T39 x5_2 (rd t450 x13_4)).f1) != 3) = true := bne_iff_ne.mpr c58
                 have H' := Aside0.mk H
                 clear H
                 obtain ⟨Ao60,co60,eo60⟩ := Kd.R_slice HO_12.out
                 subst eo60
                 have p453 : 0 ≤ (x13_4 : Int) := of_decide_eq_true (by assumption)
                 have q453 : x13_4 < (t450.length : Int) := of_decide_eq_true (by assumption)
                 obtain ⟨ad453,e453,hx453_0⟩ := Kd.at_int (Kd.R_reads' HO_12.out).2.2 x13_4 p453 q453
                 cases e453
                 replace p453 := eq_true p453
                 replace q453 := eq_true q453
                 have p454 : 0 ≤ ((rd t450 x13_4) : Int) := of_decide_eq_true (by assumption)
                 have q454 : (rd t450 x13_4) < (x5_2.length : Int) := of_decide_eq_true (by assumption)
                 obtain ⟨ad454,e454,hx454_0,hx454_1,hx454_2⟩ := at_T39 (Kd.R_reads' HO_5.out).2.2 (rd t450 x13_4) p454 q454
                 cases e454
                 replace p454 := eq_true p454
                 replace q454 := eq_true q454
                 have p455 : 0 ≤ (x13_4 : Int) := of_decide_eq_true (by assumption)
                 have q455 : x13_4 < (t450.length : Int) := of_decide_eq_true (by assumption)
                 obtain ⟨ad455,e455,hx455_0⟩ := Kd.at_int (Kd.R_reads' HO_12.out).2.2 x13_4 p455 q455
                 obtain rfl : ad453 = ad455 := (by injection e455)
                 replace p455 := eq_true p455
                 replace q455 := eq_true q455
                 have p456 : 0 ≤ ((rd t450 x13_4) : Int) := of_decide_eq_true (by assumption)
                 have q456 : (rd t450 x13_4) < (x5_2.length : Int) := of_decide_eq_true (by assumption)
                 obtain ⟨ad456,e456,hx456_0,hx456_1,hx456_2⟩ := at_T39 (Kd.R_reads' HO_5.out).2.2 (rd t450 x13_4) p456 q456
                 obtain rfl : ad454 = ad456 := (by injection e456)
                 replace p456 := eq_true p456
                 replace q456 := eq_true q456
                 go_wp2
                 go_roundg k4
                 case measure => have := HJ3.out;have := HK2.out;have := HJ7.out;have := HK4.out;omega
                 case rel => exact ⟨(wrap64 (x13_4 + 1)),(by first|rfl|(simp;done)|(simp [*];done)|(simp [qaj];done)),H',⟨by have := HJ3.out;have := HK2.out;have := HJ7.out;have := HK4.out;omega⟩,⟨by (with_reducible repeat (first|apply Kd.R_alloc|apply Kd.R_drewN|apply Kd.R_drew));exact HO_5.out⟩,⟨by (with_reducible repeat (first|apply Kd.R_alloc|apply Kd.R_drewN|apply Kd.R_drew));exact HO_10.out⟩,⟨by (with_reducible repeat (first|apply Kd.R_alloc|apply Kd.R_drewN|apply Kd.R_drew));exact HO_12.out⟩,⟨by repeat (with_reducible first|exact HB.out|apply qab|apply qaa|apply qac)⟩⟩
              ·rw [if_neg c55] at H
               exact absurd H (by simp)
             ·rw [if_neg c54] at H
              exact absurd H (by simp)
            ·rw [if_neg c53] at H
             exact absurd H (by simp)
           ·rw [if_neg c52] at H
            have c52b0 : decide (x13_4 < (t450.length : Int)) = false := decide_eq_false c52
            clear c52
            by_cases c61 : t447 = 0
            ·rw [if_pos c61] at H
             have c61b0 : (t447 == 0) = true := beq_iff_eq.mpr c61
             have c61b1 : (t447 != 0) = false := bne_eq_false_iff_eq.mpr c61
             clear c61
             replace H := Option.bind_eq_some_iff.mp H
             obtain ⟨t457,A620,H⟩ := H
             replace H : (if t457 = true then ((depends_Join.f k4 ([] : List (S39))).bind fun t458 => (some (t458.toList == ([] : List UInt8)))) else (some false)) = some r := H
             have A62 := Aside0.mk A620
             clear A620
             by_cases c63 : t457 = true
             ·subst c63
              have H1 : ((depends_Join.f k4 ([] : List (S39))).bind fun t458 => (some (t458.toList == ([] : List UInt8)))) = some r := by rw [if_pos rfl] at H;exact H
              clear H
              have H := H1
              clear H1
              replace H := Option.bind_eq_some_iff.mp H
              obtain ⟨t458,A640,H⟩ := H
              replace H : (some (t458.toList == ([] : List UInt8))) = some r := H
              have A64 := Aside0.mk A640
              clear A640
              obtain rfl := Option.some.inj H
              obtain ⟨Ao65,co65,eo65⟩ := Kd.R_slice HO_12.out
              subst eo65
              obtain ⟨Ao66,co66,eo66⟩ := Kd.R_slice HO_10.out
              subst eo66
              go_wp2_with (first|(go_at_call 15;(with_reducible refine (keelsonlaw4_sameAtoms.calls k4 _ _ t446 _ _ x5_2 true _ (by first|exact hG|exact GL.below hG (by repeat (with_reducible first|exact HB.out|apply qab|apply qaa|apply qac)))  ?side1 ?side2 ?side3 ?side4 A62.out).mono ?_);(case side1 => repeat (first|exact (Kd.R_reads' HO_10.out).2.2|(with_reducible refine Kd.C_alloc ?_ _)|(with_reducible refine Kd.C_drewN ?_ _)|(with_reducible refine Kd.C_drew ?_)));(case side2 => exact (Kd.R_reads' HO_10.out).2.1);(case side3 => repeat (first|exact (Kd.R_reads' HO_5.out).2.2|(with_reducible refine Kd.C_alloc ?_ _)|(with_reducible refine Kd.C_drewN ?_ _)|(with_reducible refine Kd.C_drew ?_)));(case side4 => exact (Kd.R_reads' HO_5.out).2.1);rintro e w' ⟨rfl,⟨nd,rfl⟩⟩)|(go_at_call 26;(refine (depends_Join.calls k4 _ _ ([] : List (S39)) t458 _ (by first|exact hG|exact GL.below hG (by repeat (with_reducible first|exact HB.out|apply qab|apply qaa|apply qac)))  ?side1 ?side2 A64.out).mono ?_);(case side1 => exact Kd.C_nil _ _);(case side2 => exact Nat.le_refl _);rintro e w67 ⟨rfl,hb⟩;have n0_ := Aside0.mk (Kd.R_below (by (with_reducible repeat (first|apply Kd.R_alloc|apply Kd.R_drewN|apply Kd.R_drew));exact HO_5.out) hb);have n1_ := Aside0.mk (Kd.R_below (by (with_reducible repeat (first|apply Kd.R_alloc|apply Kd.R_drewN|apply Kd.R_drew));exact HO_10.out) hb);have n2_ := Aside0.mk (Kd.R_below (by (with_reducible repeat (first|apply Kd.R_alloc|apply Kd.R_drewN|apply Kd.R_drew));exact HO_12.out) hb);have n3_ := Aside0.mk (qan (by repeat (with_reducible first|exact HB.out|apply qab|apply qaa|apply qac)) hb);clear HO_5;clear HO_10;clear HO_12;clear HB;have HO_5 := n0_;have HO_10 := n1_;have HO_12 := n2_;have HB := n3_;clear n0_ n1_ n2_ n3_;(try clear hb);(try clear hb2);(try clear hk);(try clear hi)))
              go_ret
              exact ⟨by first|rfl|(simp [qal,qam]<;>rfl)|(simp [*,qal,qam]<;>rfl),by repeat (with_reducible first|exact HB.out|apply qab|apply qaa|apply qac)⟩
             ·replace c63 := Bool.eq_false_iff.mpr c63
              subst c63
              have H1 : (some false) = some r := by rw [if_neg (show ¬ (false = true) by decide)] at H;exact H
              clear H
              have H := H1
              clear H1
              obtain rfl := Option.some.inj H
              obtain ⟨Ao68,co68,eo68⟩ := Kd.R_slice HO_12.out
              subst eo68
              obtain ⟨Ao69,co69,eo69⟩ := Kd.R_slice HO_10.out
              subst eo69
              go_wp2_with (first|(go_at_call 15;(with_reducible refine (keelsonlaw4_sameAtoms.calls k4 _ _ t446 _ _ x5_2 false _ (by first|exact hG|exact GL.below hG (by repeat (with_reducible first|exact HB.out|apply qab|apply qaa|apply qac)))  ?side1 ?side2 ?side3 ?side4 A62.out).mono ?_);(case side1 => repeat (first|exact (Kd.R_reads' HO_10.out).2.2|(with_reducible refine Kd.C_alloc ?_ _)|(with_reducible refine Kd.C_drewN ?_ _)|(with_reducible refine Kd.C_drew ?_)));(case side2 => exact (Kd.R_reads' HO_10.out).2.1);(case side3 => repeat (first|exact (Kd.R_reads' HO_5.out).2.2|(with_reducible refine Kd.C_alloc ?_ _)|(with_reducible refine Kd.C_drewN ?_ _)|(with_reducible refine Kd.C_drew ?_)));(case side4 => exact (Kd.R_reads' HO_5.out).2.1);rintro e w' ⟨rfl,⟨nd,rfl⟩⟩))
              go_ret
              exact ⟨by first|rfl|(simp [qal,qam]<;>rfl)|(simp [*,qal,qam]<;>rfl),by repeat (with_reducible first|exact HB.out|apply qab|apply qaa|apply qac)⟩
            ·rw [if_neg c61] at H
             have c61b0 : (t447 == 0) = false := beq_eq_false_iff_ne.mpr c61
             have c61b1 : (t447 != 0) = true := bne_iff_ne.mpr c61
             obtain rfl := Option.some.inj H
             obtain ⟨Ao70,co70,eo70⟩ := Kd.R_slice HO_12.out
             subst eo70
             go_wp2
             go_ret
             exact ⟨by first|rfl|(simp [qal,qam]<;>rfl)|(simp [*,qal,qam]<;>rfl),by repeat (with_reducible first|exact HB.out|apply qab|apply qaa|apply qac)⟩
end Go.Proofs.YtjbbgekkombpnaaGreatDoor.PA
