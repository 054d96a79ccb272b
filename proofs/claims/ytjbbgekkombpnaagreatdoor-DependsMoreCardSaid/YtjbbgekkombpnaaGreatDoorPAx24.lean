
import Derived.Test.YtjbbgekkombpnaaGreatDoorPAx0
import Derived.Test.YtjbbgekkombpnaaGreatDoorPAx11
import Derived.Test.YtjbbgekkombpnaaGreatDoorPAx18
noncomputable section
namespace Go.Proofs.YtjbbgekkombpnaaGreatDoor.PA
open Go.RowKit Go.Proofs.YtjbbgekkombpnaaGreatDoorW.PrintWords Go.Proofs.YtjbbgekkombpnaaGreatDoorW.PrintLast Go.Proofs.YtjbbgekkombpnaaGreatDoorW.PrintMore
attribute [local go_sem] max2_int min2_int max_two min_two max_three min_three max_four min_four
set_option maxHeartbeats 8000000
set_option maxRecDepth 100000
set_option linter.unusedVariables false
set_option linter.unusedSimpArgs false
mutual
def keelsonlaw4_DependsMore.j0 : Nat → List (List (S39)) → List (List (S39)) → List (S39) → Bool → Bool → ByteArray → Int → ByteArray → Option (Bool)
 | 0,_,_,_,_,_,_,_,_ => none
 | k + 1,x0,x1,x2,x9,x47,x473000,x473001,x473002 => if x47 = true then (some x9) else ((depends_Open.f k x0 x2).bind fun t489 => ((some (([] : List (S39)) : List (S39))).bind fun y492 => (if y492.length + x2.length < 3518437208883 then ((some (y492 ++ x2 : List (S39))).bind fun y495 => ((some (([(⟨x473000,x473001,x473002⟩ : S39)] : List (S39)) : List (S39))).bind fun y498 => (if y495.length + y498.length < 3518437208883 then ((depends_Open.f k x0 (y495 ++ y498)).bind fun t504 => (keelsonlaw4_DependsMore.l0 k x0 x1 x2 t489 t504 0 0)) else (none)))) else (none))))
def keelsonlaw4_DependsMore.l0 : Nat → List (List (S39)) → List (List (S39)) → List (S39) → List Int → List Int → Int → Int → Option (Bool)
 | 0,_,_,_,_,_,_,_ => none
 | k + 1,x0,x1,x2,x13,x14,x15,x16 => if x16 < (x14.length : Int) then (keelsonlaw4_DependsMore.l1 k x0 x1 x2 x13 x14 x15 x16) else ((some (([] : List (List (S39))) : List (List (S39)))).bind fun y509 => (if y509.length + x0.length < 5864062014805 then ((some (y509 ++ x0 : List (List (S39)))).bind fun y512 => (if y512.length + x1.length < 5864062014805 then ((depends_Open.f k (y512 ++ x1) x2).bind fun t518 => ((depends_Open.f k x1 x2).bind fun t521 => (keelsonlaw4_DependsMore.l2 k x0 x13 t518 t521 ([] : List Int) 0))) else (none))) else (none)))
def keelsonlaw4_DependsMore.l1 : Nat → List (List (S39)) → List (List (S39)) → List (S39) → List Int → List Int → Int → Int → Option (Bool)
 | 0,_,_,_,_,_,_,_ => none
 | k + 1,x0,x1,x2,x13,x14,x15,x16 => if x15 < (x13.length : Int) then (if 0 ≤ x15 then (if 0 ≤ x16 then (if x16 < (x14.length : Int) then (if (rd x13 x15) = (rd x14 x16) then (if x15 ≥ (x13.length : Int) then (some false) else (keelsonlaw4_DependsMore.l0 k x0 x1 x2 x13 x14 x15 (wrap64 (x16 + 1)))) else (keelsonlaw4_DependsMore.l1 k x0 x1 x2 x13 x14 (wrap64 (x15 + 1)) x16)) else (none)) else (none)) else (none)) else (if x15 ≥ (x13.length : Int) then (some false) else (keelsonlaw4_DependsMore.l0 k x0 x1 x2 x13 x14 x15 (wrap64 (x16 + 1))))
def keelsonlaw4_DependsMore.l2 : Nat → List (List (S39)) → List Int → List Int → List Int → List Int → Int → Option (Bool)
 | 0,_,_,_,_,_,_ => none
 | k + 1,x0,x13,x17,x18,x19,x20 => if x20 < (x13.length : Int) then (if 0 ≤ x20 then ((some (([rd x13 x20] : List Int) : List Int)).bind fun y525 => (if x19.length + y525.length < 17592186044416 then (keelsonlaw4_DependsMore.l2 k x0 x13 x17 x18 (x19 ++ y525) (wrap64 (x20 + 1))) else (none))) else (none)) else (keelsonlaw4_DependsMore.l3 k x0 x17 x18 x19 0)
def keelsonlaw4_DependsMore.l3 : Nat → List (List (S39)) → List Int → List Int → List Int → Int → Option (Bool)
 | 0,_,_,_,_,_ => none
 | k + 1,x0,x17,x18,x19,x21 => if x21 < (x18.length : Int) then (if 0 ≤ x21 then ((some (([wrap64 ((rd x18 x21) + (x0.length : Int))] : List Int) : List Int)).bind fun y532 => (if x19.length + y532.length < 17592186044416 then (keelsonlaw4_DependsMore.l3 k x0 x17 x18 (x19 ++ y532) (wrap64 (x21 + 1))) else (none))) else (none)) else ((keelsonlaw4_sameInts.f k x17 x19).bind fun t538 => (some t538))
end
def keelsonlaw4_DependsMore.f (k : Nat) (l0 : List (List (S39))) (l1 : List (List (S39))) (l2 : List (S39)) (a3_0 : ByteArray) (a3_1 : Int) (a3_2 : ByteArray) : Option (Bool) := (keelsonlaw4_shown.f k).bind fun t473 => ((keelsonlaw4_small.f k l0).bind fun t474 => ((keelsonlaw4_small.f k l1).bind fun t475 => ((some (([] : List (S39)) : List (S39))).bind fun y476 => (if y476.length + l2.length < 3518437208883 then ((some (y476 ++ l2 : List (S39))).bind fun y479 => ((some (([(⟨a3_0,a3_1,a3_2⟩ : S39)] : List (S39)) : List (S39))).bind fun y482 => (if y479.length + y482.length < 3518437208883 then ((keelsonlaw4_light.f k (y479 ++ y482)).bind fun t488 => (if t473 = true then (if t474 = true then (if t475 = true then (keelsonlaw4_DependsMore.j0 k l0 l1 l2 t473 (!t488) a3_0 a3_1 a3_2) else (keelsonlaw4_DependsMore.j0 k l0 l1 l2 t473 true a3_0 a3_1 a3_2)) else (keelsonlaw4_DependsMore.j0 k l0 l1 l2 t473 true a3_0 a3_1 a3_2)) else (keelsonlaw4_DependsMore.j0 k l0 l1 l2 t473 true a3_0 a3_1 a3_2))) else (none)))) else (none)))))
theorem keelsonlaw4_DependsMore.mono_l : ∀ k,(∀ y0 y1 y2 y3 y4 y5 y6 y7,LeO (keelsonlaw4_DependsMore.j0 k y0 y1 y2 y3 y4 y5 y6 y7) (keelsonlaw4_DependsMore.j0 (k + 1) y0 y1 y2 y3 y4 y5 y6 y7)) ∧ (∀ y0 y1 y2 y3 y4 y5 y6,LeO (keelsonlaw4_DependsMore.l0 k y0 y1 y2 y3 y4 y5 y6) (keelsonlaw4_DependsMore.l0 (k + 1) y0 y1 y2 y3 y4 y5 y6)) ∧ (∀ y0 y1 y2 y3 y4 y5 y6,LeO (keelsonlaw4_DependsMore.l1 k y0 y1 y2 y3 y4 y5 y6) (keelsonlaw4_DependsMore.l1 (k + 1) y0 y1 y2 y3 y4 y5 y6)) ∧ (∀ y0 y1 y2 y3 y4 y5,LeO (keelsonlaw4_DependsMore.l2 k y0 y1 y2 y3 y4 y5) (keelsonlaw4_DependsMore.l2 (k + 1) y0 y1 y2 y3 y4 y5)) ∧ (∀ y0 y1 y2 y3 y4,LeO (keelsonlaw4_DependsMore.l3 k y0 y1 y2 y3 y4) (keelsonlaw4_DependsMore.l3 (k + 1) y0 y1 y2 y3 y4))
 | 0 => ⟨fun _ _ _ _ _ _ _ _ r h => by simp [keelsonlaw4_DependsMore.j0] at h,fun _ _ _ _ _ _ _ r h => by simp [keelsonlaw4_DependsMore.l0] at h,fun _ _ _ _ _ _ _ r h => by simp [keelsonlaw4_DependsMore.l1] at h,fun _ _ _ _ _ _ r h => by simp [keelsonlaw4_DependsMore.l2] at h,fun _ _ _ _ _ r h => by simp [keelsonlaw4_DependsMore.l3] at h⟩
 | k + 1 => by
  obtain ⟨ih0,ih1,ih2,ih3,ih4⟩ := keelsonlaw4_DependsMore.mono_l k
  refine ⟨?_,?_,?_,?_,?_⟩
  ·intro y0 y1 y2 y3 y4 y5 y6 y7
   unfold keelsonlaw4_DependsMore.j0
   repeat' first
   | (with_reducible exact ih0 _ _ _ _ _ _ _ _)
   | (with_reducible exact ih1 _ _ _ _ _ _ _)
   | (with_reducible exact ih2 _ _ _ _ _ _ _)
   | (with_reducible exact ih3 _ _ _ _ _ _)
   | (with_reducible exact ih4 _ _ _ _ _)
   | (with_reducible exact depends_Open.mono _ _ _)
   | (with_reducible exact keelsonlaw4_light.mono _ _)
   | (with_reducible exact keelsonlaw4_sameInts.mono _ _ _)
   | (with_reducible exact keelsonlaw4_shown.mono _)
   | (with_reducible exact keelsonlaw4_small.mono _ _)
   | (with_reducible exact LeO.refl _)
   | (with_reducible exact LeO.none _)
   | (with_reducible refine LeO.ite ?_ ?_)
   | (with_reducible refine LeO.bind ?_ (fun _ => ?_))
   | exact ih0 _ _ _ _ _ _ _ _
   | exact ih1 _ _ _ _ _ _ _
   | exact ih2 _ _ _ _ _ _ _
   | exact ih3 _ _ _ _ _ _
   | exact ih4 _ _ _ _ _
   | exact depends_Open.mono _ _ _
   | exact keelsonlaw4_light.mono _ _
   | exact keelsonlaw4_sameInts.mono _ _ _
   | exact keelsonlaw4_shown.mono _
   | exact keelsonlaw4_small.mono _ _
   | exact LeO.none _
   | refine LeO.ite ?_ ?_
   | refine LeO.bind ?_ (fun _ => ?_)
  ·intro y0 y1 y2 y3 y4 y5 y6
   unfold keelsonlaw4_DependsMore.l0
   repeat' first
   | (with_reducible exact ih0 _ _ _ _ _ _ _ _)
   | (with_reducible exact ih1 _ _ _ _ _ _ _)
   | (with_reducible exact ih2 _ _ _ _ _ _ _)
   | (with_reducible exact ih3 _ _ _ _ _ _)
   | (with_reducible exact ih4 _ _ _ _ _)
   | (with_reducible exact depends_Open.mono _ _ _)
   | (with_reducible exact keelsonlaw4_light.mono _ _)
   | (with_reducible exact keelsonlaw4_sameInts.mono _ _ _)
   | (with_reducible exact keelsonlaw4_shown.mono _)
   | (with_reducible exact keelsonlaw4_small.mono _ _)
   | (with_reducible exact LeO.refl _)
   | (with_reducible exact LeO.none _)
   | (with_reducible refine LeO.ite ?_ ?_)
   | (with_reducible refine LeO.bind ?_ (fun _ => ?_))
   | exact ih0 _ _ _ _ _ _ _ _
   | exact ih1 _ _ _ _ _ _ _
   | exact ih2 _ _ _ _ _ _ _
   | exact ih3 _ _ _ _ _ _
   | exact ih4 _ _ _ _ _
   | exact depends_Open.mono _ _ _
   | exact keelsonlaw4_light.mono _ _
   | exact keelsonlaw4_sameInts.mono _ _ _
   | exact keelsonlaw4_shown.mono _
   | exact keelsonlaw4_small.mono _ _
   | exact LeO.none _
   | refine LeO.ite ?_ ?_
   | refine LeO.bind ?_ (fun _ => ?_)
  ·intro y0 y1 y2 y3 y4 y5 y6
   unfold keelsonlaw4_DependsMore.l1
   repeat' first
   | (with_reducible exact ih0 _ _ _ _ _ _ _ _)
   | (with_reducible exact ih1 _ _ _ _ _ _ _)
   | (with_reducible exact ih2 _ _ _ _ _ _ _)
   | (with_reducible exact ih3 _ _ _ _ _ _)
   | (with_reducible exact ih4 _ _ _ _ _)
   | (with_reducible exact depends_Open.mono _ _ _)
   | (with_reducible exact keelsonlaw4_light.mono _ _)
   | (with_reducible exact keelsonlaw4_sameInts.mono _ _ _)
   | (with_reducible exact keelsonlaw4_shown.mono _)
   | (with_reducible exact keelsonlaw4_small.mono _ _)
   | (with_reducible exact LeO.refl _)
   | (with_reducible exact LeO.none _)
   | (with_reducible refine LeO.ite ?_ ?_)
   | (with_reducible refine LeO.bind ?_ (fun _ => ?_))
   | exact ih0 _ _ _ _ _ _ _ _
   | exact ih1 _ _ _ _ _ _ _
   | exact ih2 _ _ _ _ _ _ _
   | exact ih3 _ _ _ _ _ _
   | exact ih4 _ _ _ _ _
   | exact depends_Open.mono _ _ _
   | exact keelsonlaw4_light.mono _ _
   | exact keelsonlaw4_sameInts.mono _ _ _
   | exact keelsonlaw4_shown.mono _
   | exact keelsonlaw4_small.mono _ _
   | exact LeO.none _
   | refine LeO.ite ?_ ?_
   | refine LeO.bind ?_ (fun _ => ?_)
  ·intro y0 y1 y2 y3 y4 y5
   unfold keelsonlaw4_DependsMore.l2
   repeat' first
   | (with_reducible exact ih0 _ _ _ _ _ _ _ _)
   | (with_reducible exact ih1 _ _ _ _ _ _ _)
   | (with_reducible exact ih2 _ _ _ _ _ _ _)
   | (with_reducible exact ih3 _ _ _ _ _ _)
   | (with_reducible exact ih4 _ _ _ _ _)
   | (with_reducible exact depends_Open.mono _ _ _)
   | (with_reducible exact keelsonlaw4_light.mono _ _)
   | (with_reducible exact keelsonlaw4_sameInts.mono _ _ _)
   | (with_reducible exact keelsonlaw4_shown.mono _)
   | (with_reducible exact keelsonlaw4_small.mono _ _)
   | (with_reducible exact LeO.refl _)
   | (with_reducible exact LeO.none _)
   | (with_reducible refine LeO.ite ?_ ?_)
   | (with_reducible refine LeO.bind ?_ (fun _ => ?_))
   | exact ih0 _ _ _ _ _ _ _ _
   | exact ih1 _ _ _ _ _ _ _
   | exact ih2 _ _ _ _ _ _ _
   | exact ih3 _ _ _ _ _ _
   | exact ih4 _ _ _ _ _
   | exact depends_Open.mono _ _ _
   | exact keelsonlaw4_light.mono _ _
   | exact keelsonlaw4_sameInts.mono _ _ _
   | exact keelsonlaw4_shown.mono _
   | exact keelsonlaw4_small.mono _ _
   | exact LeO.none _
   | refine LeO.ite ?_ ?_
   | refine LeO.bind ?_ (fun _ => ?_)
  ·intro y0 y1 y2 y3 y4
   unfold keelsonlaw4_DependsMore.l3
   repeat' first
   | (with_reducible exact ih0 _ _ _ _ _ _ _ _)
   | (with_reducible exact ih1 _ _ _ _ _ _ _)
   | (with_reducible exact ih2 _ _ _ _ _ _ _)
   | (with_reducible exact ih3 _ _ _ _ _ _)
   | (with_reducible exact ih4 _ _ _ _ _)
   | (with_reducible exact depends_Open.mono _ _ _)
   | (with_reducible exact keelsonlaw4_light.mono _ _)
   | (with_reducible exact keelsonlaw4_sameInts.mono _ _ _)
   | (with_reducible exact keelsonlaw4_shown.mono _)
   | (with_reducible exact keelsonlaw4_small.mono _ _)
   | (with_reducible exact LeO.refl _)
   | (with_reducible exact LeO.none _)
   | (with_reducible refine LeO.ite ?_ ?_)
   | (with_reducible refine LeO.bind ?_ (fun _ => ?_))
   | exact ih0 _ _ _ _ _ _ _ _
   | exact ih1 _ _ _ _ _ _ _
   | exact ih2 _ _ _ _ _ _ _
   | exact ih3 _ _ _ _ _ _
   | exact ih4 _ _ _ _ _
   | exact depends_Open.mono _ _ _
   | exact keelsonlaw4_light.mono _ _
   | exact keelsonlaw4_sameInts.mono _ _ _
   | exact keelsonlaw4_shown.mono _
   | exact keelsonlaw4_small.mono _ _
   | exact LeO.none _
   | refine LeO.ite ?_ ?_
   | refine LeO.bind ?_ (fun _ => ?_)
theorem keelsonlaw4_DependsMore.mono : ∀ a0 a1 a2 a3 a4 a5 k,LeO (keelsonlaw4_DependsMore.f k a0 a1 a2 a3 a4 a5) (keelsonlaw4_DependsMore.f (k + 1) a0 a1 a2 a3 a4 a5) := by
 intro a0 a1 a2 a3 a4 a5 k
 obtain ⟨ih0,ih1,ih2,ih3,ih4⟩ := keelsonlaw4_DependsMore.mono_l k
 unfold keelsonlaw4_DependsMore.f
 repeat' first
   | (with_reducible exact ih0 _ _ _ _ _ _ _ _)
   | (with_reducible exact ih1 _ _ _ _ _ _ _)
   | (with_reducible exact ih2 _ _ _ _ _ _ _)
   | (with_reducible exact ih3 _ _ _ _ _ _)
   | (with_reducible exact ih4 _ _ _ _ _)
   | (with_reducible exact depends_Open.mono _ _ _)
   | (with_reducible exact keelsonlaw4_light.mono _ _)
   | (with_reducible exact keelsonlaw4_sameInts.mono _ _ _)
   | (with_reducible exact keelsonlaw4_shown.mono _)
   | (with_reducible exact keelsonlaw4_small.mono _ _)
   | (with_reducible exact LeO.refl _)
   | (with_reducible exact LeO.none _)
   | (with_reducible refine LeO.ite ?_ ?_)
   | (with_reducible refine LeO.bind ?_ (fun _ => ?_))
   | exact ih0 _ _ _ _ _ _ _ _
   | exact ih1 _ _ _ _ _ _ _
   | exact ih2 _ _ _ _ _ _ _
   | exact ih3 _ _ _ _ _ _
   | exact ih4 _ _ _ _ _
   | exact depends_Open.mono _ _ _
   | exact keelsonlaw4_light.mono _ _
   | exact keelsonlaw4_sameInts.mono _ _ _
   | exact keelsonlaw4_shown.mono _
   | exact keelsonlaw4_small.mono _ _
   | exact LeO.none _
   | refine LeO.ite ?_ ?_
   | refine LeO.bind ?_ (fun _ => ?_)
def keelsonlaw4_DependsMore.T4 : Bool × List (List Nat × List Nat) := (true,[([],[]),([],[]),([0,1],[0,1]),([],[]),([3],[3]),([2,4,2],[2,4]),([5,5],[5]),([6,6,0,1,2,3,4,5,6],[6])])
def keelsonlaw4_DependsMore.B4 : List Nat := [0,0,3,0,8,31,63,127]
theorem keelsonlaw4_DependsMore.tab4 : rtab .any (opsOf Tryz.f6 4) = keelsonlaw4_DependsMore.T4 := by kernel_rfl
theorem keelsonlaw4_DependsMore.bits4 : waitsOk keelsonlaw4_DependsMore.T4.2 keelsonlaw4_DependsMore.B4 = true := by kernel_rfl
def keelsonlaw4_DependsMore.T8 : Bool × List (List Nat × List Nat) := (true,[([],[]),([],[]),([],[]),([1,2],[1,2]),([],[]),([4],[4]),([3,5,3],[3,5]),([0,6,6],[0,6]),([7,7,0,1,2,3,4,5,6,7],[7])])
def keelsonlaw4_DependsMore.B8 : List Nat := [0,0,0,6,0,16,62,127,255]
theorem keelsonlaw4_DependsMore.tab8 : rtab .any (opsOf Tryz.f6 8) = keelsonlaw4_DependsMore.T8 := by kernel_rfl
theorem keelsonlaw4_DependsMore.bits8 : waitsOk keelsonlaw4_DependsMore.T8.2 keelsonlaw4_DependsMore.B8 = true := by kernel_rfl
def keelsonlaw4_DependsMore.T13 : Bool × List (List Nat × List Nat) := (true,[([],[]),([],[]),([1],[1]),([0,2],[0,2]),([3],[3]),([4],[4]),([4],[4]),([5,6,4],[4,5,6]),([7,4],[4,7]),([4],[4]),([4],[4]),([9,10,4],[4,9,10]),([11,4],[4,11]),([8,12,4],[4,8,12]),([4,13],[4,13])])
def keelsonlaw4_DependsMore.B13 : List Nat := [0,0,2,7,15,31,31,127,255,31,31,1567,3615,8191,16383]
theorem keelsonlaw4_DependsMore.tab13 : rtab .any (opsOf Tryz.f6 13) = keelsonlaw4_DependsMore.T13 := by kernel_rfl
theorem keelsonlaw4_DependsMore.bits13 : waitsOk keelsonlaw4_DependsMore.T13.2 keelsonlaw4_DependsMore.B13 = true := by kernel_rfl
theorem keelsonlaw4_DependsMore.calls (k : Nat) (P0_ : Nat → Prop) (A0 : Option Addr) (c0 : Nat) (l0 : List (List (S39))) (P1_ : Nat → Prop) (A1 : Option Addr) (c1 : Nat) (l1 : List (List (S39))) (A2 : Option Addr) (c2 : Nat) (l2 : List (S39)) (a3_0 : ByteArray) (a3_1 : Int) (a3_2 : ByteArray) (r : Bool) (w : World) (hG : GL w) (hs0 : Kd.V (Kd.slice 39 k39) 48 w w.heap.size (fun k_ => P0_ k_) (.slice A0 l0.length c0) l0) (hs1 : Kd.V (Kd.slice 39 k39) 48 w w.heap.size (fun k_ => P1_ k_) (.slice A1 l1.length c1) l1) (hr2 : Kd.C k39 w A2 l2.length l2) (hc2 : l2.length ≤ c2) (h : keelsonlaw4_DependsMore.f k l0 l1 l2 a3_0 a3_1 a3_2 = some r) :
  Calls Tryz.prog 6 #[.slice A0 l0.length c0,.slice A1 l1.length c1,.slice A2 l2.length c2,.agg #[.string a3_0,.int .i64 a3_1,.string a3_2]] w fun e w' => e = .returned (.bool r) ∧ Below w.heap.size w w' := by
 have hu39 := Tryz.underlying39
 have HO0 := Aside0.mk (show Kd.V (Kd.slice 39 k39) 48 w w.heap.size (fun k_ => ((P0_ k_ ∨ P1_ k_) ∨ w.heap.size ≤ k_)) (.slice A0 l0.length c0) l0 from Kd.V_mono hs0 (fun k_ hk => .inl (.inl hk)))
 have HO1 := Aside0.mk (show Kd.V (Kd.slice 39 k39) 48 w w.heap.size (fun k_ => ((P0_ k_ ∨ P1_ k_) ∨ w.heap.size ≤ k_)) (.slice A1 l1.length c1) l1 from Kd.V_mono hs1 (fun k_ hk => .inl (.inr hk)))
 have HR2 := Aside0.mk hr2
 have HC2 := Aside0.mk hc2
 clear hr2 hc2
 have HB := Aside0.mk (Below.refl w.heap.size w)
 have H : ((keelsonlaw4_shown.f k).bind fun t473 => ((keelsonlaw4_small.f k l0).bind fun t474 => ((keelsonlaw4_small.f k l1).bind fun t475 => ((some (([] : List (S39)) : List (S39))).bind fun y476 => (if y476.length + l2.length < 3518437208883 then ((some (y476 ++ l2 : List (S39))).bind fun y479 => ((some (([(⟨a3_0,a3_1,a3_2⟩ : S39)] : List (S39)) : List (S39))).bind fun y482 => (if y479.length + y482.length < 3518437208883 then ((keelsonlaw4_light.f k (y479 ++ y482)).bind fun t488 => (if t473 = true then (if t474 = true then (if t475 = true then (keelsonlaw4_DependsMore.j0 k l0 l1 l2 t473 (!t488) a3_0 a3_1 a3_2) else (keelsonlaw4_DependsMore.j0 k l0 l1 l2 t473 true a3_0 a3_1 a3_2)) else (keelsonlaw4_DependsMore.j0 k l0 l1 l2 t473 true a3_0 a3_1 a3_2)) else (keelsonlaw4_DependsMore.j0 k l0 l1 l2 t473 true a3_0 a3_1 a3_2))) else (none)))) else (none)))))) = some r := h
 clear h
 replace H := Option.bind_eq_some_iff.mp H
 obtain ⟨t473,A50,H⟩ := H
 replace H : ((keelsonlaw4_small.f k l0).bind fun t474 => ((keelsonlaw4_small.f k l1).bind fun t475 => ((some (([] : List (S39)) : List (S39))).bind fun y476 => (if y476.length + l2.length < 3518437208883 then ((some (y476 ++ l2 : List (S39))).bind fun y479 => ((some (([(⟨a3_0,a3_1,a3_2⟩ : S39)] : List (S39)) : List (S39))).bind fun y482 => (if y479.length + y482.length < 3518437208883 then ((keelsonlaw4_light.f k (y479 ++ y482)).bind fun t488 => (if t473 = true then (if t474 = true then (if t475 = true then (keelsonlaw4_DependsMore.j0 k l0 l1 l2 t473 (!t488) a3_0 a3_1 a3_2) else (keelsonlaw4_DependsMore.j0 k l0 l1 l2 t473 true a3_0 a3_1 a3_2)) else (keelsonlaw4_DependsMore.j0 k l0 l1 l2 t473 true a3_0 a3_1 a3_2)) else (keelsonlaw4_DependsMore.j0 k l0 l1 l2 t473 true a3_0 a3_1 a3_2))) else (none)))) else (none))))) = some r := H
 have A5 := Aside0.mk A50
 clear A50
 replace H := Option.bind_eq_some_iff.mp H
 obtain ⟨t474,A60,H⟩ := H
 replace H : ((keelsonlaw4_small.f k l1).bind fun t475 => ((some (([] : List (S39)) : List (S39))).bind fun y476 => (if y476.length + l2.length < 3518437208883 then ((some (y476 ++ l2 : List (S39))).bind fun y479 => ((some (([(⟨a3_0,a3_1,a3_2⟩ : S39)] : List (S39)) : List (S39))).bind fun y482 => (if y479.length + y482.length < 3518437208883 then ((keelsonlaw4_light.f k (y479 ++ y482)).bind fun t488 => (if t473 = true then (if t474 = true then (if t475 = true then (keelsonlaw4_DependsMore.j0 k l0 l1 l2 t473 (!t488) a3_0 a3_1 a3_2) else (keelsonlaw4_DependsMore.j0 k l0 l1 l2 t473 true a3_0 a3_1 a3_2)) else (keelsonlaw4_DependsMore.j0 k l0 l1 l2 t473 true a3_0 a3_1 a3_2)) else (keelsonlaw4_DependsMore.j0 k l0 l1 l2 t473 true a3_0 a3_1 a3_2))) else (none)))) else (none)))) = some r := H
 have A6 := Aside0.mk A60
 clear A60
 replace H := Option.bind_eq_some_iff.mp H
 obtain ⟨t475,A70,H⟩ := H
 replace H : ((some (([] : List (S39)) : List (S39))).bind fun y476 => (if y476.length + l2.length < 3518437208883 then ((some (y476 ++ l2 : List (S39))).bind fun y479 => ((some (([(⟨a3_0,a3_1,a3_2⟩ : S39)] : List (S39)) : List (S39))).bind fun y482 => (if y479.length + y482.length < 3518437208883 then ((keelsonlaw4_light.f k (y479 ++ y482)).bind fun t488 => (if t473 = true then (if t474 = true then (if t475 = true then (keelsonlaw4_DependsMore.j0 k l0 l1 l2 t473 (!t488) a3_0 a3_1 a3_2) else (keelsonlaw4_DependsMore.j0 k l0 l1 l2 t473 true a3_0 a3_1 a3_2)) else (keelsonlaw4_DependsMore.j0 k l0 l1 l2 t473 true a3_0 a3_1 a3_2)) else (keelsonlaw4_DependsMore.j0 k l0 l1 l2 t473 true a3_0 a3_1 a3_2))) else (none)))) else (none))) = some r := H
 have A7 := Aside0.mk A70
 clear A70
 obtain ⟨y476,hy476⟩ : ∃ y_ : List (S39),y_ = (([] : List (S39))) := ⟨_,rfl⟩
 replace H : (if y476.length + l2.length < 3518437208883 then ((some (y476 ++ l2 : List (S39))).bind fun y479 => ((some (([(⟨a3_0,a3_1,a3_2⟩ : S39)] : List (S39)) : List (S39))).bind fun y482 => (if y479.length + y482.length < 3518437208883 then ((keelsonlaw4_light.f k (y479 ++ y482)).bind fun t488 => (if t473 = true then (if t474 = true then (if t475 = true then (keelsonlaw4_DependsMore.j0 k l0 l1 l2 t473 (!t488) a3_0 a3_1 a3_2) else (keelsonlaw4_DependsMore.j0 k l0 l1 l2 t473 true a3_0 a3_1 a3_2)) else (keelsonlaw4_DependsMore.j0 k l0 l1 l2 t473 true a3_0 a3_1 a3_2)) else (keelsonlaw4_DependsMore.j0 k l0 l1 l2 t473 true a3_0 a3_1 a3_2))) else (none)))) else (none)) = some r := by first|(rw [hy476];with_reducible exact H)|(have H2_ := (Option.bind_some _ _).symm.trans H;rw [hy476];with_reducible exact H2_)|(have H2_ := (Option.bind_some _ _).symm.trans H;with_reducible exact H2_) | with_reducible exact H|(rw [hy476];exact H)|exact H
 have Ny476 := Aside0.mk hy476
 clear hy476
 by_cases c8 : y476.length + l2.length < 3518437208883
 ·rw [if_pos c8] at H
  have LMc8 := Aside0.mk c8
  clear c8
  obtain ⟨y479,hy479⟩ : ∃ y_ : List (S39),y_ = (y476 ++ l2) := ⟨_,rfl⟩
  replace H : ((some (([(⟨a3_0,a3_1,a3_2⟩ : S39)] : List (S39)) : List (S39))).bind fun y482 => (if y479.length + y482.length < 3518437208883 then ((keelsonlaw4_light.f k (y479 ++ y482)).bind fun t488 => (if t473 = true then (if t474 = true then (if t475 = true then (keelsonlaw4_DependsMore.j0 k l0 l1 l2 t473 (!t488) a3_0 a3_1 a3_2) else (keelsonlaw4_DependsMore.j0 k l0 l1 l2 t473 true a3_0 a3_1 a3_2)) else (keelsonlaw4_DependsMore.j0 k l0 l1 l2 t473 true a3_0 a3_1 a3_2)) else (keelsonlaw4_DependsMore.j0 k l0 l1 l2 t473 true a3_0 a3_1 a3_2))) else (none))) = some r := by first|(rw [hy479];with_reducible exact H)|(have H2_ := (Option.bind_some _ _).symm.trans H;rw [hy479];with_reducible exact H2_)|(have H2_ := (Option.bind_some _ _).symm.trans H;with_reducible exact H2_) | with_reducible exact H|(rw [hy479];exact H)|exact H
  have Ny479 := Aside0.mk hy479
  clear hy479
  obtain ⟨y482,hy482⟩ : ∃ y_ : List (S39),y_ = (([(⟨a3_0,a3_1,a3_2⟩ : S39)] : List (S39))) := ⟨_,rfl⟩
  replace H : (if y479.length + y482.length < 3518437208883 then ((keelsonlaw4_light.f k (y479 ++ y482)).bind fun t488 => (if t473 = true then (if t474 = true then (if t475 = true then (keelsonlaw4_DependsMore.j0 k l0 l1 l2 t473 (!t488) a3_0 a3_1 a3_2) else (keelsonlaw4_DependsMore.j0 k l0 l1 l2 t473 true a3_0 a3_1 a3_2)) else (keelsonlaw4_DependsMore.j0 k l0 l1 l2 t473 true a3_0 a3_1 a3_2)) else (keelsonlaw4_DependsMore.j0 k l0 l1 l2 t473 true a3_0 a3_1 a3_2))) else (none)) = some r := by first|(rw [hy482];with_reducible exact H)|(have H2_ := (Option.bind_some _ _).symm.trans H;rw [hy482];with_reducible exact H2_)|(have H2_ := (Option.bind_some _ _).symm.trans H;with_reducible exact H2_) | with_reducible exact H|(rw [hy482];exact H)|exact H
  have Ny482 := Aside0.mk hy482
  clear hy482
  by_cases c9 : y479.length + y482.length < 3518437208883
  ·rw [if_pos c9] at H
   have LMc9 := Aside0.mk c9
   clear c9
   obtain ⟨y485,hy485⟩ : ∃ y_ : List (S39),y_ = (y479 ++ y482) := ⟨_,rfl⟩
   replace H : ((keelsonlaw4_light.f k y485).bind fun t488 => (if t473 = true then (if t474 = true then (if t475 = true then (keelsonlaw4_DependsMore.j0 k l0 l1 l2 t473 (!t488) a3_0 a3_1 a3_2) else (keelsonlaw4_DependsMore.j0 k l0 l1 l2 t473 true a3_0 a3_1 a3_2)) else (keelsonlaw4_DependsMore.j0 k l0 l1 l2 t473 true a3_0 a3_1 a3_2)) else (keelsonlaw4_DependsMore.j0 k l0 l1 l2 t473 true a3_0 a3_1 a3_2))) = some r := by first|(rw [hy485];with_reducible exact H)|(have H2_ := (Option.bind_some _ _).symm.trans H;rw [hy485];with_reducible exact H2_)|(have H2_ := (Option.bind_some _ _).symm.trans H;with_reducible exact H2_) | with_reducible exact H|(rw [hy485];exact H)|exact H
   have Ny485 := Aside0.mk hy485
   clear hy485
   replace H := Option.bind_eq_some_iff.mp H
   obtain ⟨t488,A100,H⟩ := H
   replace H : (if t473 = true then (if t474 = true then (if t475 = true then (keelsonlaw4_DependsMore.j0 k l0 l1 l2 t473 (!t488) a3_0 a3_1 a3_2) else (keelsonlaw4_DependsMore.j0 k l0 l1 l2 t473 true a3_0 a3_1 a3_2)) else (keelsonlaw4_DependsMore.j0 k l0 l1 l2 t473 true a3_0 a3_1 a3_2)) else (keelsonlaw4_DependsMore.j0 k l0 l1 l2 t473 true a3_0 a3_1 a3_2)) = some r := H
   have A10 := Aside0.mk A100
   clear A100
   have HC11 := Aside0.mk H
   clear H
   go_enter Tryz.func6,Tryz.ntmps6
   try go_wp2_with (first|((with_reducible refine gate_dst (N := 7) rfl ?_);refine box_event ?hg (N := 7) ?hd (cs := #[.string a3_0,.int .i64 a3_1,.string a3_2]) (t := 39) ?hr ?_;(case hd => rfl);(case hg => rfl);(case hr => first|(go_simp;done)|(go_simp;rfl));intro gb472 hg w12 hbox hb;have n0_ := Aside0.mk (Kd.V_below (Kd.V_elderB (by (with_reducible repeat (first|apply Kd.V_alloc|apply Kd.V_drewN|apply Kd.V_drew));exact HO0.out) gb472 (Nat.le_of_eq hg.symm)) hb);have n1_ := Aside0.mk (Kd.V_below (Kd.V_elderB (by (with_reducible repeat (first|apply Kd.V_alloc|apply Kd.V_drewN|apply Kd.V_drew));exact HO1.out) gb472 (Nat.le_of_eq hg.symm)) hb);have n2_ := Aside0.mk (qao (by repeat (with_reducible first|exact HB.out|apply qac|apply qaa|apply qab)) hb);have n3_ := Aside0.mk (hbox);have n4_ := Aside0.mk ((by rw [hg];exact (qal (by repeat (with_reducible first|exact HB.out|apply qac|apply qaa|apply qab))) : w.heap.size ≤ gb472));have n5_ := Aside0.mk ((by rw [hg];exact (qal (by repeat (with_reducible first|exact HB.out|apply qac|apply qaa|apply qab))) : w.heap.size ≤ gb472));clear HO0;clear HO1;clear HB;have HO0 := n0_;have HO1 := n1_;have HB := n2_;have BK472 := n3_;have GW472 := n4_;have GE472 := n5_;clear n0_ n1_ n2_ n3_ n4_ n5_;clear hb hbox hg)|((with_reducible refine qaj (f := 9) rfl ?_);refine goesL_ (some 22) rfl rfl Tryz.func9 (by kernel_rfl) rfl #[] rfl (by first|rfl|(simp only [List.map_toArray,List.map_cons,List.map_nil,List.length_drop,List.length_take];rfl)|simp only [List.map_toArray,List.map_cons,List.map_nil]) ?_;(with_reducible refine (keelsonlaw4_shown.calls k  t473 _ (by first|exact hG|exact GL.below hG (by repeat (first|(with_reducible first|exact HB.out|apply qac|apply qaa|apply qab|refine qad ?_ GE472.out)|exact HB.out)))  A5.out).mono ?_);rintro e w13 ⟨rfl,hb⟩;refine ⟨_,rfl,?_⟩;have n0_ := Aside0.mk (Kd.V_below (by (with_reducible repeat (first|apply Kd.V_alloc|apply Kd.V_drewN|apply Kd.V_drew));exact HO0.out) hb);have n1_ := Aside0.mk (Kd.V_below (by (with_reducible repeat (first|apply Kd.V_alloc|apply Kd.V_drewN|apply Kd.V_drew));exact HO1.out) hb);have n2_ := Aside0.mk (qap (g := gb472) (o := .cells #[.string a3_0,.int .i64 a3_1,.string a3_2] 39 (0,0)) (by (with_reducible repeat (first|refine qag ?_ _|refine qai ?_|refine qaf ?_ _));exact BK472.out) hb);have n3_ := Aside0.mk (qao (by repeat (first|(with_reducible first|exact HB.out|apply qac|apply qaa|apply qab|refine qad ?_ GE472.out)|exact HB.out)) hb);clear HO0;clear HO1;clear BK472;clear HB;have HO0 := n0_;have HO1 := n1_;have BK472 := n2_;have HB := n3_;clear n0_ n1_ n2_ n3_;(try clear hb);(try clear hb2);(try clear hk);(try clear hi))|((with_reducible refine qaj (f := 16) rfl ?_);refine goesL_ (some 24) rfl rfl Tryz.func16 (by kernel_rfl) rfl #[.slice A0 l0.length c0] rfl (by first|rfl|(simp only [List.map_toArray,List.map_cons,List.map_nil,List.length_drop,List.length_take];rfl)|simp only [List.map_toArray,List.map_cons,List.map_nil]) ?_;(with_reducible refine (keelsonlaw4_small.calls k _ _ l0 t474 _ (by first|exact hG|exact GL.below hG (by repeat (first|(with_reducible first|exact HB.out|apply qac|apply qaa|apply qab|refine qad ?_ GE472.out)|exact HB.out)))  ?side1 ?side2 A6.out).mono ?_);(case side1 => repeat (first|exact (Kd.V_reads' HO0.out).2.2|(with_reducible refine Kd.C_alloc ?_ _)|(with_reducible refine Kd.C_drewN ?_ _)|(with_reducible refine Kd.C_drew ?_)));(case side2 => exact (Kd.V_reads' HO0.out).2.1);rintro e w' ⟨rfl,⟨nd,rfl⟩⟩;refine ⟨_,rfl,?_⟩)|((with_reducible refine qaj (f := 16) rfl ?_);refine goesL_ (some 26) rfl rfl Tryz.func16 (by kernel_rfl) rfl #[.slice A1 l1.length c1] rfl (by first|rfl|(simp only [List.map_toArray,List.map_cons,List.map_nil,List.length_drop,List.length_take];rfl)|simp only [List.map_toArray,List.map_cons,List.map_nil]) ?_;(with_reducible refine (keelsonlaw4_small.calls k _ _ l1 t475 _ (by first|exact hG|exact GL.below hG (by repeat (first|(with_reducible first|exact HB.out|apply qac|apply qaa|apply qab|refine qad ?_ GE472.out)|exact HB.out)))  ?side1 ?side2 A7.out).mono ?_);(case side1 => repeat (first|exact (Kd.V_reads' HO1.out).2.2|(with_reducible refine Kd.C_alloc ?_ _)|(with_reducible refine Kd.C_drewN ?_ _)|(with_reducible refine Kd.C_drew ?_)));(case side2 => exact (Kd.V_reads' HO1.out).2.1);rintro e w' ⟨rfl,⟨nd,rfl⟩⟩;refine ⟨_,rfl,?_⟩))
   (try (rw [drewN_self w13];generalize hq_ : World.drewN w13 _ = w13;have n0_ : Aside0 (Kd.V (Kd.slice 39 k39) 48 w13 w.heap.size (fun k_ => ((P0_ k_ ∨ P1_ k_) ∨ w.heap.size ≤ k_) ∧ k_ ≠ gb472) (.slice A0 l0.length c0) l0) := ⟨by rw [← hq_];exact (by (with_reducible repeat (first|apply Kd.V_alloc|apply Kd.V_drewN|apply Kd.V_drew));exact HO0.out)⟩;have n1_ : Aside0 (Kd.V (Kd.slice 39 k39) 48 w13 w.heap.size (fun k_ => ((P0_ k_ ∨ P1_ k_) ∨ w.heap.size ≤ k_) ∧ k_ ≠ gb472) (.slice A1 l1.length c1) l1) := ⟨by rw [← hq_];exact (by (with_reducible repeat (first|apply Kd.V_alloc|apply Kd.V_drewN|apply Kd.V_drew));exact HO1.out)⟩;have n2_ : Aside0 (w13.heap[gb472]? = some (.cells #[.string a3_0,.int .i64 a3_1,.string a3_2] 39 (0,0))) := ⟨by rw [← hq_];exact (by (with_reducible repeat (first|refine qag ?_ _|refine qai ?_|refine qaf ?_ _));exact BK472.out)⟩;have n3_ : Aside0 (Below w.heap.size w w13) := ⟨by rw [← hq_];exact (by repeat (first|(with_reducible first|exact HB.out|apply qac|apply qaa|apply qab|refine qad ?_ GE472.out)|exact HB.out))⟩;clear HO0 HO1 BK472 HB hq_;have HO0 := n0_;have HO1 := n1_;have BK472 := n2_;have HB := n3_;clear n0_ n1_ n2_ n3_))
   have n0_ := Aside0.mk (Kd.V_drew HO0.out)
   have n1_ := Aside0.mk (Kd.V_drew HO1.out)
   have n2_ := Aside0.mk (qai BK472.out)
   have n3_ := Aside0.mk (qab HB.out)
   clear HO0
   clear HO1
   clear BK472
   clear HB
   have HO0 := n0_
   have HO1 := n1_
   have BK472 := n2_
   have HB := n3_
   clear n0_ n1_ n2_ n3_
   refine start_ (n := 8) (S := fun w' => w'.cell? ⟨gb472,0,none⟩ = some (.string a3_0) ∧ w'.cell? ⟨gb472,1,none⟩ = some (.int .i64 a3_1) ∧ w'.cell? ⟨gb472,2,none⟩ = some (.string a3_2)) (ds := []) #[false,false,false,false,false,false,false,false] (by kernel_rfl) rfl rfl ⟨(qae BK472.out 0).trans rfl,(qae BK472.out 1).trans rfl,(qae BK472.out 2).trans rfl⟩ (fun hHeld => ?_);refine with_tabW keelsonlaw4_DependsMore.tab4 keelsonlaw4_DependsMore.bits4 (fun HT_ HW_ => ?_)
   generalize w13.drew = w14 at HO0 HO1 BK472 HB hHeld ⊢
   refine pure_ (i := 1) (N := some 28) (v := ?_) (a' := ?_) #[false,true,false,false,false,false,false,false] rfl rfl (any_of HT_.out (by kernel_rfl)) (fun _ _ _ h => h) (Or.inl ⟨by rfl,?_⟩) ?_ ?_
   rotate_left
   ·intro w'
    go_simp
    with_reducible rfl
   rotate_left
   ·simp only [Act.put,List.setIfInBounds_toArray,List.set_cons_zero,List.set_cons_succ,i64_w,i32_w]
    rfl
   refine take_ (i := 3) (N := some 30) (v := ?_) (a' := ?_) #[false,true,false,true,false,false,false,false] rfl rfl (take_ofW HT_.out HW_.out (by kernel_rfl)) (fun _ _ _ h => h) (Or.inl ⟨by rfl,?_⟩) hHeld ?_ ?_
   rotate_left
   ·rintro w' ⟨s0,s1,s2⟩
    go_simp
    with_reducible rfl
   rotate_left
   ·simp only [Act.put,List.setIfInBounds_toArray,List.set_cons_zero,List.set_cons_succ,i64_w,i32_w]
    rfl
   refine join_ (σ := Value × Value × Value) 3 #[true,true,true,true,true,false,false,false] (fun s_ => [(27,s_.1),(29,s_.2.1),(31,s_.2.2)]) (fun s_ w' => (w'.cell? ⟨gb472,0,none⟩ = some (.string a3_0) ∧ w'.cell? ⟨gb472,1,none⟩ = some (.int .i64 a3_1) ∧ w'.cell? ⟨gb472,2,none⟩ = some (.string a3_2)) ∧ (Kd.V (Kd.slice 39 k39) 48 w' w.heap.size (fun k_ => ((P0_ k_ ∨ P1_ k_) ∨ w.heap.size ≤ k_) ∧ some k_ ≠ (s_.2.1 : Value).ownBlock ∧ some k_ ≠ (s_.2.2 : Value).ownBlock ∧ k_ ≠ gb472) (.slice A0 l0.length c0) l0) ∧ (Kd.V (Kd.slice 39 k39) 48 w' w.heap.size (fun k_ => ((P0_ k_ ∨ P1_ k_) ∨ w.heap.size ≤ k_) ∧ some k_ ≠ (s_.2.1 : Value).ownBlock ∧ some k_ ≠ (s_.2.2 : Value).ownBlock ∧ k_ ≠ gb472) (.slice A1 l1.length c1) l1) ∧ (Kd.R k39 39 w' w.heap.size (fun k_ => (w.heap.size ≤ k_) ∧ some k_ ≠ (s_.2.2 : Value).ownBlock ∧ k_ ≠ gb472) s_.2.1 y479) ∧ (Kd.R k39 39 w' w.heap.size (fun k_ => (w.heap.size ≤ k_) ∧ some k_ ≠ (s_.2.1 : Value).ownBlock ∧ k_ ≠ gb472) s_.2.2 y482) ∧ (w'.heap[gb472]? = some (.cells #[.string a3_0,.int .i64 a3_1,.string a3_2] 39 (0,0))) ∧ (Below w.heap.size w w')) ?_ ?_
   rotate_left
   ·intro hCont
    refine two_ (i := 0) (j := 4) (Ni := some 27) (Nj := some 31) #[true,true,false,true,false,false,false,false] #[false,true,false,true,true,false,false,false] rfl rfl rfl rfl (two_of HT_.out (by kernel_rfl)) (by decide) (by decide) (fun K hK => ?_) (fun K hK => ?_)
    ·skip
     refine Kd.R_lit_step k39 _ 39 ?hg (N := 27) ?hd (xs := ([] : List (S39))) (inner := []) (ok := fun _ => True) (okp := fun _ => True) ?hr ?hp (fun _ hk => hk) trivial (Below.refl _ _) (Nat.le_refl _) (by simp) ?_;(case hd => rfl);(case hg => rfl);(case hr => first|(go_simp;done)|(go_simp;rfl));(case hp => exact (Reps.none _ _))
     intro v477 w15 ho16 hb hg_ hnew_
     clear hg_ hnew_
     (first|rw [← Ny476.out] at ho16|(simp only [Int.reduceToNat] at ho16;rw [← Ny476.out] at ho16))
     have n0_ := Aside0.mk (Kd.V_elder' (by (with_reducible repeat (first|apply Kd.V_alloc|apply Kd.V_drewN|apply Kd.V_drew));exact HO0.out) (Kd.R_base ho16) hb)
     have n1_ := Aside0.mk (Kd.V_elder' (by (with_reducible repeat (first|apply Kd.V_alloc|apply Kd.V_drewN|apply Kd.V_drew));exact HO1.out) (Kd.R_base ho16) hb)
     have n2_ := Aside0.mk (Kd.R_lower (Kd.R_newB (Kd.R_newM (M := fun k_ => (w.heap.size ≤ k_)) ho16 (qal (by repeat (first|(with_reducible first|exact HB.out|apply qac|apply qaa|apply qab|refine qad ?_ GE472.out)|exact HB.out))) (fun k_ h_ => h_)) (g := gb472) (o := .cells #[.string a3_0,.int .i64 a3_1,.string a3_2] 39 (0,0)) (by (with_reducible repeat (first|refine qag ?_ _|refine qai ?_|refine qaf ?_ _));exact BK472.out)) (qal (by repeat (first|(with_reducible first|exact HB.out|apply qac|apply qaa|apply qab|refine qad ?_ GE472.out)|exact HB.out))))
     have n3_ := Aside0.mk (qap (g := gb472) (o := .cells #[.string a3_0,.int .i64 a3_1,.string a3_2] 39 (0,0)) (by (with_reducible repeat (first|refine qag ?_ _|refine qai ?_|refine qaf ?_ _));exact BK472.out) hb)
     have n4_ := Aside0.mk (qao (by repeat (first|(with_reducible first|exact HB.out|apply qac|apply qaa|apply qab|refine qad ?_ GE472.out)|exact HB.out)) hb)
     clear HO0
     clear HO1
     clear BK472
     clear HB
     have HO0 := n0_
     have HO1 := n1_
     have HO478 := n2_
     have BK472 := n3_
     have HB := n4_
     clear n0_ n1_ n2_ n3_ n4_
     clear hb ho16
     refine hK.out _ _ ⟨(qae BK472.out 0).trans rfl,(qae BK472.out 1).trans rfl,(qae BK472.out 2).trans rfl⟩ (fun hHeld => ?_)
     clear hK K
     refine norm_ (a' := ?_) ?_ ?_
     rotate_left
     ·show Act.put _ (some 27) _ = _
      simp only [Act.put,List.setIfInBounds_toArray,List.set_cons_zero,List.set_cons_succ,i64_w,i32_w]
      rfl
     refine two_ (i := 2) (j := 4) (Ni := some 29) (Nj := some 31) #[true,true,true,true,false,false,false,false] #[true,true,false,true,true,false,false,false] rfl rfl rfl rfl (two_of HT_.out (by kernel_rfl)) (by decide) (by decide) (fun K hK => ?_) (fun K hK => ?_)
     ·skip
      refine Kd.R_append_rows_step k39 (w0 := w) w.heap.size (by rfl) (.tmp 27) (.tmp 28) 27 39 (.agg #[(.string ⟨#[]⟩),(.int .i64 0),(.string ⟨#[]⟩)]) 40 rfl Tryz.underlying27 info39 rfl (by decide) (by omega) v477 y476 l2 _ _ _ (fun k_ => (w.heap.size ≤ k_) ∧ k_ ≠ gb472) (fun _ => False) rfl rfl ?aO ?aR (fun _ _ h => h) (fun _ h => h.elim) ?aF ?aB ?aS ?aL ?_
      (case aR => repeat (first|exact (Kd.C_below HR2.out HB.out)|(with_reducible refine Kd.C_alloc ?_ _)|(with_reducible refine Kd.C_drewN ?_ _)|(with_reducible refine Kd.C_drew ?_)))
      (case aB => exact (by repeat (first|(with_reducible first|exact HB.out|apply qac|apply qaa|apply qab|refine qad ?_ GE472.out)|exact HB.out)))
      (case aF => exact (fun k_ hk => ⟨(Nat.le_trans (qal (by repeat (first|(with_reducible first|exact HB.out|apply qac|apply qaa|apply qab|refine qad ?_ GE472.out)|exact HB.out))) hk),Kd.freshB (g := gb472) (o := .cells #[.string a3_0,.int .i64 a3_1,.string a3_2] 39 (0,0)) (by (with_reducible repeat (first|refine qag ?_ _|refine qai ?_|refine qaf ?_ _));exact BK472.out) k_ hk⟩))
      (case aO => exact (by (with_reducible repeat (first|apply Kd.R_alloc|apply Kd.R_drewN|apply Kd.R_drew));exact Kd.R_mono HO478.out (fun _ hk => ⟨hk.1.1,hk.2⟩)))
      (case aS => exact (qal (by repeat (first|(with_reducible first|exact HB.out|apply qac|apply qaa|apply qab|refine qad ?_ GE472.out)|exact HB.out))))
      (case aL => have := LMc8.out;omega)
      intro v480 w17 ho hb hg hat
      rw [← Ny479.out] at ho
      have n0_ := Aside0.mk (Kd.V_afterv (ok := (fun k_ => ((P0_ k_ ∨ P1_ k_) ∨ w.heap.size ≤ k_) ∧ k_ ≠ gb472)) (by (with_reducible repeat (first|apply Kd.V_alloc|apply Kd.V_drewN|apply Kd.V_drew));exact HO0.out) hg hat)
      have n1_ := Aside0.mk (Kd.V_afterv (ok := (fun k_ => ((P0_ k_ ∨ P1_ k_) ∨ w.heap.size ≤ k_) ∧ k_ ≠ gb472)) (by (with_reducible repeat (first|apply Kd.V_alloc|apply Kd.V_drewN|apply Kd.V_drew));exact HO1.out) hg hat)
      have n2_ := Aside0.mk (blk_grown (g := gb472) (o := .cells #[.string a3_0,.int .i64 a3_1,.string a3_2] 39 (0,0)) (by (with_reducible repeat (first|refine qag ?_ _|refine qai ?_|refine qaf ?_ _));exact BK472.out) hg (Kd.R_away HO478.out (fun _ hk => hk.2)))
      have n3_ := Aside0.mk (hb)
      have n4_ := Aside0.mk (ho)
      clear HO0
      clear HO1
      clear BK472
      clear HB
      clear HO478
      have HO0 := n0_
      have HO1 := n1_
      have BK472 := n2_
      have HB := n3_
      have HO481 := n4_
      clear n0_ n1_ n2_ n3_ n4_
      clear ho hb hg hat
      refine hK.out _ _ ⟨(qae BK472.out 0).trans rfl,(qae BK472.out 1).trans rfl,(qae BK472.out 2).trans rfl⟩ (fun hHeld => ?_)
      clear hK K
      refine norm_ (a' := ?_) ?_ ?_
      rotate_left
      ·show Act.put _ (some 29) _ = _
       simp only [Act.put,List.setIfInBounds_toArray,List.set_cons_zero,List.set_cons_succ,i64_w,i32_w]
       rfl
      refine one_ (i := 4) (N := some 31) #[true,true,true,true,true,false,false,false] rfl rfl (one_of HT_.out (by kernel_rfl)) (by decide) (fun K hK => ?_)
      refine Kd.R_lit_step k39 _ 39 ?hg (N := 31) ?hd (xs := ([(⟨a3_0,a3_1,a3_2⟩ : S39)] : List (S39))) (inner := [.string a3_0,.int .i64 a3_1,.string a3_2]) (ok := fun _ => True) (okp := fun _ => True) ?hr ?hp (fun _ hk => hk) trivial (Below.refl _ _) (Nat.le_refl _) (by simp) ?_;(case hd => rfl);(case hg => rfl);(case hr => first|(go_simp;done)|(go_simp;rfl));(case hp => exact (Reps.c3 (show Kd.M k39 _ _ _ (⟨a3_0,a3_1,a3_2⟩ : S39) [.string a3_0,.int .i64 a3_1,.string a3_2] from (k39_mkM _ _ _ (⟨a3_0,a3_1,a3_2⟩ : S39) )) (Reps.none _ _)))
      intro v483 w18 ho19 hb hg_ hnew_
      clear hg_ hnew_
      (first|rw [← Ny482.out] at ho19|(simp only [Int.reduceToNat] at ho19;rw [← Ny482.out] at ho19))
      have n0_ := Aside0.mk (Kd.V_elder' (by (with_reducible repeat (first|apply Kd.V_alloc|apply Kd.V_drewN|apply Kd.V_drew));exact HO0.out) (Kd.R_base ho19) hb)
      have n1_ := Aside0.mk (Kd.V_elder' (by (with_reducible repeat (first|apply Kd.V_alloc|apply Kd.V_drewN|apply Kd.V_drew));exact HO1.out) (Kd.R_base ho19) hb)
      have n2_ := Aside0.mk (Kd.R_elder' (by (with_reducible repeat (first|apply Kd.R_alloc|apply Kd.R_drewN|apply Kd.R_drew));exact HO481.out) (Kd.R_base ho19) hb)
      have n3_ := Aside0.mk (Kd.R_lower (Kd.R_newB (Kd.R_new' (Kd.R_newM (M := fun k_ => (w.heap.size ≤ k_)) ho19 (qal (by repeat (first|(with_reducible first|exact HB.out|apply qac|apply qaa|apply qab|refine qad ?_ GE472.out)|exact HB.out))) (fun k_ h_ => h_)) (Kd.R_lt (by (with_reducible repeat (first|apply Kd.R_alloc|apply Kd.R_drewN|apply Kd.R_drew));exact HO481.out))) (g := gb472) (o := .cells #[.string a3_0,.int .i64 a3_1,.string a3_2] 39 (0,0)) (by (with_reducible repeat (first|refine qag ?_ _|refine qai ?_|refine qaf ?_ _));exact BK472.out)) (qal (by repeat (first|(with_reducible first|exact HB.out|apply qac|apply qaa|apply qab|refine qad ?_ GE472.out)|exact HB.out))))
      have n4_ := Aside0.mk (qap (g := gb472) (o := .cells #[.string a3_0,.int .i64 a3_1,.string a3_2] 39 (0,0)) (by (with_reducible repeat (first|refine qag ?_ _|refine qai ?_|refine qaf ?_ _));exact BK472.out) hb)
      have n5_ := Aside0.mk (qao (by repeat (first|(with_reducible first|exact HB.out|apply qac|apply qaa|apply qab|refine qad ?_ GE472.out)|exact HB.out)) hb)
      clear HO0
      clear HO1
      clear HO481
      clear BK472
      clear HB
      have HO0 := n0_
      have HO1 := n1_
      have HO481 := n2_
      have HO484 := n3_
      have BK472 := n4_
      have HB := n5_
      clear n0_ n1_ n2_ n3_ n4_ n5_
      clear hb ho19
      refine hK.out _ _ ⟨(qae BK472.out 0).trans rfl,(qae BK472.out 1).trans rfl,(qae BK472.out 2).trans rfl⟩ (fun hHeld => ?_)
      clear hK K
      refine norm_ (a' := ?_) ?_ ?_
      rotate_left
      ·show Act.put _ (some 31) _ = _
       simp only [Act.put,List.setIfInBounds_toArray,List.set_cons_zero,List.set_cons_succ,i64_w,i32_w]
       rfl
      exact norm_ (by simp only [putAll,Act.put,List.setIfInBounds_toArray,List.set_cons_zero,List.set_cons_succ]) (hCont (v477,v480,v483) _ ⟨hHeld,(by (with_reducible repeat (first|apply Kd.V_alloc|apply Kd.V_drewN|apply Kd.V_drew));exact Kd.V_mono HO0.out (fun _ hk => ⟨hk.1.1.1,⟨hk.1.2,⟨hk.2,hk.1.1.2⟩⟩⟩)),(by (with_reducible repeat (first|apply Kd.V_alloc|apply Kd.V_drewN|apply Kd.V_drew));exact Kd.V_mono HO1.out (fun _ hk => ⟨hk.1.1.1,⟨hk.1.2,⟨hk.2,hk.1.1.2⟩⟩⟩)),(by (with_reducible repeat (first|apply Kd.R_alloc|apply Kd.R_drewN|apply Kd.R_drew));exact Kd.R_mono HO481.out (fun _ hk => ⟨hk.1.1,⟨hk.2,hk.1.2⟩⟩)),(by (with_reducible repeat (first|apply Kd.R_alloc|apply Kd.R_drewN|apply Kd.R_drew));exact Kd.R_mono HO484.out (fun _ hk => ⟨hk.1.1.1,⟨hk.1.2,hk.2⟩⟩)),(by (with_reducible repeat (first|refine qag ?_ _|refine qai ?_|refine qaf ?_ _));exact BK472.out),(by repeat (first|(with_reducible first|exact HB.out|apply qac|apply qaa|apply qab|refine qad ?_ GE472.out)|exact HB.out))⟩)
     ·skip
      refine Kd.R_lit_step k39 _ 39 ?hg (N := 31) ?hd (xs := ([(⟨a3_0,a3_1,a3_2⟩ : S39)] : List (S39))) (inner := [.string a3_0,.int .i64 a3_1,.string a3_2]) (ok := fun _ => True) (okp := fun _ => True) ?hr ?hp (fun _ hk => hk) trivial (Below.refl _ _) (Nat.le_refl _) (by simp) ?_;(case hd => rfl);(case hg => rfl);(case hr => first|(go_simp;done)|(go_simp;rfl));(case hp => exact (Reps.c3 (show Kd.M k39 _ _ _ (⟨a3_0,a3_1,a3_2⟩ : S39) [.string a3_0,.int .i64 a3_1,.string a3_2] from (k39_mkM _ _ _ (⟨a3_0,a3_1,a3_2⟩ : S39) )) (Reps.none _ _)))
      intro v483 w17 ho18 hb hg_ hnew_
      clear hg_ hnew_
      (first|rw [← Ny482.out] at ho18|(simp only [Int.reduceToNat] at ho18;rw [← Ny482.out] at ho18))
      have n0_ := Aside0.mk (Kd.V_elder' (by (with_reducible repeat (first|apply Kd.V_alloc|apply Kd.V_drewN|apply Kd.V_drew));exact HO0.out) (Kd.R_base ho18) hb)
      have n1_ := Aside0.mk (Kd.V_elder' (by (with_reducible repeat (first|apply Kd.V_alloc|apply Kd.V_drewN|apply Kd.V_drew));exact HO1.out) (Kd.R_base ho18) hb)
      have n2_ := Aside0.mk (Kd.R_elder' (by (with_reducible repeat (first|apply Kd.R_alloc|apply Kd.R_drewN|apply Kd.R_drew));exact HO478.out) (Kd.R_base ho18) hb)
      have n3_ := Aside0.mk (Kd.R_lower (Kd.R_newB (Kd.R_new' (Kd.R_newM (M := fun k_ => (w.heap.size ≤ k_)) ho18 (qal (by repeat (first|(with_reducible first|exact HB.out|apply qac|apply qaa|apply qab|refine qad ?_ GE472.out)|exact HB.out))) (fun k_ h_ => h_)) (Kd.R_lt (by (with_reducible repeat (first|apply Kd.R_alloc|apply Kd.R_drewN|apply Kd.R_drew));exact HO478.out))) (g := gb472) (o := .cells #[.string a3_0,.int .i64 a3_1,.string a3_2] 39 (0,0)) (by (with_reducible repeat (first|refine qag ?_ _|refine qai ?_|refine qaf ?_ _));exact BK472.out)) (qal (by repeat (first|(with_reducible first|exact HB.out|apply qac|apply qaa|apply qab|refine qad ?_ GE472.out)|exact HB.out))))
      have n4_ := Aside0.mk (qap (g := gb472) (o := .cells #[.string a3_0,.int .i64 a3_1,.string a3_2] 39 (0,0)) (by (with_reducible repeat (first|refine qag ?_ _|refine qai ?_|refine qaf ?_ _));exact BK472.out) hb)
      have n5_ := Aside0.mk (qao (by repeat (first|(with_reducible first|exact HB.out|apply qac|apply qaa|apply qab|refine qad ?_ GE472.out)|exact HB.out)) hb)
      clear HO0
      clear HO1
      clear HO478
      clear BK472
      clear HB
      have HO0 := n0_
      have HO1 := n1_
      have HO478 := n2_
      have HO484 := n3_
      have BK472 := n4_
      have HB := n5_
      clear n0_ n1_ n2_ n3_ n4_ n5_
      clear hb ho18
      refine hK.out _ _ ⟨(qae BK472.out 0).trans rfl,(qae BK472.out 1).trans rfl,(qae BK472.out 2).trans rfl⟩ (fun hHeld => ?_)
      clear hK K
      refine norm_ (a' := ?_) ?_ ?_
      rotate_left
      ·show Act.put _ (some 31) _ = _
       simp only [Act.put,List.setIfInBounds_toArray,List.set_cons_zero,List.set_cons_succ,i64_w,i32_w]
       rfl
      refine one_ (i := 2) (N := some 29) #[true,true,true,true,true,false,false,false] rfl rfl (one_of HT_.out (by kernel_rfl)) (by decide) (fun K hK => ?_)
      refine Kd.R_append_rows_step k39 (w0 := w) w.heap.size (by rfl) (.tmp 27) (.tmp 28) 27 39 (.agg #[(.string ⟨#[]⟩),(.int .i64 0),(.string ⟨#[]⟩)]) 40 rfl Tryz.underlying27 info39 rfl (by decide) (by omega) v477 y476 l2 _ _ _ (fun k_ => (w.heap.size ≤ k_) ∧ some k_ ≠ (v483 : Value).ownBlock ∧ k_ ≠ gb472) (fun _ => False) rfl rfl ?aO ?aR (fun _ _ h => h) (fun _ h => h.elim) ?aF ?aB ?aS ?aL ?_
      (case aR => repeat (first|exact (Kd.C_below HR2.out HB.out)|(with_reducible refine Kd.C_alloc ?_ _)|(with_reducible refine Kd.C_drewN ?_ _)|(with_reducible refine Kd.C_drew ?_)))
      (case aB => exact (by repeat (first|(with_reducible first|exact HB.out|apply qac|apply qaa|apply qab|refine qad ?_ GE472.out)|exact HB.out)))
      (case aF => exact (fun k_ hk => ⟨(Nat.le_trans (qal (by repeat (first|(with_reducible first|exact HB.out|apply qac|apply qaa|apply qab|refine qad ?_ GE472.out)|exact HB.out))) hk),Kd.fresh' (Kd.R_lt (by (with_reducible repeat (first|apply Kd.R_alloc|apply Kd.R_drewN|apply Kd.R_drew));exact HO484.out)) k_ hk,Kd.freshB (g := gb472) (o := .cells #[.string a3_0,.int .i64 a3_1,.string a3_2] 39 (0,0)) (by (with_reducible repeat (first|refine qag ?_ _|refine qai ?_|refine qaf ?_ _));exact BK472.out) k_ hk⟩))
      (case aO => exact (by (with_reducible repeat (first|apply Kd.R_alloc|apply Kd.R_drewN|apply Kd.R_drew));exact Kd.R_mono HO478.out (fun _ hk => ⟨hk.1.1.1,⟨hk.2,hk.1.2⟩⟩)))
      (case aS => exact (qal (by repeat (first|(with_reducible first|exact HB.out|apply qac|apply qaa|apply qab|refine qad ?_ GE472.out)|exact HB.out))))
      (case aL => have := LMc8.out;omega)
      intro v480 w19 ho hb hg hat
      rw [← Ny479.out] at ho
      have n0_ := Aside0.mk (Kd.V_afterv (ok := (fun k_ => ((P0_ k_ ∨ P1_ k_) ∨ w.heap.size ≤ k_) ∧ some k_ ≠ (v483 : Value).ownBlock ∧ k_ ≠ gb472)) (by (with_reducible repeat (first|apply Kd.V_alloc|apply Kd.V_drewN|apply Kd.V_drew));exact Kd.V_mono HO0.out (fun _ hk => ⟨⟨hk.1.1.1,⟨hk.2,hk.1.1.2⟩⟩,hk.1.2⟩)) hg hat)
      have n1_ := Aside0.mk (Kd.V_afterv (ok := (fun k_ => ((P0_ k_ ∨ P1_ k_) ∨ w.heap.size ≤ k_) ∧ some k_ ≠ (v483 : Value).ownBlock ∧ k_ ≠ gb472)) (by (with_reducible repeat (first|apply Kd.V_alloc|apply Kd.V_drewN|apply Kd.V_drew));exact Kd.V_mono HO1.out (fun _ hk => ⟨⟨hk.1.1.1,⟨hk.2,hk.1.1.2⟩⟩,hk.1.2⟩)) hg hat)
      have n2_ := Aside0.mk (blk_grown (g := gb472) (o := .cells #[.string a3_0,.int .i64 a3_1,.string a3_2] 39 (0,0)) (by (with_reducible repeat (first|refine qag ?_ _|refine qai ?_|refine qaf ?_ _));exact BK472.out) hg (Kd.R_away HO478.out (fun _ hk => hk.1.2)))
      have n3_ := Aside0.mk (Kd.R_after (ok := (fun k_ => (w.heap.size ≤ k_) ∧ k_ ≠ gb472)) (by (with_reducible repeat (first|apply Kd.R_alloc|apply Kd.R_drewN|apply Kd.R_drew));exact Kd.R_mono HO484.out (fun _ hk => ⟨⟨hk.1.1.1,hk.2⟩,hk.1.2⟩)) hg hat)
      have n4_ := Aside0.mk (hb)
      have n5_ := Aside0.mk (ho)
      clear HO0
      clear HO1
      clear BK472
      clear HO484
      clear HB
      clear HO478
      have HO0 := n0_
      have HO1 := n1_
      have BK472 := n2_
      have HO484 := n3_
      have HB := n4_
      have HO481 := n5_
      clear n0_ n1_ n2_ n3_ n4_ n5_
      clear ho hb hg hat
      refine hK.out _ _ ⟨(qae BK472.out 0).trans rfl,(qae BK472.out 1).trans rfl,(qae BK472.out 2).trans rfl⟩ (fun hHeld => ?_)
      clear hK K
      refine norm_ (a' := ?_) ?_ ?_
      rotate_left
      ·show Act.put _ (some 29) _ = _
       simp only [Act.put,List.setIfInBounds_toArray,List.set_cons_zero,List.set_cons_succ,i64_w,i32_w]
       rfl
      exact norm_ (by simp only [putAll,Act.put,List.setIfInBounds_toArray,List.set_cons_zero,List.set_cons_succ]) (hCont (v477,v480,v483) _ ⟨hHeld,(by (with_reducible repeat (first|apply Kd.V_alloc|apply Kd.V_drewN|apply Kd.V_drew));exact Kd.V_mono HO0.out (fun _ hk => ⟨hk.1.1,⟨hk.2,⟨hk.1.2.1,hk.1.2.2⟩⟩⟩)),(by (with_reducible repeat (first|apply Kd.V_alloc|apply Kd.V_drewN|apply Kd.V_drew));exact Kd.V_mono HO1.out (fun _ hk => ⟨hk.1.1,⟨hk.2,⟨hk.1.2.1,hk.1.2.2⟩⟩⟩)),(by (with_reducible repeat (first|apply Kd.R_alloc|apply Kd.R_drewN|apply Kd.R_drew));exact HO481.out),(by (with_reducible repeat (first|apply Kd.R_alloc|apply Kd.R_drewN|apply Kd.R_drew));exact Kd.R_mono HO484.out (fun _ hk => ⟨hk.1.1,⟨hk.2,hk.1.2⟩⟩)),(by (with_reducible repeat (first|refine qag ?_ _|refine qai ?_|refine qaf ?_ _));exact BK472.out),(by repeat (first|(with_reducible first|exact HB.out|apply qac|apply qaa|apply qab|refine qad ?_ GE472.out)|exact HB.out))⟩)
    ·skip
     refine Kd.R_lit_step k39 _ 39 ?hg (N := 31) ?hd (xs := ([(⟨a3_0,a3_1,a3_2⟩ : S39)] : List (S39))) (inner := [.string a3_0,.int .i64 a3_1,.string a3_2]) (ok := fun _ => True) (okp := fun _ => True) ?hr ?hp (fun _ hk => hk) trivial (Below.refl _ _) (Nat.le_refl _) (by simp) ?_;(case hd => rfl);(case hg => rfl);(case hr => first|(go_simp;done)|(go_simp;rfl));(case hp => exact (Reps.c3 (show Kd.M k39 _ _ _ (⟨a3_0,a3_1,a3_2⟩ : S39) [.string a3_0,.int .i64 a3_1,.string a3_2] from (k39_mkM _ _ _ (⟨a3_0,a3_1,a3_2⟩ : S39) )) (Reps.none _ _)))
     intro v483 w15 ho16 hb hg_ hnew_
     clear hg_ hnew_
     (first|rw [← Ny482.out] at ho16|(simp only [Int.reduceToNat] at ho16;rw [← Ny482.out] at ho16))
     have n0_ := Aside0.mk (Kd.V_elder' (by (with_reducible repeat (first|apply Kd.V_alloc|apply Kd.V_drewN|apply Kd.V_drew));exact HO0.out) (Kd.R_base ho16) hb)
     have n1_ := Aside0.mk (Kd.V_elder' (by (with_reducible repeat (first|apply Kd.V_alloc|apply Kd.V_drewN|apply Kd.V_drew));exact HO1.out) (Kd.R_base ho16) hb)
     have n2_ := Aside0.mk (Kd.R_lower (Kd.R_newB (Kd.R_newM (M := fun k_ => (w.heap.size ≤ k_)) ho16 (qal (by repeat (first|(with_reducible first|exact HB.out|apply qac|apply qaa|apply qab|refine qad ?_ GE472.out)|exact HB.out))) (fun k_ h_ => h_)) (g := gb472) (o := .cells #[.string a3_0,.int .i64 a3_1,.string a3_2] 39 (0,0)) (by (with_reducible repeat (first|refine qag ?_ _|refine qai ?_|refine qaf ?_ _));exact BK472.out)) (qal (by repeat (first|(with_reducible first|exact HB.out|apply qac|apply qaa|apply qab|refine qad ?_ GE472.out)|exact HB.out))))
     have n3_ := Aside0.mk (qap (g := gb472) (o := .cells #[.string a3_0,.int .i64 a3_1,.string a3_2] 39 (0,0)) (by (with_reducible repeat (first|refine qag ?_ _|refine qai ?_|refine qaf ?_ _));exact BK472.out) hb)
     have n4_ := Aside0.mk (qao (by repeat (first|(with_reducible first|exact HB.out|apply qac|apply qaa|apply qab|refine qad ?_ GE472.out)|exact HB.out)) hb)
     clear HO0
     clear HO1
     clear BK472
     clear HB
     have HO0 := n0_
     have HO1 := n1_
     have HO484 := n2_
     have BK472 := n3_
     have HB := n4_
     clear n0_ n1_ n2_ n3_ n4_
     clear hb ho16
     refine hK.out _ _ ⟨(qae BK472.out 0).trans rfl,(qae BK472.out 1).trans rfl,(qae BK472.out 2).trans rfl⟩ (fun hHeld => ?_)
     clear hK K
     refine norm_ (a' := ?_) ?_ ?_
     rotate_left
     ·show Act.put _ (some 31) _ = _
      simp only [Act.put,List.setIfInBounds_toArray,List.set_cons_zero,List.set_cons_succ,i64_w,i32_w]
      rfl
     refine one_ (i := 0) (N := some 27) #[true,true,false,true,true,false,false,false] rfl rfl (one_of HT_.out (by kernel_rfl)) (by decide) (fun K hK => ?_)
     refine Kd.R_lit_step k39 _ 39 ?hg (N := 27) ?hd (xs := ([] : List (S39))) (inner := []) (ok := fun _ => True) (okp := fun _ => True) ?hr ?hp (fun _ hk => hk) trivial (Below.refl _ _) (Nat.le_refl _) (by simp) ?_;(case hd => rfl);(case hg => rfl);(case hr => first|(go_simp;done)|(go_simp;rfl));(case hp => exact (Reps.none _ _))
     intro v477 w17 ho18 hb hg_ hnew_
     clear hg_ hnew_
     (first|rw [← Ny476.out] at ho18|(simp only [Int.reduceToNat] at ho18;rw [← Ny476.out] at ho18))
     have n0_ := Aside0.mk (Kd.V_elder' (by (with_reducible repeat (first|apply Kd.V_alloc|apply Kd.V_drewN|apply Kd.V_drew));exact HO0.out) (Kd.R_base ho18) hb)
     have n1_ := Aside0.mk (Kd.V_elder' (by (with_reducible repeat (first|apply Kd.V_alloc|apply Kd.V_drewN|apply Kd.V_drew));exact HO1.out) (Kd.R_base ho18) hb)
     have n2_ := Aside0.mk (Kd.R_elder' (by (with_reducible repeat (first|apply Kd.R_alloc|apply Kd.R_drewN|apply Kd.R_drew));exact HO484.out) (Kd.R_base ho18) hb)
     have n3_ := Aside0.mk (Kd.R_lower (Kd.R_newB (Kd.R_new' (Kd.R_newM (M := fun k_ => (w.heap.size ≤ k_)) ho18 (qal (by repeat (first|(with_reducible first|exact HB.out|apply qac|apply qaa|apply qab|refine qad ?_ GE472.out)|exact HB.out))) (fun k_ h_ => h_)) (Kd.R_lt (by (with_reducible repeat (first|apply Kd.R_alloc|apply Kd.R_drewN|apply Kd.R_drew));exact HO484.out))) (g := gb472) (o := .cells #[.string a3_0,.int .i64 a3_1,.string a3_2] 39 (0,0)) (by (with_reducible repeat (first|refine qag ?_ _|refine qai ?_|refine qaf ?_ _));exact BK472.out)) (qal (by repeat (first|(with_reducible first|exact HB.out|apply qac|apply qaa|apply qab|refine qad ?_ GE472.out)|exact HB.out))))
     have n4_ := Aside0.mk (qap (g := gb472) (o := .cells #[.string a3_0,.int .i64 a3_1,.string a3_2] 39 (0,0)) (by (with_reducible repeat (first|refine qag ?_ _|refine qai ?_|refine qaf ?_ _));exact BK472.out) hb)
     have n5_ := Aside0.mk (qao (by repeat (first|(with_reducible first|exact HB.out|apply qac|apply qaa|apply qab|refine qad ?_ GE472.out)|exact HB.out)) hb)
     clear HO0
     clear HO1
     clear HO484
     clear BK472
     clear HB
     have HO0 := n0_
     have HO1 := n1_
     have HO484 := n2_
     have HO478 := n3_
     have BK472 := n4_
     have HB := n5_
     clear n0_ n1_ n2_ n3_ n4_ n5_
     clear hb ho18
     refine hK.out _ _ ⟨(qae BK472.out 0).trans rfl,(qae BK472.out 1).trans rfl,(qae BK472.out 2).trans rfl⟩ (fun hHeld => ?_)
     clear hK K
     refine norm_ (a' := ?_) ?_ ?_
     rotate_left
     ·show Act.put _ (some 27) _ = _
      simp only [Act.put,List.setIfInBounds_toArray,List.set_cons_zero,List.set_cons_succ,i64_w,i32_w]
      rfl
     refine one_ (i := 2) (N := some 29) #[true,true,true,true,true,false,false,false] rfl rfl (one_of HT_.out (by kernel_rfl)) (by decide) (fun K hK => ?_)
     refine Kd.R_append_rows_step k39 (w0 := w) w.heap.size (by rfl) (.tmp 27) (.tmp 28) 27 39 (.agg #[(.string ⟨#[]⟩),(.int .i64 0),(.string ⟨#[]⟩)]) 40 rfl Tryz.underlying27 info39 rfl (by decide) (by omega) v477 y476 l2 _ _ _ (fun k_ => (w.heap.size ≤ k_) ∧ some k_ ≠ (v483 : Value).ownBlock ∧ k_ ≠ gb472) (fun _ => False) rfl rfl ?aO ?aR (fun _ _ h => h) (fun _ h => h.elim) ?aF ?aB ?aS ?aL ?_
     (case aR => repeat (first|exact (Kd.C_below HR2.out HB.out)|(with_reducible refine Kd.C_alloc ?_ _)|(with_reducible refine Kd.C_drewN ?_ _)|(with_reducible refine Kd.C_drew ?_)))
     (case aB => exact (by repeat (first|(with_reducible first|exact HB.out|apply qac|apply qaa|apply qab|refine qad ?_ GE472.out)|exact HB.out)))
     (case aF => exact (fun k_ hk => ⟨(Nat.le_trans (qal (by repeat (first|(with_reducible first|exact HB.out|apply qac|apply qaa|apply qab|refine qad ?_ GE472.out)|exact HB.out))) hk),Kd.fresh' (Kd.R_lt (by (with_reducible repeat (first|apply Kd.R_alloc|apply Kd.R_drewN|apply Kd.R_drew));exact HO484.out)) k_ hk,Kd.freshB (g := gb472) (o := .cells #[.string a3_0,.int .i64 a3_1,.string a3_2] 39 (0,0)) (by (with_reducible repeat (first|refine qag ?_ _|refine qai ?_|refine qaf ?_ _));exact BK472.out) k_ hk⟩))
     (case aO => exact (by (with_reducible repeat (first|apply Kd.R_alloc|apply Kd.R_drewN|apply Kd.R_drew));exact Kd.R_mono HO478.out (fun _ hk => ⟨hk.1.1.1,⟨hk.1.2,hk.2⟩⟩)))
     (case aS => exact (qal (by repeat (first|(with_reducible first|exact HB.out|apply qac|apply qaa|apply qab|refine qad ?_ GE472.out)|exact HB.out))))
     (case aL => have := LMc8.out;omega)
     intro v480 w19 ho hb hg hat
     rw [← Ny479.out] at ho
     have n0_ := Aside0.mk (Kd.V_afterv (ok := (fun k_ => ((P0_ k_ ∨ P1_ k_) ∨ w.heap.size ≤ k_) ∧ some k_ ≠ (v483 : Value).ownBlock ∧ k_ ≠ gb472)) (by (with_reducible repeat (first|apply Kd.V_alloc|apply Kd.V_drewN|apply Kd.V_drew));exact Kd.V_mono HO0.out (fun _ hk => ⟨⟨hk.1.1.1,⟨hk.1.2,hk.1.1.2⟩⟩,hk.2⟩)) hg hat)
     have n1_ := Aside0.mk (Kd.V_afterv (ok := (fun k_ => ((P0_ k_ ∨ P1_ k_) ∨ w.heap.size ≤ k_) ∧ some k_ ≠ (v483 : Value).ownBlock ∧ k_ ≠ gb472)) (by (with_reducible repeat (first|apply Kd.V_alloc|apply Kd.V_drewN|apply Kd.V_drew));exact Kd.V_mono HO1.out (fun _ hk => ⟨⟨hk.1.1.1,⟨hk.1.2,hk.1.1.2⟩⟩,hk.2⟩)) hg hat)
     have n2_ := Aside0.mk (blk_grown (g := gb472) (o := .cells #[.string a3_0,.int .i64 a3_1,.string a3_2] 39 (0,0)) (by (with_reducible repeat (first|refine qag ?_ _|refine qai ?_|refine qaf ?_ _));exact BK472.out) hg (Kd.R_away HO478.out (fun _ hk => hk.2)))
     have n3_ := Aside0.mk (Kd.R_after (ok := (fun k_ => (w.heap.size ≤ k_) ∧ k_ ≠ gb472)) (by (with_reducible repeat (first|apply Kd.R_alloc|apply Kd.R_drewN|apply Kd.R_drew));exact Kd.R_mono HO484.out (fun _ hk => ⟨⟨hk.1.1.1,hk.1.2⟩,hk.2⟩)) hg hat)
     have n4_ := Aside0.mk (hb)
     have n5_ := Aside0.mk (ho)
     clear HO0
     clear HO1
     clear BK472
     clear HO484
     clear HB
     clear HO478
     have HO0 := n0_
     have HO1 := n1_
     have BK472 := n2_
     have HO484 := n3_
     have HB := n4_
     have HO481 := n5_
     clear n0_ n1_ n2_ n3_ n4_ n5_
     clear ho hb hg hat
     refine hK.out _ _ ⟨(qae BK472.out 0).trans rfl,(qae BK472.out 1).trans rfl,(qae BK472.out 2).trans rfl⟩ (fun hHeld => ?_)
     clear hK K
     refine norm_ (a' := ?_) ?_ ?_
     rotate_left
     ·show Act.put _ (some 29) _ = _
      simp only [Act.put,List.setIfInBounds_toArray,List.set_cons_zero,List.set_cons_succ,i64_w,i32_w]
      rfl
     exact norm_ (by simp only [putAll,Act.put,List.setIfInBounds_toArray,List.set_cons_zero,List.set_cons_succ]) (hCont (v477,v480,v483) _ ⟨hHeld,(by (with_reducible repeat (first|apply Kd.V_alloc|apply Kd.V_drewN|apply Kd.V_drew));exact Kd.V_mono HO0.out (fun _ hk => ⟨hk.1.1,⟨hk.2,⟨hk.1.2.1,hk.1.2.2⟩⟩⟩)),(by (with_reducible repeat (first|apply Kd.V_alloc|apply Kd.V_drewN|apply Kd.V_drew));exact Kd.V_mono HO1.out (fun _ hk => ⟨hk.1.1,⟨hk.2,⟨hk.1.2.1,hk.1.2.2⟩⟩⟩)),(by (with_reducible repeat (first|apply Kd.R_alloc|apply Kd.R_drewN|apply Kd.R_drew));exact HO481.out),(by (with_reducible repeat (first|apply Kd.R_alloc|apply Kd.R_drewN|apply Kd.R_drew));exact Kd.R_mono HO484.out (fun _ hk => ⟨hk.1.1,⟨hk.2,hk.1.2⟩⟩)),(by (with_reducible repeat (first|refine qag ?_ _|refine qai ?_|refine qaf ?_ _));exact BK472.out),(by repeat (first|(with_reducible first|exact HB.out|apply qac|apply qaa|apply qab|refine qad ?_ GE472.out)|exact HB.out))⟩)
   rintro ⟨v477,v480,v483⟩ w20 ⟨hS_,h0_,h1_,h2_,h3_,h4_,h5_⟩
   have n0_ : Aside0 (Kd.V (Kd.slice 39 k39) 48 w20 w.heap.size (fun k_ => ((P0_ k_ ∨ P1_ k_) ∨ w.heap.size ≤ k_) ∧ some k_ ≠ (v480 : Value).ownBlock ∧ some k_ ≠ (v483 : Value).ownBlock ∧ k_ ≠ gb472) (.slice A0 l0.length c0) l0) := ⟨h0_⟩
   have n1_ : Aside0 (Kd.V (Kd.slice 39 k39) 48 w20 w.heap.size (fun k_ => ((P0_ k_ ∨ P1_ k_) ∨ w.heap.size ≤ k_) ∧ some k_ ≠ (v480 : Value).ownBlock ∧ some k_ ≠ (v483 : Value).ownBlock ∧ k_ ≠ gb472) (.slice A1 l1.length c1) l1) := ⟨h1_⟩
   have n2_ : Aside0 (Kd.R k39 39 w20 w.heap.size (fun k_ => (w.heap.size ≤ k_) ∧ some k_ ≠ (v483 : Value).ownBlock ∧ k_ ≠ gb472) v480 y479) := ⟨h2_⟩
   have n3_ : Aside0 (Kd.R k39 39 w20 w.heap.size (fun k_ => (w.heap.size ≤ k_) ∧ some k_ ≠ (v480 : Value).ownBlock ∧ k_ ≠ gb472) v483 y482) := ⟨h3_⟩
   have n4_ : Aside0 (w20.heap[gb472]? = some (.cells #[.string a3_0,.int .i64 a3_1,.string a3_2] 39 (0,0))) := ⟨h4_⟩
   have n5_ : Aside0 (Below w.heap.size w w20) := ⟨h5_⟩
   clear HO0
   clear HO1
   clear BK472
   clear HB
   clear h0_ h1_ h2_ h3_ h4_ h5_
   have HO0 := n0_
   have HO1 := n1_
   have HO481 := n2_
   have HO484 := n3_
   have BK472 := n4_
   have HB := n5_
   clear n0_ n1_ n2_ n3_ n4_ n5_
   have hHeld : w20.cell? ⟨gb472,0,none⟩ = some (.string a3_0) ∧ w20.cell? ⟨gb472,1,none⟩ = some (.int .i64 a3_1) ∧ w20.cell? ⟨gb472,2,none⟩ = some (.string a3_2) := hS_
   obtain ⟨Ao22,co22,eo22⟩ := Kd.R_slice HO484.out
   (first|subst eo22|(injection eo22 with f1_ f2_ f3_;have f4_ := f1_.symm;have f5_ := f3_.symm;clear f1_ f2_ f3_;subst f4_;subst f5_))
   refine norm_ (a' := ?_) ?_ ?_
   rotate_left
   ·simp only [putAll,Act.put,List.setIfInBounds_toArray,List.set_cons_zero,List.set_cons_succ]
    rfl
   refine one_ (i := 5) (N := some 32) #[true,true,true,true,true,true,false,false] rfl rfl (one_of HT_.out (by kernel_rfl)) (by decide) (fun K hK => ?_)
   refine Kd.R_append_rows_step k39 (w0 := w) w.heap.size (by rfl) (.tmp 29) (.tmp 31) 27 39 (.agg #[(.string ⟨#[]⟩),(.int .i64 0),(.string ⟨#[]⟩)]) 40 rfl Tryz.underlying27 info39 rfl (by decide) (by omega) v480 y479 y482 _ _ _ (fun k_ => (w.heap.size ≤ k_) ∧ some k_ ≠ (.slice Ao22 y482.length co22 : Value).ownBlock ∧ k_ ≠ gb472) (fun _ => False) rfl rfl ?aO ?aR (fun _ _ h => h) (fun _ h => h.elim) ?aF ?aB ?aS ?aL ?_
   (case aR => repeat (first|exact (Kd.R_reads' HO484.out).2.2|(with_reducible refine Kd.C_alloc ?_ _)|(with_reducible refine Kd.C_drewN ?_ _)|(with_reducible refine Kd.C_drew ?_)))
   (case aB => exact (by repeat (first|(with_reducible first|exact HB.out|apply qac|apply qaa|apply qab|refine qad ?_ GE472.out)|exact HB.out)))
   (case aF => exact (fun k_ hk => ⟨(Nat.le_trans (qal (by repeat (first|(with_reducible first|exact HB.out|apply qac|apply qaa|apply qab|refine qad ?_ GE472.out)|exact HB.out))) hk),Kd.fresh' (Kd.R_lt (by (with_reducible repeat (first|apply Kd.R_alloc|apply Kd.R_drewN|apply Kd.R_drew));exact HO484.out)) k_ hk,Kd.freshB (g := gb472) (o := .cells #[.string a3_0,.int .i64 a3_1,.string a3_2] 39 (0,0)) (by (with_reducible repeat (first|refine qag ?_ _|refine qai ?_|refine qaf ?_ _));exact BK472.out) k_ hk⟩))
   (case aO => exact (by (with_reducible repeat (first|apply Kd.R_alloc|apply Kd.R_drewN|apply Kd.R_drew));exact HO481.out))
   (case aS => exact (qal (by repeat (first|(with_reducible first|exact HB.out|apply qac|apply qaa|apply qab|refine qad ?_ GE472.out)|exact HB.out))))
   (case aL => have := LMc9.out;omega)
   intro v486 w21 ho hb hg hat
   rw [← Ny485.out] at ho
   have n0_ := Aside0.mk (Kd.V_afterv (ok := (fun k_ => ((P0_ k_ ∨ P1_ k_) ∨ w.heap.size ≤ k_) ∧ some k_ ≠ (.slice Ao22 y482.length co22 : Value).ownBlock ∧ k_ ≠ gb472)) (by (with_reducible repeat (first|apply Kd.V_alloc|apply Kd.V_drewN|apply Kd.V_drew));exact Kd.V_mono HO0.out (fun _ hk => ⟨⟨hk.1,⟨hk.2.2.1,hk.2.2.2⟩⟩,hk.2.1⟩)) hg hat)
   have n1_ := Aside0.mk (Kd.V_afterv (ok := (fun k_ => ((P0_ k_ ∨ P1_ k_) ∨ w.heap.size ≤ k_) ∧ some k_ ≠ (.slice Ao22 y482.length co22 : Value).ownBlock ∧ k_ ≠ gb472)) (by (with_reducible repeat (first|apply Kd.V_alloc|apply Kd.V_drewN|apply Kd.V_drew));exact Kd.V_mono HO1.out (fun _ hk => ⟨⟨hk.1,⟨hk.2.2.1,hk.2.2.2⟩⟩,hk.2.1⟩)) hg hat)
   have n2_ := Aside0.mk (blk_grown (g := gb472) (o := .cells #[.string a3_0,.int .i64 a3_1,.string a3_2] 39 (0,0)) (by (with_reducible repeat (first|refine qag ?_ _|refine qai ?_|refine qaf ?_ _));exact BK472.out) hg (Kd.R_away HO481.out (fun _ hk => hk.2.2)))
   have n3_ := Aside0.mk (Kd.R_after (ok := (fun k_ => (w.heap.size ≤ k_) ∧ k_ ≠ gb472)) (by (with_reducible repeat (first|apply Kd.R_alloc|apply Kd.R_drewN|apply Kd.R_drew));exact Kd.R_mono HO484.out (fun _ hk => ⟨⟨hk.1,hk.2.2⟩,hk.2.1⟩)) hg hat)
   have n4_ := Aside0.mk (hb)
   have n5_ := Aside0.mk (ho)
   clear HO0
   clear HO1
   clear BK472
   clear HO484
   clear HB
   clear HO481
   have HO0 := n0_
   have HO1 := n1_
   have BK472 := n2_
   have HO484 := n3_
   have HB := n4_
   have HO487 := n5_
   clear n0_ n1_ n2_ n3_ n4_ n5_
   clear ho hb hg hat
   obtain ⟨Ao23,co23,eo23⟩ := Kd.R_slice HO487.out
   (first|subst eo23|(injection eo23 with f1_ f2_ f3_;have f4_ := f1_.symm;have f5_ := f3_.symm;clear f1_ f2_ f3_;subst f4_;subst f5_))
   refine hK.out _ _ ⟨(qae BK472.out 0).trans rfl,(qae BK472.out 1).trans rfl,(qae BK472.out 2).trans rfl⟩ (fun hHeld => ?_)
   clear hK K
   refine norm_ (a' := ?_) ?_ ?_
   rotate_left
   ·show Act.put _ (some 32) _ = _
    simp only [Act.put,List.setIfInBounds_toArray,List.set_cons_zero,List.set_cons_succ,i64_w,i32_w]
    rfl
   refine one_ (i := 6) (N := some 33) #[true,true,true,true,true,true,true,false] rfl rfl (one_of HT_.out (by kernel_rfl)) (by decide) (fun K hK => ?_)
   refine goes_ Tryz.func19 (by kernel_rfl) rfl #[.slice Ao23 y485.length co23] (by rfl) rfl rfl (by first|rfl|(simp only [List.map_toArray,List.map_cons,List.map_nil,List.length_drop,List.length_take];rfl)|simp only [List.map_toArray,List.map_cons,List.map_nil]) ?_
   with_reducible refine (keelsonlaw4_light.calls k _ _ y485 t488 _ (by first|exact hG|exact GL.below hG (by repeat (first|(with_reducible first|exact HB.out|apply qac|apply qaa|apply qab|refine qad ?_ GE472.out)|exact HB.out)))  ?side1 ?side2 A10.out).mono ?_
   (case side1 => repeat (first|exact (Kd.R_reads' HO487.out).2.2|(with_reducible refine Kd.C_alloc ?_ _)|(with_reducible refine Kd.C_drewN ?_ _)|(with_reducible refine Kd.C_drew ?_)))
   (case side2 => exact (Kd.R_reads' HO487.out).2.1)
   rintro e w' ⟨rfl,⟨nd,rfl⟩⟩
   refine ⟨_,rfl,?_⟩
   refine hK.out _ _ ⟨(qae BK472.out 0).trans rfl,(qae BK472.out 1).trans rfl,(qae BK472.out 2).trans rfl⟩ (fun hHeld => ?_)
   clear hK K
   refine norm_ (a' := ?_) ?_ ?_
   rotate_left
   ·show Act.put _ (some 33) _ = _
    simp only [Act.put,List.setIfInBounds_toArray,List.set_cons_zero,List.set_cons_succ,i64_w,i32_w]
    rfl
   refine pure_ (i := 7) (N := some 12) (v := ?_) (a' := ?_) #[true,true,true,true,true,true,true,true] rfl rfl (any_of HT_.out (by kernel_rfl)) (fun _ _ _ h => h) (Or.inl ⟨by rfl,?_⟩) ?_ ?_
   rotate_left
   ·intro w'
    go_simp
    with_reducible rfl
   rotate_left
   ·simp only [Act.put,List.setIfInBounds_toArray,List.set_cons_zero,List.set_cons_succ,i64_w,i32_w]
    rfl
   refine done_ (done_of HT_.out (by kernel_rfl)) ?_
   go_upto_region 5 with (fail)
   go_cut [47] (fun v47 wc => ∃ (kq : Nat) (x47_10 : Bool),v47 = .bool x47_10 ∧ Aside0 (keelsonlaw4_DependsMore.j0 kq l0 l1 l2 t473 x47_10 a3_0 a3_1 a3_2 = some r) ∧ Aside0 (kq ≤ k) ∧ Aside0 (Kd.V (Kd.slice 39 k39) 48 wc w.heap.size (fun k_ => ((P0_ k_ ∨ P1_ k_) ∨ w.heap.size ≤ k_) ∧ k_ ≠ gb472) (.slice A0 l0.length c0) l0) ∧ Aside0 (Kd.V (Kd.slice 39 k39) 48 wc w.heap.size (fun k_ => ((P0_ k_ ∨ P1_ k_) ∨ w.heap.size ≤ k_) ∧ k_ ≠ gb472) (.slice A1 l1.length c1) l1) ∧ Aside0 (wc.heap[gb472]? = some (.cells #[.string a3_0,.int .i64 a3_1,.string a3_2] 39 (0,0))) ∧ Aside0 (Below w.heap.size w wc))
   case first =>
    have H := HC11.out
    clear HC11
    by_cases c24 : t473 = true
    ·subst c24
     have H1 : (if t474 = true then (if t475 = true then (keelsonlaw4_DependsMore.j0 k l0 l1 l2 true (!t488) a3_0 a3_1 a3_2) else (keelsonlaw4_DependsMore.j0 k l0 l1 l2 true true a3_0 a3_1 a3_2)) else (keelsonlaw4_DependsMore.j0 k l0 l1 l2 true true a3_0 a3_1 a3_2)) = some r := by rw [if_pos rfl] at H;exact H
     clear H
     have H := H1
     clear H1
     by_cases c25 : t474 = true
     ·subst c25
      have H1 : (if t475 = true then (keelsonlaw4_DependsMore.j0 k l0 l1 l2 true (!t488) a3_0 a3_1 a3_2) else (keelsonlaw4_DependsMore.j0 k l0 l1 l2 true true a3_0 a3_1 a3_2)) = some r := by rw [if_pos rfl] at H;exact H
      clear H
      have H := H1
      clear H1
      by_cases c26 : t475 = true
      ·subst c26
       have H1 : (keelsonlaw4_DependsMore.j0 k l0 l1 l2 true (!t488) a3_0 a3_1 a3_2) = some r := by rw [if_pos rfl] at H;exact H
       clear H
       have H := H1
       clear H1
       have H' := Aside0.mk H
       clear H
       go_wp2
       go_meet
       case rel => exact ⟨_,(!t488),(by first|rfl|(simp;done)|(simp [*];done)|(simp [qak];done)),H',⟨by first|omega|exact Nat.le_refl _⟩,⟨by (with_reducible repeat (first|apply Kd.V_alloc|apply Kd.V_drewN|apply Kd.V_drew));exact Kd.V_mono HO0.out (fun _ hk => ⟨hk.1.1,hk.1.2.2⟩)⟩,⟨by (with_reducible repeat (first|apply Kd.V_alloc|apply Kd.V_drewN|apply Kd.V_drew));exact Kd.V_mono HO1.out (fun _ hk => ⟨hk.1.1,hk.1.2.2⟩)⟩,⟨by (with_reducible repeat (first|refine qag ?_ _|refine qai ?_|refine qaf ?_ _));exact BK472.out⟩,⟨by repeat (first|(with_reducible first|exact HB.out|apply qac|apply qaa|apply qab|refine qad ?_ GE472.out)|exact HB.out)⟩⟩
      ·replace c26 := Bool.eq_false_iff.mpr c26
       subst c26
       have H1 : (keelsonlaw4_DependsMore.j0 k l0 l1 l2 true true a3_0 a3_1 a3_2) = some r := by rw [if_neg (show ¬ (false = true) by decide)] at H;exact H
       clear H
       have H := H1
       clear H1
       have H' := Aside0.mk H
       clear H
       go_wp2
       go_meet
       case rel => exact ⟨_,(true),(by first|rfl|(simp;done)|(simp [*];done)|(simp [qak];done)),H',⟨by first|omega|exact Nat.le_refl _⟩,⟨by (with_reducible repeat (first|apply Kd.V_alloc|apply Kd.V_drewN|apply Kd.V_drew));exact Kd.V_mono HO0.out (fun _ hk => ⟨hk.1.1,hk.1.2.2⟩)⟩,⟨by (with_reducible repeat (first|apply Kd.V_alloc|apply Kd.V_drewN|apply Kd.V_drew));exact Kd.V_mono HO1.out (fun _ hk => ⟨hk.1.1,hk.1.2.2⟩)⟩,⟨by (with_reducible repeat (first|refine qag ?_ _|refine qai ?_|refine qaf ?_ _));exact BK472.out⟩,⟨by repeat (first|(with_reducible first|exact HB.out|apply qac|apply qaa|apply qab|refine qad ?_ GE472.out)|exact HB.out)⟩⟩
     ·replace c25 := Bool.eq_false_iff.mpr c25
      subst c25
      have H1 : (keelsonlaw4_DependsMore.j0 k l0 l1 l2 true true a3_0 a3_1 a3_2) = some r := by rw [if_neg (show ¬ (false = true) by decide)] at H;exact H
      clear H
      have H := H1
      clear H1
      have H' := Aside0.mk H
      clear H
      go_wp2
      go_meet
      case rel => exact ⟨_,(true),(by first|rfl|(simp;done)|(simp [*];done)|(simp [qak];done)),H',⟨by first|omega|exact Nat.le_refl _⟩,⟨by (with_reducible repeat (first|apply Kd.V_alloc|apply Kd.V_drewN|apply Kd.V_drew));exact Kd.V_mono HO0.out (fun _ hk => ⟨hk.1.1,hk.1.2.2⟩)⟩,⟨by (with_reducible repeat (first|apply Kd.V_alloc|apply Kd.V_drewN|apply Kd.V_drew));exact Kd.V_mono HO1.out (fun _ hk => ⟨hk.1.1,hk.1.2.2⟩)⟩,⟨by (with_reducible repeat (first|refine qag ?_ _|refine qai ?_|refine qaf ?_ _));exact BK472.out⟩,⟨by repeat (first|(with_reducible first|exact HB.out|apply qac|apply qaa|apply qab|refine qad ?_ GE472.out)|exact HB.out)⟩⟩
    ·replace c24 := Bool.eq_false_iff.mpr c24
     subst c24
     have H1 : (keelsonlaw4_DependsMore.j0 k l0 l1 l2 false true a3_0 a3_1 a3_2) = some r := by rw [if_neg (show ¬ (false = true) by decide)] at H;exact H
     clear H
     have H := H1
     clear H1
     have H' := Aside0.mk H
     clear H
     go_wp2
     go_meet
     case rel => exact ⟨_,(true),(by first|rfl|(simp;done)|(simp [*];done)|(simp [qak];done)),H',⟨by first|omega|exact Nat.le_refl _⟩,⟨by (with_reducible repeat (first|apply Kd.V_alloc|apply Kd.V_drewN|apply Kd.V_drew));exact Kd.V_mono HO0.out (fun _ hk => ⟨hk.1.1,hk.1.2.2⟩)⟩,⟨by (with_reducible repeat (first|apply Kd.V_alloc|apply Kd.V_drewN|apply Kd.V_drew));exact Kd.V_mono HO1.out (fun _ hk => ⟨hk.1.1,hk.1.2.2⟩)⟩,⟨by (with_reducible repeat (first|refine qag ?_ _|refine qai ?_|refine qaf ?_ _));exact BK472.out⟩,⟨by repeat (first|(with_reducible first|exact HB.out|apply qac|apply qaa|apply qab|refine qad ?_ GE472.out)|exact HB.out)⟩⟩
   case rest =>
    clear HC11
    try clear c1
    try clear c2
    try clear p2
    try clear c3
    try clear c6
    try clear c8
    try clear c9
    try clear c16
    try clear c19
    try clear c24
    try clear c25
    try clear c26
    obtain ⟨kq,x47_10,rfl,HA,HJ10,HO_0,HO_1,BK472,HB⟩ := hcut
    cases kq with
    | zero => exact absurd HA.out (by simp [keelsonlaw4_DependsMore.j0])
    | succ kj10 =>
     have H := HA.out
     clear HA
     simp only [keelsonlaw4_DependsMore.j0] at H
     by_cases c27 : x47_10 = true
     ·subst c27
      have H1 : (some t473) = some r := by rw [if_pos rfl] at H;exact H
      clear H
      have H := H1
      clear H1
      obtain rfl := Option.some.inj H
      go_wp2
      go_ret
      exact ⟨by first|rfl|(simp [qam,qan]<;>rfl)|(simp [*,qam,qan]<;>rfl),by repeat (first|(with_reducible first|exact HB.out|apply qac|apply qaa|apply qab|refine qad ?_ GE472.out)|exact HB.out)⟩
     ·replace c27 := Bool.eq_false_iff.mpr c27
      subst c27
      have H1 : ((depends_Open.f kj10 l0 l2).bind fun t489 => ((some (([] : List (S39)) : List (S39))).bind fun y492 => (if y492.length + l2.length < 3518437208883 then ((some (y492 ++ l2 : List (S39))).bind fun y495 => ((some (([(⟨a3_0,a3_1,a3_2⟩ : S39)] : List (S39)) : List (S39))).bind fun y498 => (if y495.length + y498.length < 3518437208883 then ((depends_Open.f kj10 l0 (y495 ++ y498)).bind fun t504 => (keelsonlaw4_DependsMore.l0 kj10 l0 l1 l2 t489 t504 0 0)) else (none)))) else (none)))) = some r := by rw [if_neg (show ¬ (false = true) by decide)] at H;exact H
      clear H
      have H := H1
      clear H1
      replace H := Option.bind_eq_some_iff.mp H
      obtain ⟨t489,A280,H⟩ := H
      replace H : ((some (([] : List (S39)) : List (S39))).bind fun y492 => (if y492.length + l2.length < 3518437208883 then ((some (y492 ++ l2 : List (S39))).bind fun y495 => ((some (([(⟨a3_0,a3_1,a3_2⟩ : S39)] : List (S39)) : List (S39))).bind fun y498 => (if y495.length + y498.length < 3518437208883 then ((depends_Open.f kj10 l0 (y495 ++ y498)).bind fun t504 => (keelsonlaw4_DependsMore.l0 kj10 l0 l1 l2 t489 t504 0 0)) else (none)))) else (none))) = some r := H
      have A28 := Aside0.mk A280
      clear A280
      obtain ⟨y492,hy492⟩ : ∃ y_ : List (S39),y_ = (([] : List (S39))) := ⟨_,rfl⟩
      replace H : (if y492.length + l2.length < 3518437208883 then ((some (y492 ++ l2 : List (S39))).bind fun y495 => ((some (([(⟨a3_0,a3_1,a3_2⟩ : S39)] : List (S39)) : List (S39))).bind fun y498 => (if y495.length + y498.length < 3518437208883 then ((depends_Open.f kj10 l0 (y495 ++ y498)).bind fun t504 => (keelsonlaw4_DependsMore.l0 kj10 l0 l1 l2 t489 t504 0 0)) else (none)))) else (none)) = some r := by first|(rw [hy492];with_reducible exact H)|(have H2_ := (Option.bind_some _ _).symm.trans H;rw [hy492];with_reducible exact H2_)|(have H2_ := (Option.bind_some _ _).symm.trans H;with_reducible exact H2_) | with_reducible exact H|(rw [hy492];exact H)|exact H
      have Ny492 := Aside0.mk hy492
      clear hy492
      by_cases c29 : y492.length + l2.length < 3518437208883
      ·rw [if_pos c29] at H
       have LMc29 := Aside0.mk c29
       clear c29
       obtain ⟨y495,hy495⟩ : ∃ y_ : List (S39),y_ = (y492 ++ l2) := ⟨_,rfl⟩
       replace H : ((some (([(⟨a3_0,a3_1,a3_2⟩ : S39)] : List (S39)) : List (S39))).bind fun y498 => (if y495.length + y498.length < 3518437208883 then ((depends_Open.f kj10 l0 (y495 ++ y498)).bind fun t504 => (keelsonlaw4_DependsMore.l0 kj10 l0 l1 l2 t489 t504 0 0)) else (none))) = some r := by first|(rw [hy495];with_reducible exact H)|(have H2_ := (Option.bind_some _ _).symm.trans H;rw [hy495];with_reducible exact H2_)|(have H2_ := (Option.bind_some _ _).symm.trans H;with_reducible exact H2_) | with_reducible exact H|(rw [hy495];exact H)|exact H
       have Ny495 := Aside0.mk hy495
       clear hy495
       obtain ⟨y498,hy498⟩ : ∃ y_ : List (S39),y_ = (([(⟨a3_0,a3_1,a3_2⟩ : S39)] : List (S39))) := ⟨_,rfl⟩
       replace H : (if y495.length + y498.length < 3518437208883 then ((depends_Open.f kj10 l0 (y495 ++ y498)).bind fun t504 => (keelsonlaw4_DependsMore.l0 kj10 l0 l1 l2 t489 t504 0 0)) else (none)) = some r := by first|(rw [hy498];with_reducible exact H)|(have H2_ := (Option.bind_some _ _).symm.trans H;rw [hy498];with_reducible exact H2_)|(have H2_ := (Option.bind_some _ _).symm.trans H;with_reducible exact H2_) | with_reducible exact H|(rw [hy498];exact H)|exact H
       have Ny498 := Aside0.mk hy498
       clear hy498
       by_cases c30 : y495.length + y498.length < 3518437208883
       ·rw [if_pos c30] at H
        have LMc30 := Aside0.mk c30
        clear c30
        obtain ⟨y501,hy501⟩ : ∃ y_ : List (S39),y_ = (y495 ++ y498) := ⟨_,rfl⟩
        replace H : ((depends_Open.f kj10 l0 y501).bind fun t504 => (keelsonlaw4_DependsMore.l0 kj10 l0 l1 l2 t489 t504 0 0)) = some r := by first|(rw [hy501];with_reducible exact H)|(have H2_ := (Option.bind_some _ _).symm.trans H;rw [hy501];with_reducible exact H2_)|(have H2_ := (Option.bind_some _ _).symm.trans H;with_reducible exact H2_) | with_reducible exact H|(rw [hy501];exact H)|exact H
        have Ny501 := Aside0.mk hy501
        clear hy501
        replace H := Option.bind_eq_some_iff.mp H
        obtain ⟨t504,A310,H⟩ := H
        replace H : (keelsonlaw4_DependsMore.l0 kj10 l0 l1 l2 t489 t504 0 0) = some r := H
        have A31 := Aside0.mk A310
        clear A310
        have H' := Aside0.mk H
        clear H
        try go_wp2_with (first|((with_reducible refine qaj (f := 22) rfl ?_);refine goesL_ (some 51) rfl rfl Tryz.func22 (by kernel_rfl) rfl #[.slice A0 l0.length c0,.slice A2 l2.length c2] rfl (by first|rfl|(simp only [List.map_toArray,List.map_cons,List.map_nil,List.length_drop,List.length_take];rfl)|simp only [List.map_toArray,List.map_cons,List.map_nil]) ?_;(with_reducible refine (depends_Open.calls kj10 _ _ l0 _ _ l2 t489 _ (by first|exact hG|exact GL.below hG (by repeat (first|(with_reducible first|exact HB.out|apply qac|apply qaa|apply qab|refine qad ?_ GE472.out)|exact HB.out)))  ?side1 ?side2 ?side3 ?side4 A28.out).mono ?_);(case side1 => repeat (first|exact (Kd.V_reads' HO_0.out).2.2|(with_reducible refine Kd.C_alloc ?_ _)|(with_reducible refine Kd.C_drewN ?_ _)|(with_reducible refine Kd.C_drew ?_)));(case side2 => exact (Kd.V_reads' HO_0.out).2.1);(case side3 => repeat (first|exact (Kd.C_below HR2.out HB.out)|(with_reducible refine Kd.C_alloc ?_ _)|(with_reducible refine Kd.C_drewN ?_ _)|(with_reducible refine Kd.C_drew ?_)));(case side4 => exact HC2.out);rintro e w32 ⟨v490,rfl,ho0,hb⟩;refine ⟨_,rfl,?_⟩;have n0_ := Aside0.mk (Kd.V_elder' (by (with_reducible repeat (first|apply Kd.V_alloc|apply Kd.V_drewN|apply Kd.V_drew));exact HO_0.out) (Kd.R_base ho0) hb);have n1_ := Aside0.mk (Kd.V_elder' (by (with_reducible repeat (first|apply Kd.V_alloc|apply Kd.V_drewN|apply Kd.V_drew));exact HO_1.out) (Kd.R_base ho0) hb);have n2_ := Aside0.mk (Kd.R_lower (Kd.R_newM (M := fun k_ => (w.heap.size ≤ k_)) ho0 (qal (by repeat (first|(with_reducible first|exact HB.out|apply qac|apply qaa|apply qab|refine qad ?_ GE472.out)|exact HB.out))) (fun k_ h_ => h_)) (qal (by repeat (first|(with_reducible first|exact HB.out|apply qac|apply qaa|apply qab|refine qad ?_ GE472.out)|exact HB.out))));have n3_ := Aside0.mk (qap (g := gb472) (o := .cells #[.string a3_0,.int .i64 a3_1,.string a3_2] 39 (0,0)) (by (with_reducible repeat (first|refine qag ?_ _|refine qai ?_|refine qaf ?_ _));exact BK472.out) hb);have n4_ := Aside0.mk (qao (by repeat (first|(with_reducible first|exact HB.out|apply qac|apply qaa|apply qab|refine qad ?_ GE472.out)|exact HB.out)) hb);clear HO_0;clear HO_1;clear BK472;clear HB;have HO_0 := n0_;have HO_1 := n1_;have HO491 := n2_;have BK472 := n3_;have HB := n4_;clear n0_ n1_ n2_ n3_ n4_;(try clear hb);(try clear hb2);(try clear hk);(try clear hi);(try clear ho0)))
        have n0_ := Aside0.mk (Kd.V_drew HO_0.out)
        have n1_ := Aside0.mk (Kd.V_drew HO_1.out)
        have n2_ := Aside0.mk (Kd.R_drew HO491.out)
        have n3_ := Aside0.mk (qai BK472.out)
        have n4_ := Aside0.mk (qab HB.out)
        clear HO_0
        clear HO_1
        clear HO491
        clear BK472
        clear HB
        have HO_0 := n0_
        have HO_1 := n1_
        have HO491 := n2_
        have BK472 := n3_
        have HB := n4_
        clear n0_ n1_ n2_ n3_ n4_
        refine start_ (n := 9) (S := fun w' => w'.cell? ⟨gb472,0,none⟩ = some (.string a3_0) ∧ w'.cell? ⟨gb472,1,none⟩ = some (.int .i64 a3_1) ∧ w'.cell? ⟨gb472,2,none⟩ = some (.string a3_2)) (ds := []) #[false,false,false,false,false,false,false,false,false] (by kernel_rfl) rfl rfl ⟨(qae BK472.out 0).trans rfl,(qae BK472.out 1).trans rfl,(qae BK472.out 2).trans rfl⟩ (fun hHeld => ?_);refine with_tabW keelsonlaw4_DependsMore.tab8 keelsonlaw4_DependsMore.bits8 (fun HT_ HW_ => ?_)
        generalize w32.drew = w33 at HO_0 HO_1 HO491 BK472 HB hHeld ⊢
        refine pure_ (i := 0) (N := some 52) (v := ?_) (a' := ?_) #[true,false,false,false,false,false,false,false,false] rfl rfl (any_of HT_.out (by kernel_rfl)) (fun _ _ _ h => h) (Or.inl ⟨by rfl,?_⟩) ?_ ?_
        rotate_left
        ·intro w'
         go_simp
         with_reducible rfl
        rotate_left
        ·simp only [Act.put,List.setIfInBounds_toArray,List.set_cons_zero,List.set_cons_succ,i64_w,i32_w]
         rfl
        refine pure_ (i := 2) (N := some 54) (v := ?_) (a' := ?_) #[true,false,true,false,false,false,false,false,false] rfl rfl (any_of HT_.out (by kernel_rfl)) (fun _ _ _ h => h) (Or.inl ⟨by rfl,?_⟩) ?_ ?_
        rotate_left
        ·intro w'
         go_simp
         with_reducible rfl
        rotate_left
        ·simp only [Act.put,List.setIfInBounds_toArray,List.set_cons_zero,List.set_cons_succ,i64_w,i32_w]
         rfl
        refine take_ (i := 4) (N := some 56) (v := ?_) (a' := ?_) #[true,false,true,false,true,false,false,false,false] rfl rfl (take_ofW HT_.out HW_.out (by kernel_rfl)) (fun _ _ _ h => h) (Or.inl ⟨by rfl,?_⟩) hHeld ?_ ?_
        rotate_left
        ·rintro w' ⟨s0,s1,s2⟩
         go_simp
         with_reducible rfl
        rotate_left
        ·simp only [Act.put,List.setIfInBounds_toArray,List.set_cons_zero,List.set_cons_succ,i64_w,i32_w]
         rfl
        refine join_ (σ := Value × Value × Value) 3 #[true,true,true,true,true,true,false,false,false] (fun s_ => [(53,s_.1),(55,s_.2.1),(57,s_.2.2)]) (fun s_ w' => (w'.cell? ⟨gb472,0,none⟩ = some (.string a3_0) ∧ w'.cell? ⟨gb472,1,none⟩ = some (.int .i64 a3_1) ∧ w'.cell? ⟨gb472,2,none⟩ = some (.string a3_2)) ∧ (Kd.R (Kd.int .i64) 3 w' w.heap.size (fun k_ => (w.heap.size ≤ k_)) v490 t489) ∧ (Kd.R k39 39 w' w.heap.size (fun k_ => (w.heap.size ≤ k_) ∧ some k_ ≠ (s_.2.2 : Value).ownBlock ∧ k_ ≠ gb472) s_.2.1 y495) ∧ (Kd.R k39 39 w' w.heap.size (fun k_ => (w.heap.size ≤ k_) ∧ some k_ ≠ (s_.2.1 : Value).ownBlock ∧ k_ ≠ gb472) s_.2.2 y498) ∧ (Kd.V (Kd.slice 39 k39) 48 w' w.heap.size (fun k_ => ((P0_ k_ ∨ P1_ k_) ∨ w.heap.size ≤ k_) ∧ some k_ ≠ (v490 : Value).ownBlock ∧ some k_ ≠ (s_.2.1 : Value).ownBlock ∧ some k_ ≠ (s_.2.2 : Value).ownBlock ∧ k_ ≠ gb472) (.slice A0 l0.length c0) l0) ∧ (Kd.V (Kd.slice 39 k39) 48 w' w.heap.size (fun k_ => ((P0_ k_ ∨ P1_ k_) ∨ w.heap.size ≤ k_) ∧ some k_ ≠ (v490 : Value).ownBlock ∧ some k_ ≠ (s_.2.1 : Value).ownBlock ∧ some k_ ≠ (s_.2.2 : Value).ownBlock ∧ k_ ≠ gb472) (.slice A1 l1.length c1) l1) ∧ (w'.heap[gb472]? = some (.cells #[.string a3_0,.int .i64 a3_1,.string a3_2] 39 (0,0))) ∧ (Below w.heap.size w w')) ?_ ?_
        rotate_left
        ·intro hCont
         refine two_ (i := 1) (j := 5) (Ni := some 53) (Nj := some 57) #[true,true,true,false,true,false,false,false,false] #[true,false,true,false,true,true,false,false,false] rfl rfl rfl rfl (two_of HT_.out (by kernel_rfl)) (by decide) (by decide) (fun K hK => ?_) (fun K hK => ?_)
         ·skip
          refine Kd.R_lit_step k39 _ 39 ?hg (N := 53) ?hd (xs := ([] : List (S39))) (inner := []) (ok := fun _ => True) (okp := fun _ => True) ?hr ?hp (fun _ hk => hk) trivial (Below.refl _ _) (Nat.le_refl _) (by simp) ?_;(case hd => rfl);(case hg => rfl);(case hr => first|(go_simp;done)|(go_simp;rfl));(case hp => exact (Reps.none _ _))
          intro v493 w34 ho35 hb hg_ hnew_
          clear hg_ hnew_
          (first|rw [← Ny492.out] at ho35|(simp only [Int.reduceToNat] at ho35;rw [← Ny492.out] at ho35))
          have n0_ := Aside0.mk (Kd.V_elder' (by (with_reducible repeat (first|apply Kd.V_alloc|apply Kd.V_drewN|apply Kd.V_drew));exact HO_0.out) (Kd.R_base ho35) hb)
          have n1_ := Aside0.mk (Kd.V_elder' (by (with_reducible repeat (first|apply Kd.V_alloc|apply Kd.V_drewN|apply Kd.V_drew));exact HO_1.out) (Kd.R_base ho35) hb)
          have n2_ := Aside0.mk (Kd.R_below (by (with_reducible repeat (first|apply Kd.R_alloc|apply Kd.R_drewN|apply Kd.R_drew));exact HO491.out) hb)
          have n3_ := Aside0.mk (Kd.R_lower (Kd.R_newB (Kd.R_newM (M := fun k_ => (w.heap.size ≤ k_)) ho35 (qal (by repeat (first|(with_reducible first|exact HB.out|apply qac|apply qaa|apply qab|refine qad ?_ GE472.out)|exact HB.out))) (fun k_ h_ => h_)) (g := gb472) (o := .cells #[.string a3_0,.int .i64 a3_1,.string a3_2] 39 (0,0)) (by (with_reducible repeat (first|refine qag ?_ _|refine qai ?_|refine qaf ?_ _));exact BK472.out)) (qal (by repeat (first|(with_reducible first|exact HB.out|apply qac|apply qaa|apply qab|refine qad ?_ GE472.out)|exact HB.out))))
          have n4_ := Aside0.mk (qap (g := gb472) (o := .cells #[.string a3_0,.int .i64 a3_1,.string a3_2] 39 (0,0)) (by (with_reducible repeat (first|refine qag ?_ _|refine qai ?_|refine qaf ?_ _));exact BK472.out) hb)
          have n5_ := Aside0.mk (qao (by repeat (first|(with_reducible first|exact HB.out|apply qac|apply qaa|apply qab|refine qad ?_ GE472.out)|exact HB.out)) hb)
          clear HO_0
          clear HO_1
          clear HO491
          clear BK472
          clear HB
          have HO_0 := n0_
          have HO_1 := n1_
          have HO491 := n2_
          have HO494 := n3_
          have BK472 := n4_
          have HB := n5_
          clear n0_ n1_ n2_ n3_ n4_ n5_
          clear hb ho35
          refine hK.out _ _ ⟨(qae BK472.out 0).trans rfl,(qae BK472.out 1).trans rfl,(qae BK472.out 2).trans rfl⟩ (fun hHeld => ?_)
          clear hK K
          refine norm_ (a' := ?_) ?_ ?_
          rotate_left
          ·show Act.put _ (some 53) _ = _
           simp only [Act.put,List.setIfInBounds_toArray,List.set_cons_zero,List.set_cons_succ,i64_w,i32_w]
           rfl
          refine two_ (i := 3) (j := 5) (Ni := some 55) (Nj := some 57) #[true,true,true,true,true,false,false,false,false] #[true,true,true,false,true,true,false,false,false] rfl rfl rfl rfl (two_of HT_.out (by kernel_rfl)) (by decide) (by decide) (fun K hK => ?_) (fun K hK => ?_)
          ·skip
           refine Kd.R_append_rows_step k39 (w0 := w) w.heap.size (by rfl) (.tmp 53) (.tmp 54) 27 39 (.agg #[(.string ⟨#[]⟩),(.int .i64 0),(.string ⟨#[]⟩)]) 40 rfl Tryz.underlying27 info39 rfl (by decide) (by omega) v493 y492 l2 _ _ _ (fun k_ => (w.heap.size ≤ k_) ∧ k_ ≠ gb472) (fun _ => False) rfl rfl ?aO ?aR (fun _ _ h => h) (fun _ h => h.elim) ?aF ?aB ?aS ?aL ?_
           (case aR => repeat (first|exact (Kd.C_below HR2.out HB.out)|(with_reducible refine Kd.C_alloc ?_ _)|(with_reducible refine Kd.C_drewN ?_ _)|(with_reducible refine Kd.C_drew ?_)))
           (case aB => exact (by repeat (first|(with_reducible first|exact HB.out|apply qac|apply qaa|apply qab|refine qad ?_ GE472.out)|exact HB.out)))
           (case aF => exact (fun k_ hk => ⟨(Nat.le_trans (qal (by repeat (first|(with_reducible first|exact HB.out|apply qac|apply qaa|apply qab|refine qad ?_ GE472.out)|exact HB.out))) hk),Kd.freshB (g := gb472) (o := .cells #[.string a3_0,.int .i64 a3_1,.string a3_2] 39 (0,0)) (by (with_reducible repeat (first|refine qag ?_ _|refine qai ?_|refine qaf ?_ _));exact BK472.out) k_ hk⟩))
           (case aO => exact (by (with_reducible repeat (first|apply Kd.R_alloc|apply Kd.R_drewN|apply Kd.R_drew));exact Kd.R_mono HO494.out (fun _ hk => ⟨hk.1.1,hk.2⟩)))
           (case aS => exact (qal (by repeat (first|(with_reducible first|exact HB.out|apply qac|apply qaa|apply qab|refine qad ?_ GE472.out)|exact HB.out))))
           (case aL => have := LMc29.out;omega)
           intro v496 w36 ho hb hg hat
           rw [← Ny495.out] at ho
           have n0_ := Aside0.mk (Kd.V_afterv (ok := (fun k_ => ((P0_ k_ ∨ P1_ k_) ∨ w.heap.size ≤ k_) ∧ some k_ ≠ (v490 : Value).ownBlock ∧ k_ ≠ gb472)) (by (with_reducible repeat (first|apply Kd.V_alloc|apply Kd.V_drewN|apply Kd.V_drew));exact Kd.V_mono HO_0.out (fun _ hk => ⟨⟨hk.1.1.1,⟨hk.1.2,hk.1.1.2⟩⟩,hk.2⟩)) hg hat)
           have n1_ := Aside0.mk (Kd.V_afterv (ok := (fun k_ => ((P0_ k_ ∨ P1_ k_) ∨ w.heap.size ≤ k_) ∧ some k_ ≠ (v490 : Value).ownBlock ∧ k_ ≠ gb472)) (by (with_reducible repeat (first|apply Kd.V_alloc|apply Kd.V_drewN|apply Kd.V_drew));exact Kd.V_mono HO_1.out (fun _ hk => ⟨⟨hk.1.1.1,⟨hk.1.2,hk.1.1.2⟩⟩,hk.2⟩)) hg hat)
           have n2_ := Aside0.mk (blk_grown (g := gb472) (o := .cells #[.string a3_0,.int .i64 a3_1,.string a3_2] 39 (0,0)) (by (with_reducible repeat (first|refine qag ?_ _|refine qai ?_|refine qaf ?_ _));exact BK472.out) hg (Kd.R_away HO494.out (fun _ hk => hk.2)))
           have n3_ := Aside0.mk (Kd.R_over' (by (with_reducible repeat (first|apply Kd.R_alloc|apply Kd.R_drewN|apply Kd.R_drew));exact HO491.out) (Kd.R_typed (by (with_reducible repeat (first|apply Kd.R_alloc|apply Kd.R_drewN|apply Kd.R_drew));exact HO494.out)) (by decide) hg)
           have n4_ := Aside0.mk (hb)
           have n5_ := Aside0.mk (ho)
           clear HO_0
           clear HO_1
           clear BK472
           clear HO491
           clear HB
           clear HO494
           have HO_0 := n0_
           have HO_1 := n1_
           have BK472 := n2_
           have HO491 := n3_
           have HB := n4_
           have HO497 := n5_
           clear n0_ n1_ n2_ n3_ n4_ n5_
           clear ho hb hg hat
           refine hK.out _ _ ⟨(qae BK472.out 0).trans rfl,(qae BK472.out 1).trans rfl,(qae BK472.out 2).trans rfl⟩ (fun hHeld => ?_)
           clear hK K
           refine norm_ (a' := ?_) ?_ ?_
           rotate_left
           ·show Act.put _ (some 55) _ = _
            simp only [Act.put,List.setIfInBounds_toArray,List.set_cons_zero,List.set_cons_succ,i64_w,i32_w]
            rfl
           refine one_ (i := 5) (N := some 57) #[true,true,true,true,true,true,false,false,false] rfl rfl (one_of HT_.out (by kernel_rfl)) (by decide) (fun K hK => ?_)
           refine Kd.R_lit_step k39 _ 39 ?hg (N := 57) ?hd (xs := ([(⟨a3_0,a3_1,a3_2⟩ : S39)] : List (S39))) (inner := [.string a3_0,.int .i64 a3_1,.string a3_2]) (ok := fun _ => True) (okp := fun _ => True) ?hr ?hp (fun _ hk => hk) trivial (Below.refl _ _) (Nat.le_refl _) (by simp) ?_;(case hd => rfl);(case hg => rfl);(case hr => first|(go_simp;done)|(go_simp;rfl));(case hp => exact (Reps.c3 (show Kd.M k39 _ _ _ (⟨a3_0,a3_1,a3_2⟩ : S39) [.string a3_0,.int .i64 a3_1,.string a3_2] from (k39_mkM _ _ _ (⟨a3_0,a3_1,a3_2⟩ : S39) )) (Reps.none _ _)))
           intro v499 w37 ho38 hb hg_ hnew_
           clear hg_ hnew_
           (first|rw [← Ny498.out] at ho38|(simp only [Int.reduceToNat] at ho38;rw [← Ny498.out] at ho38))
           have n0_ := Aside0.mk (Kd.V_elder' (by (with_reducible repeat (first|apply Kd.V_alloc|apply Kd.V_drewN|apply Kd.V_drew));exact HO_0.out) (Kd.R_base ho38) hb)
           have n1_ := Aside0.mk (Kd.V_elder' (by (with_reducible repeat (first|apply Kd.V_alloc|apply Kd.V_drewN|apply Kd.V_drew));exact HO_1.out) (Kd.R_base ho38) hb)
           have n2_ := Aside0.mk (Kd.R_below (by (with_reducible repeat (first|apply Kd.R_alloc|apply Kd.R_drewN|apply Kd.R_drew));exact HO491.out) hb)
           have n3_ := Aside0.mk (Kd.R_elder' (by (with_reducible repeat (first|apply Kd.R_alloc|apply Kd.R_drewN|apply Kd.R_drew));exact HO497.out) (Kd.R_base ho38) hb)
           have n4_ := Aside0.mk (Kd.R_lower (Kd.R_newB (Kd.R_new' (Kd.R_newM (M := fun k_ => (w.heap.size ≤ k_)) ho38 (qal (by repeat (first|(with_reducible first|exact HB.out|apply qac|apply qaa|apply qab|refine qad ?_ GE472.out)|exact HB.out))) (fun k_ h_ => h_)) (Kd.R_lt (by (with_reducible repeat (first|apply Kd.R_alloc|apply Kd.R_drewN|apply Kd.R_drew));exact HO497.out))) (g := gb472) (o := .cells #[.string a3_0,.int .i64 a3_1,.string a3_2] 39 (0,0)) (by (with_reducible repeat (first|refine qag ?_ _|refine qai ?_|refine qaf ?_ _));exact BK472.out)) (qal (by repeat (first|(with_reducible first|exact HB.out|apply qac|apply qaa|apply qab|refine qad ?_ GE472.out)|exact HB.out))))
           have n5_ := Aside0.mk (qap (g := gb472) (o := .cells #[.string a3_0,.int .i64 a3_1,.string a3_2] 39 (0,0)) (by (with_reducible repeat (first|refine qag ?_ _|refine qai ?_|refine qaf ?_ _));exact BK472.out) hb)
           have n6_ := Aside0.mk (qao (by repeat (first|(with_reducible first|exact HB.out|apply qac|apply qaa|apply qab|refine qad ?_ GE472.out)|exact HB.out)) hb)
           clear HO_0
           clear HO_1
           clear HO491
           clear HO497
           clear BK472
           clear HB
           have HO_0 := n0_
           have HO_1 := n1_
           have HO491 := n2_
           have HO497 := n3_
           have HO500 := n4_
           have BK472 := n5_
           have HB := n6_
           clear n0_ n1_ n2_ n3_ n4_ n5_ n6_
           clear hb ho38
           refine hK.out _ _ ⟨(qae BK472.out 0).trans rfl,(qae BK472.out 1).trans rfl,(qae BK472.out 2).trans rfl⟩ (fun hHeld => ?_)
           clear hK K
           refine norm_ (a' := ?_) ?_ ?_
           rotate_left
           ·show Act.put _ (some 57) _ = _
            simp only [Act.put,List.setIfInBounds_toArray,List.set_cons_zero,List.set_cons_succ,i64_w,i32_w]
            rfl
           exact norm_ (by simp only [putAll,Act.put,List.setIfInBounds_toArray,List.set_cons_zero,List.set_cons_succ]) (hCont (v493,v496,v499) _ ⟨hHeld,(by (with_reducible repeat (first|apply Kd.R_alloc|apply Kd.R_drewN|apply Kd.R_drew));exact Kd.R_mono HO491.out (fun _ hk => hk.1)),(by (with_reducible repeat (first|apply Kd.R_alloc|apply Kd.R_drewN|apply Kd.R_drew));exact Kd.R_mono HO497.out (fun _ hk => ⟨hk.1.1,⟨hk.2,hk.1.2⟩⟩)),(by (with_reducible repeat (first|apply Kd.R_alloc|apply Kd.R_drewN|apply Kd.R_drew));exact Kd.R_mono HO500.out (fun _ hk => ⟨hk.1.1.1,⟨hk.1.2,hk.2⟩⟩)),(by (with_reducible repeat (first|apply Kd.V_alloc|apply Kd.V_drewN|apply Kd.V_drew));exact Kd.V_mono HO_0.out (fun _ hk => ⟨hk.1.1.1,⟨hk.1.1.2.1,⟨hk.1.2,⟨hk.2,hk.1.1.2.2⟩⟩⟩⟩)),(by (with_reducible repeat (first|apply Kd.V_alloc|apply Kd.V_drewN|apply Kd.V_drew));exact Kd.V_mono HO_1.out (fun _ hk => ⟨hk.1.1.1,⟨hk.1.1.2.1,⟨hk.1.2,⟨hk.2,hk.1.1.2.2⟩⟩⟩⟩)),(by (with_reducible repeat (first|refine qag ?_ _|refine qai ?_|refine qaf ?_ _));exact BK472.out),(by repeat (first|(with_reducible first|exact HB.out|apply qac|apply qaa|apply qab|refine qad ?_ GE472.out)|exact HB.out))⟩)
          ·skip
           refine Kd.R_lit_step k39 _ 39 ?hg (N := 57) ?hd (xs := ([(⟨a3_0,a3_1,a3_2⟩ : S39)] : List (S39))) (inner := [.string a3_0,.int .i64 a3_1,.string a3_2]) (ok := fun _ => True) (okp := fun _ => True) ?hr ?hp (fun _ hk => hk) trivial (Below.refl _ _) (Nat.le_refl _) (by simp) ?_;(case hd => rfl);(case hg => rfl);(case hr => first|(go_simp;done)|(go_simp;rfl));(case hp => exact (Reps.c3 (show Kd.M k39 _ _ _ (⟨a3_0,a3_1,a3_2⟩ : S39) [.string a3_0,.int .i64 a3_1,.string a3_2] from (k39_mkM _ _ _ (⟨a3_0,a3_1,a3_2⟩ : S39) )) (Reps.none _ _)))
           intro v499 w36 ho37 hb hg_ hnew_
           clear hg_ hnew_
           (first|rw [← Ny498.out] at ho37|(simp only [Int.reduceToNat] at ho37;rw [← Ny498.out] at ho37))
           have n0_ := Aside0.mk (Kd.V_elder' (by (with_reducible repeat (first|apply Kd.V_alloc|apply Kd.V_drewN|apply Kd.V_drew));exact HO_0.out) (Kd.R_base ho37) hb)
           have n1_ := Aside0.mk (Kd.V_elder' (by (with_reducible repeat (first|apply Kd.V_alloc|apply Kd.V_drewN|apply Kd.V_drew));exact HO_1.out) (Kd.R_base ho37) hb)
           have n2_ := Aside0.mk (Kd.R_below (by (with_reducible repeat (first|apply Kd.R_alloc|apply Kd.R_drewN|apply Kd.R_drew));exact HO491.out) hb)
           have n3_ := Aside0.mk (Kd.R_elder' (by (with_reducible repeat (first|apply Kd.R_alloc|apply Kd.R_drewN|apply Kd.R_drew));exact HO494.out) (Kd.R_base ho37) hb)
           have n4_ := Aside0.mk (Kd.R_lower (Kd.R_newB (Kd.R_new' (Kd.R_newM (M := fun k_ => (w.heap.size ≤ k_)) ho37 (qal (by repeat (first|(with_reducible first|exact HB.out|apply qac|apply qaa|apply qab|refine qad ?_ GE472.out)|exact HB.out))) (fun k_ h_ => h_)) (Kd.R_lt (by (with_reducible repeat (first|apply Kd.R_alloc|apply Kd.R_drewN|apply Kd.R_drew));exact HO494.out))) (g := gb472) (o := .cells #[.string a3_0,.int .i64 a3_1,.string a3_2] 39 (0,0)) (by (with_reducible repeat (first|refine qag ?_ _|refine qai ?_|refine qaf ?_ _));exact BK472.out)) (qal (by repeat (first|(with_reducible first|exact HB.out|apply qac|apply qaa|apply qab|refine qad ?_ GE472.out)|exact HB.out))))
           have n5_ := Aside0.mk (qap (g := gb472) (o := .cells #[.string a3_0,.int .i64 a3_1,.string a3_2] 39 (0,0)) (by (with_reducible repeat (first|refine qag ?_ _|refine qai ?_|refine qaf ?_ _));exact BK472.out) hb)
           have n6_ := Aside0.mk (qao (by repeat (first|(with_reducible first|exact HB.out|apply qac|apply qaa|apply qab|refine qad ?_ GE472.out)|exact HB.out)) hb)
           clear HO_0
           clear HO_1
           clear HO491
           clear HO494
           clear BK472
           clear HB
           have HO_0 := n0_
           have HO_1 := n1_
           have HO491 := n2_
           have HO494 := n3_
           have HO500 := n4_
           have BK472 := n5_
           have HB := n6_
           clear n0_ n1_ n2_ n3_ n4_ n5_ n6_
           clear hb ho37
           refine hK.out _ _ ⟨(qae BK472.out 0).trans rfl,(qae BK472.out 1).trans rfl,(qae BK472.out 2).trans rfl⟩ (fun hHeld => ?_)
           clear hK K
           refine norm_ (a' := ?_) ?_ ?_
           rotate_left
           ·show Act.put _ (some 57) _ = _
            simp only [Act.put,List.setIfInBounds_toArray,List.set_cons_zero,List.set_cons_succ,i64_w,i32_w]
            rfl
           refine one_ (i := 3) (N := some 55) #[true,true,true,true,true,true,false,false,false] rfl rfl (one_of HT_.out (by kernel_rfl)) (by decide) (fun K hK => ?_)
           refine Kd.R_append_rows_step k39 (w0 := w) w.heap.size (by rfl) (.tmp 53) (.tmp 54) 27 39 (.agg #[(.string ⟨#[]⟩),(.int .i64 0),(.string ⟨#[]⟩)]) 40 rfl Tryz.underlying27 info39 rfl (by decide) (by omega) v493 y492 l2 _ _ _ (fun k_ => (w.heap.size ≤ k_) ∧ some k_ ≠ (v499 : Value).ownBlock ∧ k_ ≠ gb472) (fun _ => False) rfl rfl ?aO ?aR (fun _ _ h => h) (fun _ h => h.elim) ?aF ?aB ?aS ?aL ?_
           (case aR => repeat (first|exact (Kd.C_below HR2.out HB.out)|(with_reducible refine Kd.C_alloc ?_ _)|(with_reducible refine Kd.C_drewN ?_ _)|(with_reducible refine Kd.C_drew ?_)))
           (case aB => exact (by repeat (first|(with_reducible first|exact HB.out|apply qac|apply qaa|apply qab|refine qad ?_ GE472.out)|exact HB.out)))
           (case aF => exact (fun k_ hk => ⟨(Nat.le_trans (qal (by repeat (first|(with_reducible first|exact HB.out|apply qac|apply qaa|apply qab|refine qad ?_ GE472.out)|exact HB.out))) hk),Kd.fresh' (Kd.R_lt (by (with_reducible repeat (first|apply Kd.R_alloc|apply Kd.R_drewN|apply Kd.R_drew));exact HO500.out)) k_ hk,Kd.freshB (g := gb472) (o := .cells #[.string a3_0,.int .i64 a3_1,.string a3_2] 39 (0,0)) (by (with_reducible repeat (first|refine qag ?_ _|refine qai ?_|refine qaf ?_ _));exact BK472.out) k_ hk⟩))
           (case aO => exact (by (with_reducible repeat (first|apply Kd.R_alloc|apply Kd.R_drewN|apply Kd.R_drew));exact Kd.R_mono HO494.out (fun _ hk => ⟨hk.1.1.1,⟨hk.2,hk.1.2⟩⟩)))
           (case aS => exact (qal (by repeat (first|(with_reducible first|exact HB.out|apply qac|apply qaa|apply qab|refine qad ?_ GE472.out)|exact HB.out))))
           (case aL => have := LMc29.out;omega)
           intro v496 w38 ho hb hg hat
           rw [← Ny495.out] at ho
           have n0_ := Aside0.mk (Kd.V_afterv (ok := (fun k_ => ((P0_ k_ ∨ P1_ k_) ∨ w.heap.size ≤ k_) ∧ some k_ ≠ (v490 : Value).ownBlock ∧ some k_ ≠ (v499 : Value).ownBlock ∧ k_ ≠ gb472)) (by (with_reducible repeat (first|apply Kd.V_alloc|apply Kd.V_drewN|apply Kd.V_drew));exact Kd.V_mono HO_0.out (fun _ hk => ⟨⟨hk.1.1.1.1,⟨hk.1.1.2,⟨hk.2,hk.1.1.1.2⟩⟩⟩,hk.1.2⟩)) hg hat)
           have n1_ := Aside0.mk (Kd.V_afterv (ok := (fun k_ => ((P0_ k_ ∨ P1_ k_) ∨ w.heap.size ≤ k_) ∧ some k_ ≠ (v490 : Value).ownBlock ∧ some k_ ≠ (v499 : Value).ownBlock ∧ k_ ≠ gb472)) (by (with_reducible repeat (first|apply Kd.V_alloc|apply Kd.V_drewN|apply Kd.V_drew));exact Kd.V_mono HO_1.out (fun _ hk => ⟨⟨hk.1.1.1.1,⟨hk.1.1.2,⟨hk.2,hk.1.1.1.2⟩⟩⟩,hk.1.2⟩)) hg hat)
           have n2_ := Aside0.mk (blk_grown (g := gb472) (o := .cells #[.string a3_0,.int .i64 a3_1,.string a3_2] 39 (0,0)) (by (with_reducible repeat (first|refine qag ?_ _|refine qai ?_|refine qaf ?_ _));exact BK472.out) hg (Kd.R_away HO494.out (fun _ hk => hk.1.2)))
           have n3_ := Aside0.mk (Kd.R_over' (by (with_reducible repeat (first|apply Kd.R_alloc|apply Kd.R_drewN|apply Kd.R_drew));exact HO491.out) (Kd.R_typed (by (with_reducible repeat (first|apply Kd.R_alloc|apply Kd.R_drewN|apply Kd.R_drew));exact HO494.out)) (by decide) hg)
           have n4_ := Aside0.mk (Kd.R_after (ok := (fun k_ => (w.heap.size ≤ k_) ∧ k_ ≠ gb472)) (by (with_reducible repeat (first|apply Kd.R_alloc|apply Kd.R_drewN|apply Kd.R_drew));exact Kd.R_mono HO500.out (fun _ hk => ⟨⟨hk.1.1.1,hk.2⟩,hk.1.2⟩)) hg hat)
           have n5_ := Aside0.mk (hb)
           have n6_ := Aside0.mk (ho)
           clear HO_0
           clear HO_1
           clear BK472
           clear HO491
           clear HO500
           clear HB
           clear HO494
           have HO_0 := n0_
           have HO_1 := n1_
           have BK472 := n2_
           have HO491 := n3_
           have HO500 := n4_
           have HB := n5_
           have HO497 := n6_
           clear n0_ n1_ n2_ n3_ n4_ n5_ n6_
           clear ho hb hg hat
           refine hK.out _ _ ⟨(qae BK472.out 0).trans rfl,(qae BK472.out 1).trans rfl,(qae BK472.out 2).trans rfl⟩ (fun hHeld => ?_)
           clear hK K
           refine norm_ (a' := ?_) ?_ ?_
           rotate_left
           ·show Act.put _ (some 55) _ = _
            simp only [Act.put,List.setIfInBounds_toArray,List.set_cons_zero,List.set_cons_succ,i64_w,i32_w]
            rfl
           exact norm_ (by simp only [putAll,Act.put,List.setIfInBounds_toArray,List.set_cons_zero,List.set_cons_succ]) (hCont (v493,v496,v499) _ ⟨hHeld,(by (with_reducible repeat (first|apply Kd.R_alloc|apply Kd.R_drewN|apply Kd.R_drew));exact Kd.R_mono HO491.out (fun _ hk => hk.1)),(by (with_reducible repeat (first|apply Kd.R_alloc|apply Kd.R_drewN|apply Kd.R_drew));exact HO497.out),(by (with_reducible repeat (first|apply Kd.R_alloc|apply Kd.R_drewN|apply Kd.R_drew));exact Kd.R_mono HO500.out (fun _ hk => ⟨hk.1.1,⟨hk.2,hk.1.2⟩⟩)),(by (with_reducible repeat (first|apply Kd.V_alloc|apply Kd.V_drewN|apply Kd.V_drew));exact Kd.V_mono HO_0.out (fun _ hk => ⟨hk.1.1,⟨hk.1.2.1,⟨hk.2,⟨hk.1.2.2.1,hk.1.2.2.2⟩⟩⟩⟩)),(by (with_reducible repeat (first|apply Kd.V_alloc|apply Kd.V_drewN|apply Kd.V_drew));exact Kd.V_mono HO_1.out (fun _ hk => ⟨hk.1.1,⟨hk.1.2.1,⟨hk.2,⟨hk.1.2.2.1,hk.1.2.2.2⟩⟩⟩⟩)),(by (with_reducible repeat (first|refine qag ?_ _|refine qai ?_|refine qaf ?_ _));exact BK472.out),(by repeat (first|(with_reducible first|exact HB.out|apply qac|apply qaa|apply qab|refine qad ?_ GE472.out)|exact HB.out))⟩)
         ·skip
          refine Kd.R_lit_step k39 _ 39 ?hg (N := 57) ?hd (xs := ([(⟨a3_0,a3_1,a3_2⟩ : S39)] : List (S39))) (inner := [.string a3_0,.int .i64 a3_1,.string a3_2]) (ok := fun _ => True) (okp := fun _ => True) ?hr ?hp (fun _ hk => hk) trivial (Below.refl _ _) (Nat.le_refl _) (by simp) ?_;(case hd => rfl);(case hg => rfl);(case hr => first|(go_simp;done)|(go_simp;rfl));(case hp => exact (Reps.c3 (show Kd.M k39 _ _ _ (⟨a3_0,a3_1,a3_2⟩ : S39) [.string a3_0,.int .i64 a3_1,.string a3_2] from (k39_mkM _ _ _ (⟨a3_0,a3_1,a3_2⟩ : S39) )) (Reps.none _ _)))
          intro v499 w34 ho35 hb hg_ hnew_
          clear hg_ hnew_
          (first|rw [← Ny498.out] at ho35|(simp only [Int.reduceToNat] at ho35;rw [← Ny498.out] at ho35))
          have n0_ := Aside0.mk (Kd.V_elder' (by (with_reducible repeat (first|apply Kd.V_alloc|apply Kd.V_drewN|apply Kd.V_drew));exact HO_0.out) (Kd.R_base ho35) hb)
          have n1_ := Aside0.mk (Kd.V_elder' (by (with_reducible repeat (first|apply Kd.V_alloc|apply Kd.V_drewN|apply Kd.V_drew));exact HO_1.out) (Kd.R_base ho35) hb)
          have n2_ := Aside0.mk (Kd.R_below (by (with_reducible repeat (first|apply Kd.R_alloc|apply Kd.R_drewN|apply Kd.R_drew));exact HO491.out) hb)
          have n3_ := Aside0.mk (Kd.R_lower (Kd.R_newB (Kd.R_newM (M := fun k_ => (w.heap.size ≤ k_)) ho35 (qal (by repeat (first|(with_reducible first|exact HB.out|apply qac|apply qaa|apply qab|refine qad ?_ GE472.out)|exact HB.out))) (fun k_ h_ => h_)) (g := gb472) (o := .cells #[.string a3_0,.int .i64 a3_1,.string a3_2] 39 (0,0)) (by (with_reducible repeat (first|refine qag ?_ _|refine qai ?_|refine qaf ?_ _));exact BK472.out)) (qal (by repeat (first|(with_reducible first|exact HB.out|apply qac|apply qaa|apply qab|refine qad ?_ GE472.out)|exact HB.out))))
          have n4_ := Aside0.mk (qap (g := gb472) (o := .cells #[.string a3_0,.int .i64 a3_1,.string a3_2] 39 (0,0)) (by (with_reducible repeat (first|refine qag ?_ _|refine qai ?_|refine qaf ?_ _));exact BK472.out) hb)
          have n5_ := Aside0.mk (qao (by repeat (first|(with_reducible first|exact HB.out|apply qac|apply qaa|apply qab|refine qad ?_ GE472.out)|exact HB.out)) hb)
          clear HO_0
          clear HO_1
          clear HO491
          clear BK472
          clear HB
          have HO_0 := n0_
          have HO_1 := n1_
          have HO491 := n2_
          have HO500 := n3_
          have BK472 := n4_
          have HB := n5_
          clear n0_ n1_ n2_ n3_ n4_ n5_
          clear hb ho35
          refine hK.out _ _ ⟨(qae BK472.out 0).trans rfl,(qae BK472.out 1).trans rfl,(qae BK472.out 2).trans rfl⟩ (fun hHeld => ?_)
          clear hK K
          refine norm_ (a' := ?_) ?_ ?_
          rotate_left
          ·show Act.put _ (some 57) _ = _
           simp only [Act.put,List.setIfInBounds_toArray,List.set_cons_zero,List.set_cons_succ,i64_w,i32_w]
           rfl
          refine one_ (i := 1) (N := some 53) #[true,true,true,false,true,true,false,false,false] rfl rfl (one_of HT_.out (by kernel_rfl)) (by decide) (fun K hK => ?_)
          refine Kd.R_lit_step k39 _ 39 ?hg (N := 53) ?hd (xs := ([] : List (S39))) (inner := []) (ok := fun _ => True) (okp := fun _ => True) ?hr ?hp (fun _ hk => hk) trivial (Below.refl _ _) (Nat.le_refl _) (by simp) ?_;(case hd => rfl);(case hg => rfl);(case hr => first|(go_simp;done)|(go_simp;rfl));(case hp => exact (Reps.none _ _))
          intro v493 w36 ho37 hb hg_ hnew_
          clear hg_ hnew_
          (first|rw [← Ny492.out] at ho37|(simp only [Int.reduceToNat] at ho37;rw [← Ny492.out] at ho37))
          have n0_ := Aside0.mk (Kd.V_elder' (by (with_reducible repeat (first|apply Kd.V_alloc|apply Kd.V_drewN|apply Kd.V_drew));exact HO_0.out) (Kd.R_base ho37) hb)
          have n1_ := Aside0.mk (Kd.V_elder' (by (with_reducible repeat (first|apply Kd.V_alloc|apply Kd.V_drewN|apply Kd.V_drew));exact HO_1.out) (Kd.R_base ho37) hb)
          have n2_ := Aside0.mk (Kd.R_below (by (with_reducible repeat (first|apply Kd.R_alloc|apply Kd.R_drewN|apply Kd.R_drew));exact HO491.out) hb)
          have n3_ := Aside0.mk (Kd.R_elder' (by (with_reducible repeat (first|apply Kd.R_alloc|apply Kd.R_drewN|apply Kd.R_drew));exact HO500.out) (Kd.R_base ho37) hb)
          have n4_ := Aside0.mk (Kd.R_lower (Kd.R_newB (Kd.R_new' (Kd.R_newM (M := fun k_ => (w.heap.size ≤ k_)) ho37 (qal (by repeat (first|(with_reducible first|exact HB.out|apply qac|apply qaa|apply qab|refine qad ?_ GE472.out)|exact HB.out))) (fun k_ h_ => h_)) (Kd.R_lt (by (with_reducible repeat (first|apply Kd.R_alloc|apply Kd.R_drewN|apply Kd.R_drew));exact HO500.out))) (g := gb472) (o := .cells #[.string a3_0,.int .i64 a3_1,.string a3_2] 39 (0,0)) (by (with_reducible repeat (first|refine qag ?_ _|refine qai ?_|refine qaf ?_ _));exact BK472.out)) (qal (by repeat (first|(with_reducible first|exact HB.out|apply qac|apply qaa|apply qab|refine qad ?_ GE472.out)|exact HB.out))))
          have n5_ := Aside0.mk (qap (g := gb472) (o := .cells #[.string a3_0,.int .i64 a3_1,.string a3_2] 39 (0,0)) (by (with_reducible repeat (first|refine qag ?_ _|refine qai ?_|refine qaf ?_ _));exact BK472.out) hb)
          have n6_ := Aside0.mk (qao (by repeat (first|(with_reducible first|exact HB.out|apply qac|apply qaa|apply qab|refine qad ?_ GE472.out)|exact HB.out)) hb)
          clear HO_0
          clear HO_1
          clear HO491
          clear HO500
          clear BK472
          clear HB
          have HO_0 := n0_
          have HO_1 := n1_
          have HO491 := n2_
          have HO500 := n3_
          have HO494 := n4_
          have BK472 := n5_
          have HB := n6_
          clear n0_ n1_ n2_ n3_ n4_ n5_ n6_
          clear hb ho37
          refine hK.out _ _ ⟨(qae BK472.out 0).trans rfl,(qae BK472.out 1).trans rfl,(qae BK472.out 2).trans rfl⟩ (fun hHeld => ?_)
          clear hK K
          refine norm_ (a' := ?_) ?_ ?_
          rotate_left
          ·show Act.put _ (some 53) _ = _
           simp only [Act.put,List.setIfInBounds_toArray,List.set_cons_zero,List.set_cons_succ,i64_w,i32_w]
           rfl
          refine one_ (i := 3) (N := some 55) #[true,true,true,true,true,true,false,false,false] rfl rfl (one_of HT_.out (by kernel_rfl)) (by decide) (fun K hK => ?_)
          refine Kd.R_append_rows_step k39 (w0 := w) w.heap.size (by rfl) (.tmp 53) (.tmp 54) 27 39 (.agg #[(.string ⟨#[]⟩),(.int .i64 0),(.string ⟨#[]⟩)]) 40 rfl Tryz.underlying27 info39 rfl (by decide) (by omega) v493 y492 l2 _ _ _ (fun k_ => (w.heap.size ≤ k_) ∧ some k_ ≠ (v499 : Value).ownBlock ∧ k_ ≠ gb472) (fun _ => False) rfl rfl ?aO ?aR (fun _ _ h => h) (fun _ h => h.elim) ?aF ?aB ?aS ?aL ?_
          (case aR => repeat (first|exact (Kd.C_below HR2.out HB.out)|(with_reducible refine Kd.C_alloc ?_ _)|(with_reducible refine Kd.C_drewN ?_ _)|(with_reducible refine Kd.C_drew ?_)))
          (case aB => exact (by repeat (first|(with_reducible first|exact HB.out|apply qac|apply qaa|apply qab|refine qad ?_ GE472.out)|exact HB.out)))
          (case aF => exact (fun k_ hk => ⟨(Nat.le_trans (qal (by repeat (first|(with_reducible first|exact HB.out|apply qac|apply qaa|apply qab|refine qad ?_ GE472.out)|exact HB.out))) hk),Kd.fresh' (Kd.R_lt (by (with_reducible repeat (first|apply Kd.R_alloc|apply Kd.R_drewN|apply Kd.R_drew));exact HO500.out)) k_ hk,Kd.freshB (g := gb472) (o := .cells #[.string a3_0,.int .i64 a3_1,.string a3_2] 39 (0,0)) (by (with_reducible repeat (first|refine qag ?_ _|refine qai ?_|refine qaf ?_ _));exact BK472.out) k_ hk⟩))
          (case aO => exact (by (with_reducible repeat (first|apply Kd.R_alloc|apply Kd.R_drewN|apply Kd.R_drew));exact Kd.R_mono HO494.out (fun _ hk => ⟨hk.1.1.1,⟨hk.1.2,hk.2⟩⟩)))
          (case aS => exact (qal (by repeat (first|(with_reducible first|exact HB.out|apply qac|apply qaa|apply qab|refine qad ?_ GE472.out)|exact HB.out))))
          (case aL => have := LMc29.out;omega)
          intro v496 w38 ho hb hg hat
          rw [← Ny495.out] at ho
          have n0_ := Aside0.mk (Kd.V_afterv (ok := (fun k_ => ((P0_ k_ ∨ P1_ k_) ∨ w.heap.size ≤ k_) ∧ some k_ ≠ (v490 : Value).ownBlock ∧ some k_ ≠ (v499 : Value).ownBlock ∧ k_ ≠ gb472)) (by (with_reducible repeat (first|apply Kd.V_alloc|apply Kd.V_drewN|apply Kd.V_drew));exact Kd.V_mono HO_0.out (fun _ hk => ⟨⟨hk.1.1.1.1,⟨hk.1.1.2,⟨hk.1.2,hk.1.1.1.2⟩⟩⟩,hk.2⟩)) hg hat)
          have n1_ := Aside0.mk (Kd.V_afterv (ok := (fun k_ => ((P0_ k_ ∨ P1_ k_) ∨ w.heap.size ≤ k_) ∧ some k_ ≠ (v490 : Value).ownBlock ∧ some k_ ≠ (v499 : Value).ownBlock ∧ k_ ≠ gb472)) (by (with_reducible repeat (first|apply Kd.V_alloc|apply Kd.V_drewN|apply Kd.V_drew));exact Kd.V_mono HO_1.out (fun _ hk => ⟨⟨hk.1.1.1.1,⟨hk.1.1.2,⟨hk.1.2,hk.1.1.1.2⟩⟩⟩,hk.2⟩)) hg hat)
          have n2_ := Aside0.mk (blk_grown (g := gb472) (o := .cells #[.string a3_0,.int .i64 a3_1,.string a3_2] 39 (0,0)) (by (with_reducible repeat (first|refine qag ?_ _|refine qai ?_|refine qaf ?_ _));exact BK472.out) hg (Kd.R_away HO494.out (fun _ hk => hk.2)))
          have n3_ := Aside0.mk (Kd.R_over' (by (with_reducible repeat (first|apply Kd.R_alloc|apply Kd.R_drewN|apply Kd.R_drew));exact HO491.out) (Kd.R_typed (by (with_reducible repeat (first|apply Kd.R_alloc|apply Kd.R_drewN|apply Kd.R_drew));exact HO494.out)) (by decide) hg)
          have n4_ := Aside0.mk (Kd.R_after (ok := (fun k_ => (w.heap.size ≤ k_) ∧ k_ ≠ gb472)) (by (with_reducible repeat (first|apply Kd.R_alloc|apply Kd.R_drewN|apply Kd.R_drew));exact Kd.R_mono HO500.out (fun _ hk => ⟨⟨hk.1.1.1,hk.1.2⟩,hk.2⟩)) hg hat)
          have n5_ := Aside0.mk (hb)
          have n6_ := Aside0.mk (ho)
          clear HO_0
          clear HO_1
          clear BK472
          clear HO491
          clear HO500
          clear HB
          clear HO494
          have HO_0 := n0_
          have HO_1 := n1_
          have BK472 := n2_
          have HO491 := n3_
          have HO500 := n4_
          have HB := n5_
          have HO497 := n6_
          clear n0_ n1_ n2_ n3_ n4_ n5_ n6_
          clear ho hb hg hat
          refine hK.out _ _ ⟨(qae BK472.out 0).trans rfl,(qae BK472.out 1).trans rfl,(qae BK472.out 2).trans rfl⟩ (fun hHeld => ?_)
          clear hK K
          refine norm_ (a' := ?_) ?_ ?_
          rotate_left
          ·show Act.put _ (some 55) _ = _
           simp only [Act.put,List.setIfInBounds_toArray,List.set_cons_zero,List.set_cons_succ,i64_w,i32_w]
           rfl
          exact norm_ (by simp only [putAll,Act.put,List.setIfInBounds_toArray,List.set_cons_zero,List.set_cons_succ]) (hCont (v493,v496,v499) _ ⟨hHeld,(by (with_reducible repeat (first|apply Kd.R_alloc|apply Kd.R_drewN|apply Kd.R_drew));exact Kd.R_mono HO491.out (fun _ hk => hk.1)),(by (with_reducible repeat (first|apply Kd.R_alloc|apply Kd.R_drewN|apply Kd.R_drew));exact HO497.out),(by (with_reducible repeat (first|apply Kd.R_alloc|apply Kd.R_drewN|apply Kd.R_drew));exact Kd.R_mono HO500.out (fun _ hk => ⟨hk.1.1,⟨hk.2,hk.1.2⟩⟩)),(by (with_reducible repeat (first|apply Kd.V_alloc|apply Kd.V_drewN|apply Kd.V_drew));exact Kd.V_mono HO_0.out (fun _ hk => ⟨hk.1.1,⟨hk.1.2.1,⟨hk.2,⟨hk.1.2.2.1,hk.1.2.2.2⟩⟩⟩⟩)),(by (with_reducible repeat (first|apply Kd.V_alloc|apply Kd.V_drewN|apply Kd.V_drew));exact Kd.V_mono HO_1.out (fun _ hk => ⟨hk.1.1,⟨hk.1.2.1,⟨hk.2,⟨hk.1.2.2.1,hk.1.2.2.2⟩⟩⟩⟩)),(by (with_reducible repeat (first|refine qag ?_ _|refine qai ?_|refine qaf ?_ _));exact BK472.out),(by repeat (first|(with_reducible first|exact HB.out|apply qac|apply qaa|apply qab|refine qad ?_ GE472.out)|exact HB.out))⟩)
        rintro ⟨v493,v496,v499⟩ w39 ⟨hS_,h0_,h1_,h2_,h3_,h4_,h5_,h6_⟩
        have n0_ : Aside0 (Kd.R (Kd.int .i64) 3 w39 w.heap.size (fun k_ => (w.heap.size ≤ k_)) v490 t489) := ⟨h0_⟩
        have n1_ : Aside0 (Kd.R k39 39 w39 w.heap.size (fun k_ => (w.heap.size ≤ k_) ∧ some k_ ≠ (v499 : Value).ownBlock ∧ k_ ≠ gb472) v496 y495) := ⟨h1_⟩
        have n2_ : Aside0 (Kd.R k39 39 w39 w.heap.size (fun k_ => (w.heap.size ≤ k_) ∧ some k_ ≠ (v496 : Value).ownBlock ∧ k_ ≠ gb472) v499 y498) := ⟨h2_⟩
        have n3_ : Aside0 (Kd.V (Kd.slice 39 k39) 48 w39 w.heap.size (fun k_ => ((P0_ k_ ∨ P1_ k_) ∨ w.heap.size ≤ k_) ∧ some k_ ≠ (v490 : Value).ownBlock ∧ some k_ ≠ (v496 : Value).ownBlock ∧ some k_ ≠ (v499 : Value).ownBlock ∧ k_ ≠ gb472) (.slice A0 l0.length c0) l0) := ⟨h3_⟩
        have n4_ : Aside0 (Kd.V (Kd.slice 39 k39) 48 w39 w.heap.size (fun k_ => ((P0_ k_ ∨ P1_ k_) ∨ w.heap.size ≤ k_) ∧ some k_ ≠ (v490 : Value).ownBlock ∧ some k_ ≠ (v496 : Value).ownBlock ∧ some k_ ≠ (v499 : Value).ownBlock ∧ k_ ≠ gb472) (.slice A1 l1.length c1) l1) := ⟨h4_⟩
        have n5_ : Aside0 (w39.heap[gb472]? = some (.cells #[.string a3_0,.int .i64 a3_1,.string a3_2] 39 (0,0))) := ⟨h5_⟩
        have n6_ : Aside0 (Below w.heap.size w w39) := ⟨h6_⟩
        clear HO_0
        clear HO_1
        clear HO491
        clear BK472
        clear HB
        clear h0_ h1_ h2_ h3_ h4_ h5_ h6_
        have HO491 := n0_
        have HO497 := n1_
        have HO500 := n2_
        have HO_0 := n3_
        have HO_1 := n4_
        have BK472 := n5_
        have HB := n6_
        clear n0_ n1_ n2_ n3_ n4_ n5_ n6_
        have hHeld : w39.cell? ⟨gb472,0,none⟩ = some (.string a3_0) ∧ w39.cell? ⟨gb472,1,none⟩ = some (.int .i64 a3_1) ∧ w39.cell? ⟨gb472,2,none⟩ = some (.string a3_2) := hS_
        obtain ⟨Ao41,co41,eo41⟩ := Kd.R_slice HO500.out
        (first|subst eo41|(injection eo41 with f1_ f2_ f3_;have f4_ := f1_.symm;have f5_ := f3_.symm;clear f1_ f2_ f3_;subst f4_;subst f5_))
        refine norm_ (a' := ?_) ?_ ?_
        rotate_left
        ·simp only [putAll,Act.put,List.setIfInBounds_toArray,List.set_cons_zero,List.set_cons_succ]
         rfl
        refine one_ (i := 6) (N := some 58) #[true,true,true,true,true,true,true,false,false] rfl rfl (one_of HT_.out (by kernel_rfl)) (by decide) (fun K hK => ?_)
        refine Kd.R_append_rows_step k39 (w0 := w) w.heap.size (by rfl) (.tmp 55) (.tmp 57) 27 39 (.agg #[(.string ⟨#[]⟩),(.int .i64 0),(.string ⟨#[]⟩)]) 40 rfl Tryz.underlying27 info39 rfl (by decide) (by omega) v496 y495 y498 _ _ _ (fun k_ => (w.heap.size ≤ k_) ∧ some k_ ≠ (.slice Ao41 y498.length co41 : Value).ownBlock ∧ k_ ≠ gb472) (fun _ => False) rfl rfl ?aO ?aR (fun _ _ h => h) (fun _ h => h.elim) ?aF ?aB ?aS ?aL ?_
        (case aR => repeat (first|exact (Kd.R_reads' HO500.out).2.2|(with_reducible refine Kd.C_alloc ?_ _)|(with_reducible refine Kd.C_drewN ?_ _)|(with_reducible refine Kd.C_drew ?_)))
        (case aB => exact (by repeat (first|(with_reducible first|exact HB.out|apply qac|apply qaa|apply qab|refine qad ?_ GE472.out)|exact HB.out)))
        (case aF => exact (fun k_ hk => ⟨(Nat.le_trans (qal (by repeat (first|(with_reducible first|exact HB.out|apply qac|apply qaa|apply qab|refine qad ?_ GE472.out)|exact HB.out))) hk),Kd.fresh' (Kd.R_lt (by (with_reducible repeat (first|apply Kd.R_alloc|apply Kd.R_drewN|apply Kd.R_drew));exact HO500.out)) k_ hk,Kd.freshB (g := gb472) (o := .cells #[.string a3_0,.int .i64 a3_1,.string a3_2] 39 (0,0)) (by (with_reducible repeat (first|refine qag ?_ _|refine qai ?_|refine qaf ?_ _));exact BK472.out) k_ hk⟩))
        (case aO => exact (by (with_reducible repeat (first|apply Kd.R_alloc|apply Kd.R_drewN|apply Kd.R_drew));exact HO497.out))
        (case aS => exact (qal (by repeat (first|(with_reducible first|exact HB.out|apply qac|apply qaa|apply qab|refine qad ?_ GE472.out)|exact HB.out))))
        (case aL => have := LMc30.out;omega)
        intro v502 w40 ho hb hg hat
        rw [← Ny501.out] at ho
        have n0_ := Aside0.mk (Kd.V_afterv (ok := (fun k_ => ((P0_ k_ ∨ P1_ k_) ∨ w.heap.size ≤ k_) ∧ some k_ ≠ (v490 : Value).ownBlock ∧ some k_ ≠ (.slice Ao41 y498.length co41 : Value).ownBlock ∧ k_ ≠ gb472)) (by (with_reducible repeat (first|apply Kd.V_alloc|apply Kd.V_drewN|apply Kd.V_drew));exact Kd.V_mono HO_0.out (fun _ hk => ⟨⟨hk.1,⟨hk.2.1,⟨hk.2.2.2.1,hk.2.2.2.2⟩⟩⟩,hk.2.2.1⟩)) hg hat)
        have n1_ := Aside0.mk (Kd.V_afterv (ok := (fun k_ => ((P0_ k_ ∨ P1_ k_) ∨ w.heap.size ≤ k_) ∧ some k_ ≠ (v490 : Value).ownBlock ∧ some k_ ≠ (.slice Ao41 y498.length co41 : Value).ownBlock ∧ k_ ≠ gb472)) (by (with_reducible repeat (first|apply Kd.V_alloc|apply Kd.V_drewN|apply Kd.V_drew));exact Kd.V_mono HO_1.out (fun _ hk => ⟨⟨hk.1,⟨hk.2.1,⟨hk.2.2.2.1,hk.2.2.2.2⟩⟩⟩,hk.2.2.1⟩)) hg hat)
        have n2_ := Aside0.mk (blk_grown (g := gb472) (o := .cells #[.string a3_0,.int .i64 a3_1,.string a3_2] 39 (0,0)) (by (with_reducible repeat (first|refine qag ?_ _|refine qai ?_|refine qaf ?_ _));exact BK472.out) hg (Kd.R_away HO497.out (fun _ hk => hk.2.2)))
        have n3_ := Aside0.mk (Kd.R_over' (by (with_reducible repeat (first|apply Kd.R_alloc|apply Kd.R_drewN|apply Kd.R_drew));exact HO491.out) (Kd.R_typed (by (with_reducible repeat (first|apply Kd.R_alloc|apply Kd.R_drewN|apply Kd.R_drew));exact HO497.out)) (by decide) hg)
        have n4_ := Aside0.mk (Kd.R_after (ok := (fun k_ => (w.heap.size ≤ k_) ∧ k_ ≠ gb472)) (by (with_reducible repeat (first|apply Kd.R_alloc|apply Kd.R_drewN|apply Kd.R_drew));exact Kd.R_mono HO500.out (fun _ hk => ⟨⟨hk.1,hk.2.2⟩,hk.2.1⟩)) hg hat)
        have n5_ := Aside0.mk (hb)
        have n6_ := Aside0.mk (ho)
        clear HO_0
        clear HO_1
        clear BK472
        clear HO491
        clear HO500
        clear HB
        clear HO497
        have HO_0 := n0_
        have HO_1 := n1_
        have BK472 := n2_
        have HO491 := n3_
        have HO500 := n4_
        have HB := n5_
        have HO503 := n6_
        clear n0_ n1_ n2_ n3_ n4_ n5_ n6_
        clear ho hb hg hat
        obtain ⟨Ao42,co42,eo42⟩ := Kd.R_slice HO503.out
        (first|subst eo42|(injection eo42 with f1_ f2_ f3_;have f4_ := f1_.symm;have f5_ := f3_.symm;clear f1_ f2_ f3_;subst f4_;subst f5_))
        refine hK.out _ _ ⟨(qae BK472.out 0).trans rfl,(qae BK472.out 1).trans rfl,(qae BK472.out 2).trans rfl⟩ (fun hHeld => ?_)
        clear hK K
        refine norm_ (a' := ?_) ?_ ?_
        rotate_left
        ·show Act.put _ (some 58) _ = _
         simp only [Act.put,List.setIfInBounds_toArray,List.set_cons_zero,List.set_cons_succ,i64_w,i32_w]
         rfl
        refine one_ (i := 7) (N := some 59) #[true,true,true,true,true,true,true,true,false] rfl rfl (one_of HT_.out (by kernel_rfl)) (by decide) (fun K hK => ?_)
        refine goes_ Tryz.func22 (by kernel_rfl) rfl #[.slice A0 l0.length c0,.slice Ao42 y501.length co42] (by rfl) rfl rfl (by first|rfl|(simp only [List.map_toArray,List.map_cons,List.map_nil,List.length_drop,List.length_take];rfl)|simp only [List.map_toArray,List.map_cons,List.map_nil]) ?_
        with_reducible refine (depends_Open.calls kj10 _ _ l0 _ _ y501 t504 _ (by first|exact hG|exact GL.below hG (by repeat (first|(with_reducible first|exact HB.out|apply qac|apply qaa|apply qab|refine qad ?_ GE472.out)|exact HB.out)))  ?side1 ?side2 ?side3 ?side4 A31.out).mono ?_
        (case side1 => repeat (first|exact (Kd.V_reads' HO_0.out).2.2|(with_reducible refine Kd.C_alloc ?_ _)|(with_reducible refine Kd.C_drewN ?_ _)|(with_reducible refine Kd.C_drew ?_)))
        (case side2 => exact (Kd.V_reads' HO_0.out).2.1)
        (case side3 => repeat (first|exact (Kd.R_reads' HO503.out).2.2|(with_reducible refine Kd.C_alloc ?_ _)|(with_reducible refine Kd.C_drewN ?_ _)|(with_reducible refine Kd.C_drew ?_)))
        (case side4 => exact (Kd.R_reads' HO503.out).2.1)
        rintro e w43 ⟨v505,rfl,ho0,hb⟩
        refine ⟨_,rfl,?_⟩
        have n0_ := Aside0.mk (Kd.V_elder' (by (with_reducible repeat (first|apply Kd.V_alloc|apply Kd.V_drewN|apply Kd.V_drew));exact HO_0.out) (Kd.R_base ho0) hb)
        have n1_ := Aside0.mk (Kd.V_elder' (by (with_reducible repeat (first|apply Kd.V_alloc|apply Kd.V_drewN|apply Kd.V_drew));exact HO_1.out) (Kd.R_base ho0) hb)
        have n2_ := Aside0.mk (Kd.R_elder' (by (with_reducible repeat (first|apply Kd.R_alloc|apply Kd.R_drewN|apply Kd.R_drew));exact HO491.out) (Kd.R_base ho0) hb)
        have n3_ := Aside0.mk (Kd.R_below (by (with_reducible repeat (first|apply Kd.R_alloc|apply Kd.R_drewN|apply Kd.R_drew));exact HO500.out) hb)
        have n4_ := Aside0.mk (Kd.R_below (by (with_reducible repeat (first|apply Kd.R_alloc|apply Kd.R_drewN|apply Kd.R_drew));exact HO503.out) hb)
        have n5_ := Aside0.mk (Kd.R_lower (Kd.R_new' (Kd.R_newM (M := fun k_ => (w.heap.size ≤ k_)) ho0 (qal (by repeat (first|(with_reducible first|exact HB.out|apply qac|apply qaa|apply qab|refine qad ?_ GE472.out)|exact HB.out))) (fun k_ h_ => h_)) (Kd.R_lt (by (with_reducible repeat (first|apply Kd.R_alloc|apply Kd.R_drewN|apply Kd.R_drew));exact HO491.out))) (qal (by repeat (first|(with_reducible first|exact HB.out|apply qac|apply qaa|apply qab|refine qad ?_ GE472.out)|exact HB.out))))
        have n6_ := Aside0.mk (qap (g := gb472) (o := .cells #[.string a3_0,.int .i64 a3_1,.string a3_2] 39 (0,0)) (by (with_reducible repeat (first|refine qag ?_ _|refine qai ?_|refine qaf ?_ _));exact BK472.out) hb)
        have n7_ := Aside0.mk (qao (by repeat (first|(with_reducible first|exact HB.out|apply qac|apply qaa|apply qab|refine qad ?_ GE472.out)|exact HB.out)) hb)
        clear HO_0
        clear HO_1
        clear HO491
        clear HO500
        clear HO503
        clear BK472
        clear HB
        have HO_0 := n0_
        have HO_1 := n1_
        have HO491 := n2_
        have HO500 := n3_
        have HO503 := n4_
        have HO506 := n5_
        have BK472 := n6_
        have HB := n7_
        clear n0_ n1_ n2_ n3_ n4_ n5_ n6_ n7_
        (try clear hb)
        (try clear hb2)
        (try clear hk)
        (try clear hi)
        (try clear ho0)
        refine hK.out _ _ ⟨(qae BK472.out 0).trans rfl,(qae BK472.out 1).trans rfl,(qae BK472.out 2).trans rfl⟩ (fun hHeld => ?_)
        clear hK K
        refine norm_ (a' := ?_) ?_ ?_
        rotate_left
        ·show Act.put _ (some 59) _ = _
         simp only [Act.put,List.setIfInBounds_toArray,List.set_cons_zero,List.set_cons_succ,i64_w,i32_w]
         rfl
        refine pure_ (i := 8) (N := some 14) (v := ?_) (a' := ?_) #[true,true,true,true,true,true,true,true,true] rfl rfl (any_of HT_.out (by kernel_rfl)) (fun _ _ _ h => h) (Or.inl ⟨by rfl,?_⟩) ?_ ?_
        rotate_left
        ·intro w'
         go_simp
         with_reducible rfl
        rotate_left
        ·simp only [Act.put,List.setIfInBounds_toArray,List.set_cons_zero,List.set_cons_succ,i64_w,i32_w]
         rfl
        refine done_ (done_of HT_.out (by kernel_rfl)) ?_
        try go_wp2
        go_loopg [15,16] kj10 (fun kq v15 v16 w' => ∃ (x15_2 : Int) (x16_2 : Int),v15 = .int .i64 x15_2 ∧ v16 = .int .i64 x16_2 ∧ Aside0 (keelsonlaw4_DependsMore.l0 kq l0 l1 l2 t489 t504 x15_2 x16_2 = some r) ∧ Aside0 (kq ≤ kj10) ∧ Aside0 (Kd.V (Kd.slice 39 k39) 48 w' w.heap.size (fun k_ => ((P0_ k_ ∨ P1_ k_) ∨ w.heap.size ≤ k_) ∧ some k_ ≠ (v490 : Value).ownBlock ∧ some k_ ≠ (v505 : Value).ownBlock ∧ k_ ≠ gb472) (.slice A0 l0.length c0) l0) ∧ Aside0 (Kd.V (Kd.slice 39 k39) 48 w' w.heap.size (fun k_ => ((P0_ k_ ∨ P1_ k_) ∨ w.heap.size ≤ k_) ∧ some k_ ≠ (v490 : Value).ownBlock ∧ some k_ ≠ (v505 : Value).ownBlock ∧ k_ ≠ gb472) (.slice A1 l1.length c1) l1) ∧ Aside0 (Kd.R (Kd.int .i64) 3 w' w.heap.size (fun k_ => (w.heap.size ≤ k_) ∧ some k_ ≠ (v505 : Value).ownBlock) v490 t489) ∧ Aside0 (Kd.R (Kd.int .i64) 3 w' w.heap.size (fun k_ => (w.heap.size ≤ k_) ∧ some k_ ≠ (v490 : Value).ownBlock) v505 t504) ∧ Aside0 (w'.heap[gb472]? = some (.cells #[.string a3_0,.int .i64 a3_1,.string a3_2] 39 (0,0))) ∧ Aside0 (Below w.heap.size w w'))
        case atStart => exact ⟨(0),(0),(by first|rfl|(simp;done)|(simp [*];done)|(simp [qak];done)),(by first|rfl|(simp;done)|(simp [*];done)|(simp [qak];done)),H',⟨Nat.le_refl _⟩,⟨by (with_reducible repeat (first|apply Kd.V_alloc|apply Kd.V_drewN|apply Kd.V_drew));exact Kd.V_mono HO_0.out (fun _ hk => ⟨hk.1.1.1,⟨hk.1.1.2.1,⟨hk.2,hk.1.1.2.2.2⟩⟩⟩)⟩,⟨by (with_reducible repeat (first|apply Kd.V_alloc|apply Kd.V_drewN|apply Kd.V_drew));exact Kd.V_mono HO_1.out (fun _ hk => ⟨hk.1.1.1,⟨hk.1.1.2.1,⟨hk.2,hk.1.1.2.2.2⟩⟩⟩)⟩,⟨by (with_reducible repeat (first|apply Kd.R_alloc|apply Kd.R_drewN|apply Kd.R_drew));exact HO491.out⟩,⟨by (with_reducible repeat (first|apply Kd.R_alloc|apply Kd.R_drewN|apply Kd.R_drew));exact Kd.R_mono HO506.out (fun _ hk => ⟨hk.1.1,hk.2⟩)⟩,⟨by (with_reducible repeat (first|refine qag ?_ _|refine qai ?_|refine qaf ?_ _));exact BK472.out⟩,⟨by repeat (first|(with_reducible first|exact HB.out|apply qac|apply qaa|apply qab|refine qad ?_ GE472.out)|exact HB.out)⟩⟩
        case round =>
         clear H'
         try clear c1
         try clear c2
         try clear p2
         try clear c3
         try clear c6
         try clear c8
         try clear c9
         try clear c16
         try clear c19
         try clear c22
         try clear c24
         try clear c25
         try clear c26
         try clear c27
         try clear c29
         try clear c30
         try clear p2
         obtain ⟨x15_2,x16_2,rfl,rfl,HA,HK2,HO_0,HO_1,HO_13,HO_14,BK472,HB⟩ := hrel
         cases gk with
         | zero => exact absurd HA.out (by simp [keelsonlaw4_DependsMore.l0])
         | succ k2 =>
          have H := HA.out
          clear HA
          simp only [keelsonlaw4_DependsMore.l0] at H
          by_cases c44 : x16_2 < (t504.length : Int)
          ·rw [if_pos c44] at H
           have c44b0 : decide (x16_2 < (t504.length : Int)) = true := decide_eq_true c44
           clear c44
           have H' := Aside0.mk H
           clear H
           obtain ⟨Ao45,co45,eo45⟩ := Kd.R_slice HO_14.out
           subst eo45
           go_wp2
           go_loopg [15] k2 (fun kq v15 w' => ∃ (x15_3 : Int),v15 = .int .i64 x15_3 ∧ Aside0 (keelsonlaw4_DependsMore.l1 kq l0 l1 l2 t489 t504 x15_3 x16_2 = some r) ∧ Aside0 (kq ≤ k2) ∧ Aside0 (Kd.V (Kd.slice 39 k39) 48 w' w.heap.size (fun k_ => ((P0_ k_ ∨ P1_ k_) ∨ w.heap.size ≤ k_) ∧ some k_ ≠ (v490 : Value).ownBlock ∧ some k_ ≠ ((.slice Ao45 t504.length co45) : Value).ownBlock ∧ k_ ≠ gb472) (.slice A0 l0.length c0) l0) ∧ Aside0 (Kd.V (Kd.slice 39 k39) 48 w' w.heap.size (fun k_ => ((P0_ k_ ∨ P1_ k_) ∨ w.heap.size ≤ k_) ∧ some k_ ≠ (v490 : Value).ownBlock ∧ some k_ ≠ ((.slice Ao45 t504.length co45) : Value).ownBlock ∧ k_ ≠ gb472) (.slice A1 l1.length c1) l1) ∧ Aside0 (Kd.R (Kd.int .i64) 3 w' w.heap.size (fun k_ => (w.heap.size ≤ k_) ∧ some k_ ≠ ((.slice Ao45 t504.length co45) : Value).ownBlock) v490 t489) ∧ Aside0 (Kd.R (Kd.int .i64) 3 w' w.heap.size (fun k_ => (w.heap.size ≤ k_) ∧ some k_ ≠ (v490 : Value).ownBlock) (.slice Ao45 t504.length co45) t504) ∧ Aside0 (w'.heap[gb472]? = some (.cells #[.string a3_0,.int .i64 a3_1,.string a3_2] 39 (0,0))) ∧ Aside0 (Below w.heap.size w w'))
           case atStart => exact ⟨(x15_2),(by first|rfl|(simp;done)|(simp [*];done)|(simp [qak];done)),H',⟨Nat.le_refl _⟩,⟨by (with_reducible repeat (first|apply Kd.V_alloc|apply Kd.V_drewN|apply Kd.V_drew));exact HO_0.out⟩,⟨by (with_reducible repeat (first|apply Kd.V_alloc|apply Kd.V_drewN|apply Kd.V_drew));exact HO_1.out⟩,⟨by (with_reducible repeat (first|apply Kd.R_alloc|apply Kd.R_drewN|apply Kd.R_drew));exact HO_13.out⟩,⟨by (with_reducible repeat (first|apply Kd.R_alloc|apply Kd.R_drewN|apply Kd.R_drew));exact HO_14.out⟩,⟨by (with_reducible repeat (first|refine qag ?_ _|refine qai ?_|refine qaf ?_ _));exact BK472.out⟩,⟨by repeat (first|(with_reducible first|exact HB.out|apply qac|apply qaa|apply qab|refine qad ?_ GE472.out)|exact HB.out)⟩⟩
           case round =>
            clear H'
            try clear c1
            try clear c2
            try clear p2
            try clear c3
            try clear c4
            try clear c6
            try clear c8
            try clear c9
            try clear c16
            try clear c19
            try clear c22
            try clear c24
            try clear c25
            try clear c26
            try clear c27
            try clear c29
            try clear c30
            try clear c44
            try clear c44b0
            try clear p2
            obtain ⟨x15_3,rfl,HA,HK3,HO_0,HO_1,HO_13,HO_14,BK472,HB⟩ := hrel
            cases gk with
            | zero => exact absurd HA.out (by simp [keelsonlaw4_DependsMore.l1])
            | succ k3 =>
             have H := HA.out
             clear HA
             simp only [keelsonlaw4_DependsMore.l1] at H
             by_cases c46 : x15_3 < (t489.length : Int)
             ·rw [if_pos c46] at H
              have c46b0 : decide (x15_3 < (t489.length : Int)) = true := decide_eq_true c46
              clear c46
              by_cases c47 : 0 ≤ x15_3
              ·rw [if_pos c47] at H
               have c47b0 : decide (0 ≤ x15_3) = true := decide_eq_true c47
               clear c47
               by_cases c48 : 0 ≤ x16_2
               ·rw [if_pos c48] at H
                have c48b0 : decide (0 ≤ x16_2) = true := decide_eq_true c48
                clear c48
                by_cases c49 : x16_2 < (t504.length : Int)
                ·rw [if_pos c49] at H
                 have c49b0 : decide (x16_2 < (t504.length : Int)) = true := decide_eq_true c49
                 clear c49
                 by_cases c50 : (rd t489 x15_3) = (rd t504 x16_2)
                 ·rw [if_pos c50] at H
                  have c50b0 : ((rd t489 x15_3) == (rd t504 x16_2)) = true := beq_iff_eq.mpr c50
                  have c50b1 : ((rd t489 x15_3) != (rd t504 x16_2)) = false := bne_eq_false_iff_eq.mpr c50
                  clear c50
                  by_cases c51 : x15_3 ≥ (t489.length : Int)
                  ·rw [if_pos c51] at H
                   have c51b0 : decide ((t489.length : Int) ≤ x15_3) = true := decide_eq_true c51
                   clear c51
                   obtain rfl := Option.some.inj H
                   try go_wp2
                   have n0_ := Aside0.mk (Kd.V_drew HO_0.out)
                   have n1_ := Aside0.mk (Kd.V_drew HO_1.out)
                   have n2_ := Aside0.mk (Kd.R_drew HO_13.out)
                   have n3_ := Aside0.mk (Kd.R_drew HO_14.out)
                   have n4_ := Aside0.mk (qai BK472.out)
                   have n5_ := Aside0.mk (qab HB.out)
                   clear HO_0
                   clear HO_1
                   clear HO_13
                   clear HO_14
                   clear BK472
                   clear HB
                   have HO_0 := n0_
                   have HO_1 := n1_
                   have HO_13 := n2_
                   have HO_14 := n3_
                   have BK472 := n4_
                   have HB := n5_
                   clear n0_ n1_ n2_ n3_ n4_ n5_
                   obtain ⟨Ao53,co53,eo53⟩ := Kd.R_slice HO_13.out
                   (first|subst eo53|(injection eo53 with f1_ f2_ f3_;have f4_ := f1_.symm;have f5_ := f3_.symm;clear f1_ f2_ f3_;subst f4_;subst f5_))
                   have p507 : 0 ≤ (x15_3 : Int) := of_decide_eq_true (by assumption)
                   have q507 : x15_3 < (t489.length : Int) := of_decide_eq_true (by assumption)
                   obtain ⟨ad507,e507,hx507_0⟩ := Kd.at_int (Kd.R_reads' HO_13.out).2.2 x15_3 p507 q507
                   cases e507
                   replace p507 := eq_true p507
                   replace q507 := eq_true q507
                   have p508 : 0 ≤ (x16_2 : Int) := of_decide_eq_true (by assumption)
                   have q508 : x16_2 < (t504.length : Int) := of_decide_eq_true (by assumption)
                   obtain ⟨ad508,e508,hx508_0⟩ := Kd.at_int (Kd.R_reads' HO_14.out).2.2 x16_2 p508 q508
                   cases e508
                   replace p508 := eq_true p508
                   replace q508 := eq_true q508
                   refine start_ (n := 15) (S := fun w' => w'.cell? (ad507.add (x15_3).toNat) = some (.int .i64 (rd t489 x15_3)) ∧ w'.cell? (ad508.add (x16_2).toNat) = some (.int .i64 (rd t504 x16_2))) (ds := []) #[false,false,false,false,false,false,false,false,false,false,false,false,false,false,false] (by kernel_rfl) rfl rfl ⟨hx507_0,hx508_0⟩ (fun hHeld => ?_);refine with_tabW keelsonlaw4_DependsMore.tab13 keelsonlaw4_DependsMore.bits13 (fun HT_ HW_ => ?_)
                   generalize wr.drew = w52 at HO_0 HO_1 HO_13 HO_14 BK472 HB hx507_0 hx508_0 hHeld ⊢
                   refine pure_ (i := 0) (N := some 66) (v := ?_) (a' := ?_) #[true,false,false,false,false,false,false,false,false,false,false,false,false,false,false] rfl rfl (any_of HT_.out (by kernel_rfl)) (fun _ _ _ h => h) (Or.inl ⟨by rfl,?_⟩) ?_ ?_
                   rotate_left
                   ·intro w'
                    go_simp
                    with_reducible rfl
                   rotate_left
                   ·simp only [Act.put,List.setIfInBounds_toArray,List.set_cons_zero,List.set_cons_succ,i64_w,i32_w]
                    rfl
                   refine pure_ (i := 1) (N := some 67) (v := ?_) (a' := ?_) #[true,true,false,false,false,false,false,false,false,false,false,false,false,false,false] rfl rfl (any_of HT_.out (by kernel_rfl)) (fun _ _ _ h => h) (Or.inl ⟨by rfl,?_⟩) ?_ ?_
                   rotate_left
                   ·intro w'
                    go_simp
                    with_reducible rfl
                   rotate_left
                   ·simp only [Act.put,List.setIfInBounds_toArray,List.set_cons_zero,List.set_cons_succ,i64_w,i32_w]
                    rfl
                   refine pure_ (i := 2) (N := some 68) (v := ?_) (a' := ?_) #[true,true,true,false,false,false,false,false,false,false,false,false,false,false,false] rfl rfl (any_of HT_.out (by kernel_rfl)) (fun _ _ _ h => h) (Or.inl ⟨by rfl,?_⟩) ?_ ?_
                   rotate_left
                   ·intro w'
                    go_simp
                    with_reducible rfl
                   rotate_left
                   ·simp only [Act.put,List.setIfInBounds_toArray,List.set_cons_zero,List.set_cons_succ,i64_w,i32_w]
                    rfl
                   refine pure_ (i := 3) (N := some 69) (v := ?_) (a' := ?_) #[true,true,true,true,false,false,false,false,false,false,false,false,false,false,false] rfl rfl (any_of HT_.out (by kernel_rfl)) (fun _ _ _ h => h) (Or.inl ⟨by rfl,?_⟩) ?_ ?_
                   rotate_left
                   ·intro w'
                    go_simp
                    with_reducible rfl
                   rotate_left
                   ·simp only [Act.put,List.setIfInBounds_toArray,List.set_cons_zero,List.set_cons_succ,i64_w,i32_w]
                    rfl
                   refine pure_ (i := 4) (N := some 70) (v := ?_) (a' := ?_) #[true,true,true,true,true,false,false,false,false,false,false,false,false,false,false] rfl rfl (any_of HT_.out (by kernel_rfl)) (fun _ _ _ h => h) (Or.inl ⟨by rfl,?_⟩) ?_ ?_
                   rotate_left
                   ·intro w'
                    go_simp
                    with_reducible rfl
                   rotate_left
                   ·simp only [Act.put,List.setIfInBounds_toArray,List.set_cons_zero,List.set_cons_succ,i64_w,i32_w]
                    rfl
                   refine pure_ (i := 5) (N := some 71) (v := ?_) (a' := ?_) #[true,true,true,true,true,true,false,false,false,false,false,false,false,false,false] rfl rfl (any_of HT_.out (by kernel_rfl)) (fun _ _ _ h => h) (Or.inl ⟨by rfl,?_⟩) ?_ ?_
                   rotate_left
                   ·intro w'
                    go_simp
                    with_reducible rfl
                   rotate_left
                   ·simp only [Act.put,List.setIfInBounds_toArray,List.set_cons_zero,List.set_cons_succ,i64_w,i32_w]
                    rfl
                   refine pure_ (i := 6) (N := some 72) (v := ?_) (a' := ?_) #[true,true,true,true,true,true,true,false,false,false,false,false,false,false,false] rfl rfl (any_of HT_.out (by kernel_rfl)) (fun _ _ _ h => h) (Or.inl ⟨by rfl,?_⟩) ?_ ?_
                   rotate_left
                   ·intro w'
                    go_simp
                    with_reducible rfl
                   rotate_left
                   ·simp only [Act.put,List.setIfInBounds_toArray,List.set_cons_zero,List.set_cons_succ,i64_w,i32_w]
                    rfl
                   refine pure_ (i := 7) (N := some 73) (v := ?_) (a' := ?_) #[true,true,true,true,true,true,true,true,false,false,false,false,false,false,false] rfl rfl (any_of HT_.out (by kernel_rfl)) (fun _ _ _ h => h) (Or.inl ⟨by rfl,?_⟩) ?_ ?_
                   rotate_left
                   ·intro w'
                    go_simp
                    with_reducible rfl
                   rotate_left
                   ·simp only [Act.put,List.setIfInBounds_toArray,List.set_cons_zero,List.set_cons_succ,i64_w,i32_w]
                    rfl
                   refine pure_ (i := 9) (N := some 75) (v := ?_) (a' := ?_) #[true,true,true,true,true,true,true,true,false,true,false,false,false,false,false] rfl rfl (any_of HT_.out (by kernel_rfl)) (fun _ _ _ h => h) (Or.inl ⟨by rfl,?_⟩) ?_ ?_
                   rotate_left
                   ·intro w'
                    go_simp
                    with_reducible rfl
                   rotate_left
                   ·simp only [Act.put,List.setIfInBounds_toArray,List.set_cons_zero,List.set_cons_succ,i64_w,i32_w]
                    rfl
                   refine pure_ (i := 10) (N := some 76) (v := ?_) (a' := ?_) #[true,true,true,true,true,true,true,true,false,true,true,false,false,false,false] rfl rfl (any_of HT_.out (by kernel_rfl)) (fun _ _ _ h => h) (Or.inl ⟨by rfl,?_⟩) ?_ ?_
                   rotate_left
                   ·intro w'
                    go_simp
                    with_reducible rfl
                   rotate_left
                   ·simp only [Act.put,List.setIfInBounds_toArray,List.set_cons_zero,List.set_cons_succ,i64_w,i32_w]
                    rfl
                   refine pure_ (i := 11) (N := some 77) (v := ?_) (a' := ?_) #[true,true,true,true,true,true,true,true,false,true,true,true,false,false,false] rfl rfl (any_of HT_.out (by kernel_rfl)) (fun _ _ _ h => h) (Or.inl ⟨by rfl,?_⟩) ?_ ?_
                   rotate_left
                   ·intro w'
                    go_simp
                    with_reducible rfl
                   rotate_left
                   ·simp only [Act.put,List.setIfInBounds_toArray,List.set_cons_zero,List.set_cons_succ,i64_w,i32_w]
                    rfl
                   refine take_ (i := 8) (N := some 74) (v := ?_) (a' := ?_) #[true,true,true,true,true,true,true,true,true,true,true,true,false,false,false] rfl rfl (take_ofW HT_.out HW_.out (by kernel_rfl)) (fun _ _ _ h => h) (Or.inl ⟨by rfl,?_⟩) hHeld ?_ ?_
                   rotate_left
                   ·rintro w' ⟨s0,s1⟩
                    go_simp
                    with_reducible rfl
                   rotate_left
                   ·simp only [Act.put,List.setIfInBounds_toArray,List.set_cons_zero,List.set_cons_succ,i64_w,i32_w]
                    rfl
                   refine take_ (i := 12) (N := some 78) (v := ?_) (a' := ?_) #[true,true,true,true,true,true,true,true,true,true,true,true,true,false,false] rfl rfl (take_ofW HT_.out HW_.out (by kernel_rfl)) (fun _ _ _ h => h) (Or.inl ⟨by rfl,?_⟩) hHeld ?_ ?_
                   rotate_left
                   ·rintro w' ⟨s0,s1⟩
                    go_simp
                    with_reducible rfl
                   rotate_left
                   ·simp only [Act.put,List.setIfInBounds_toArray,List.set_cons_zero,List.set_cons_succ,i64_w,i32_w]
                    rfl
                   refine pure_ (i := 13) (N := some 79) (v := ?_) (a' := ?_) #[true,true,true,true,true,true,true,true,true,true,true,true,true,true,false] rfl rfl (any_of HT_.out (by kernel_rfl)) (fun _ _ _ h => h) (Or.inl ⟨by rfl,?_⟩) ?_ ?_
                   rotate_left
                   ·intro w'
                    go_simp
                    with_reducible rfl
                   rotate_left
                   ·simp only [Act.put,List.setIfInBounds_toArray,List.set_cons_zero,List.set_cons_succ,i64_w,i32_w]
                    rfl
                   refine pure_ (i := 14) (N := some 80) (v := ?_) (a' := ?_) #[true,true,true,true,true,true,true,true,true,true,true,true,true,true,true] rfl rfl (any_of HT_.out (by kernel_rfl)) (fun _ _ _ h => h) (Or.inl ⟨by rfl,?_⟩) ?_ ?_
                   rotate_left
                   ·intro w'
                    go_simp
                    with_reducible rfl
                   rotate_left
                   ·simp only [Act.put,List.setIfInBounds_toArray,List.set_cons_zero,List.set_cons_succ,i64_w,i32_w]
                    rfl
                   refine done_ (done_of HT_.out (by kernel_rfl)) ?_
                   try go_wp2
                   go_ret
                   exact ⟨by first|rfl|(simp [qam,qan]<;>rfl)|(simp [*,qam,qan]<;>rfl),by repeat (first|(with_reducible first|exact HB.out|apply qac|apply qaa|apply qab|refine qad ?_ GE472.out)|exact HB.out)⟩
                  ·rw [if_neg c51] at H
                   have c51b0 : decide ((t489.length : Int) ≤ x15_3) = false := decide_eq_false c51
                   clear c51
                   have H' := Aside0.mk H
                   clear H
                   try go_wp2
                   have n0_ := Aside0.mk (Kd.V_drew HO_0.out)
                   have n1_ := Aside0.mk (Kd.V_drew HO_1.out)
                   have n2_ := Aside0.mk (Kd.R_drew HO_13.out)
                   have n3_ := Aside0.mk (Kd.R_drew HO_14.out)
                   have n4_ := Aside0.mk (qai BK472.out)
                   have n5_ := Aside0.mk (qab HB.out)
                   clear HO_0
                   clear HO_1
                   clear HO_13
                   clear HO_14
                   clear BK472
                   clear HB
                   have HO_0 := n0_
                   have HO_1 := n1_
                   have HO_13 := n2_
                   have HO_14 := n3_
                   have BK472 := n4_
                   have HB := n5_
                   clear n0_ n1_ n2_ n3_ n4_ n5_
                   obtain ⟨Ao55,co55,eo55⟩ := Kd.R_slice HO_13.out
                   (first|subst eo55|(injection eo55 with f1_ f2_ f3_;have f4_ := f1_.symm;have f5_ := f3_.symm;clear f1_ f2_ f3_;subst f4_;subst f5_))
                   have p507 : 0 ≤ (x15_3 : Int) := of_decide_eq_true (by assumption)
                   have q507 : x15_3 < (t489.length : Int) := of_decide_eq_true (by assumption)
                   obtain ⟨ad507,e507,hx507_0⟩ := Kd.at_int (Kd.R_reads' HO_13.out).2.2 x15_3 p507 q507
                   cases e507
                   replace p507 := eq_true p507
                   replace q507 := eq_true q507
                   have p508 : 0 ≤ (x16_2 : Int) := of_decide_eq_true (by assumption)
                   have q508 : x16_2 < (t504.length : Int) := of_decide_eq_true (by assumption)
                   obtain ⟨ad508,e508,hx508_0⟩ := Kd.at_int (Kd.R_reads' HO_14.out).2.2 x16_2 p508 q508
                   cases e508
                   replace p508 := eq_true p508
                   replace q508 := eq_true q508
                   refine start_ (n := 15) (S := fun w' => w'.cell? (ad507.add (x15_3).toNat) = some (.int .i64 (rd t489 x15_3)) ∧ w'.cell? (ad508.add (x16_2).toNat) = some (.int .i64 (rd t504 x16_2))) (ds := []) #[false,false,false,false,false,false,false,false,false,false,false,false,false,false,false] (by kernel_rfl) rfl rfl ⟨hx507_0,hx508_0⟩ (fun hHeld => ?_);refine with_tabW keelsonlaw4_DependsMore.tab13 keelsonlaw4_DependsMore.bits13 (fun HT_ HW_ => ?_)
                   generalize wr.drew = w54 at HO_0 HO_1 HO_13 HO_14 BK472 HB hx507_0 hx508_0 hHeld ⊢
                   refine pure_ (i := 0) (N := some 66) (v := ?_) (a' := ?_) #[true,false,false,false,false,false,false,false,false,false,false,false,false,false,false] rfl rfl (any_of HT_.out (by kernel_rfl)) (fun _ _ _ h => h) (Or.inl ⟨by rfl,?_⟩) ?_ ?_
                   rotate_left
                   ·intro w'
                    go_simp
                    with_reducible rfl
                   rotate_left
                   ·simp only [Act.put,List.setIfInBounds_toArray,List.set_cons_zero,List.set_cons_succ,i64_w,i32_w]
                    rfl
                   refine pure_ (i := 1) (N := some 67) (v := ?_) (a' := ?_) #[true,true,false,false,false,false,false,false,false,false,false,false,false,false,false] rfl rfl (any_of HT_.out (by kernel_rfl)) (fun _ _ _ h => h) (Or.inl ⟨by rfl,?_⟩) ?_ ?_
                   rotate_left
                   ·intro w'
                    go_simp
                    with_reducible rfl
                   rotate_left
                   ·simp only [Act.put,List.setIfInBounds_toArray,List.set_cons_zero,List.set_cons_succ,i64_w,i32_w]
                    rfl
                   refine pure_ (i := 2) (N := some 68) (v := ?_) (a' := ?_) #[true,true,true,false,false,false,false,false,false,false,false,false,false,false,false] rfl rfl (any_of HT_.out (by kernel_rfl)) (fun _ _ _ h => h) (Or.inl ⟨by rfl,?_⟩) ?_ ?_
                   rotate_left
                   ·intro w'
                    go_simp
                    with_reducible rfl
                   rotate_left
                   ·simp only [Act.put,List.setIfInBounds_toArray,List.set_cons_zero,List.set_cons_succ,i64_w,i32_w]
                    rfl
                   refine pure_ (i := 3) (N := some 69) (v := ?_) (a' := ?_) #[true,true,true,true,false,false,false,false,false,false,false,false,false,false,false] rfl rfl (any_of HT_.out (by kernel_rfl)) (fun _ _ _ h => h) (Or.inl ⟨by rfl,?_⟩) ?_ ?_
                   rotate_left
                   ·intro w'
                    go_simp
                    with_reducible rfl
                   rotate_left
                   ·simp only [Act.put,List.setIfInBounds_toArray,List.set_cons_zero,List.set_cons_succ,i64_w,i32_w]
                    rfl
                   refine pure_ (i := 4) (N := some 70) (v := ?_) (a' := ?_) #[true,true,true,true,true,false,false,false,false,false,false,false,false,false,false] rfl rfl (any_of HT_.out (by kernel_rfl)) (fun _ _ _ h => h) (Or.inl ⟨by rfl,?_⟩) ?_ ?_
                   rotate_left
                   ·intro w'
                    go_simp
                    with_reducible rfl
                   rotate_left
                   ·simp only [Act.put,List.setIfInBounds_toArray,List.set_cons_zero,List.set_cons_succ,i64_w,i32_w]
                    rfl
                   refine pure_ (i := 5) (N := some 71) (v := ?_) (a' := ?_) #[true,true,true,true,true,true,false,false,false,false,false,false,false,false,false] rfl rfl (any_of HT_.out (by kernel_rfl)) (fun _ _ _ h => h) (Or.inl ⟨by rfl,?_⟩) ?_ ?_
                   rotate_left
                   ·intro w'
                    go_simp
                    with_reducible rfl
                   rotate_left
                   ·simp only [Act.put,List.setIfInBounds_toArray,List.set_cons_zero,List.set_cons_succ,i64_w,i32_w]
                    rfl
                   refine pure_ (i := 6) (N := some 72) (v := ?_) (a' := ?_) #[true,true,true,true,true,true,true,false,false,false,false,false,false,false,false] rfl rfl (any_of HT_.out (by kernel_rfl)) (fun _ _ _ h => h) (Or.inl ⟨by rfl,?_⟩) ?_ ?_
                   rotate_left
                   ·intro w'
                    go_simp
                    with_reducible rfl
                   rotate_left
                   ·simp only [Act.put,List.setIfInBounds_toArray,List.set_cons_zero,List.set_cons_succ,i64_w,i32_w]
                    rfl
                   refine pure_ (i := 7) (N := some 73) (v := ?_) (a' := ?_) #[true,true,true,true,true,true,true,true,false,false,false,false,false,false,false] rfl rfl (any_of HT_.out (by kernel_rfl)) (fun _ _ _ h => h) (Or.inl ⟨by rfl,?_⟩) ?_ ?_
                   rotate_left
                   ·intro w'
                    go_simp
                    with_reducible rfl
                   rotate_left
                   ·simp only [Act.put,List.setIfInBounds_toArray,List.set_cons_zero,List.set_cons_succ,i64_w,i32_w]
                    rfl
                   refine pure_ (i := 9) (N := some 75) (v := ?_) (a' := ?_) #[true,true,true,true,true,true,true,true,false,true,false,false,false,false,false] rfl rfl (any_of HT_.out (by kernel_rfl)) (fun _ _ _ h => h) (Or.inl ⟨by rfl,?_⟩) ?_ ?_
                   rotate_left
                   ·intro w'
                    go_simp
                    with_reducible rfl
                   rotate_left
                   ·simp only [Act.put,List.setIfInBounds_toArray,List.set_cons_zero,List.set_cons_succ,i64_w,i32_w]
                    rfl
                   refine pure_ (i := 10) (N := some 76) (v := ?_) (a' := ?_) #[true,true,true,true,true,true,true,true,false,true,true,false,false,false,false] rfl rfl (any_of HT_.out (by kernel_rfl)) (fun _ _ _ h => h) (Or.inl ⟨by rfl,?_⟩) ?_ ?_
                   rotate_left
                   ·intro w'
                    go_simp
                    with_reducible rfl
                   rotate_left
                   ·simp only [Act.put,List.setIfInBounds_toArray,List.set_cons_zero,List.set_cons_succ,i64_w,i32_w]
                    rfl
                   refine pure_ (i := 11) (N := some 77) (v := ?_) (a' := ?_) #[true,true,true,true,true,true,true,true,false,true,true,true,false,false,false] rfl rfl (any_of HT_.out (by kernel_rfl)) (fun _ _ _ h => h) (Or.inl ⟨by rfl,?_⟩) ?_ ?_
                   rotate_left
                   ·intro w'
                    go_simp
                    with_reducible rfl
                   rotate_left
                   ·simp only [Act.put,List.setIfInBounds_toArray,List.set_cons_zero,List.set_cons_succ,i64_w,i32_w]
                    rfl
                   refine take_ (i := 8) (N := some 74) (v := ?_) (a' := ?_) #[true,true,true,true,true,true,true,true,true,true,true,true,false,false,false] rfl rfl (take_ofW HT_.out HW_.out (by kernel_rfl)) (fun _ _ _ h => h) (Or.inl ⟨by rfl,?_⟩) hHeld ?_ ?_
                   rotate_left
                   ·rintro w' ⟨s0,s1⟩
                    go_simp
                    with_reducible rfl
                   rotate_left
                   ·simp only [Act.put,List.setIfInBounds_toArray,List.set_cons_zero,List.set_cons_succ,i64_w,i32_w]
                    rfl
                   refine take_ (i := 12) (N := some 78) (v := ?_) (a' := ?_) #[true,true,true,true,true,true,true,true,true,true,true,true,true,false,false] rfl rfl (take_ofW HT_.out HW_.out (by kernel_rfl)) (fun _ _ _ h => h) (Or.inl ⟨by rfl,?_⟩) hHeld ?_ ?_
                   rotate_left
                   ·rintro w' ⟨s0,s1⟩
                    go_simp
                    with_reducible rfl
                   rotate_left
                   ·simp only [Act.put,List.setIfInBounds_toArray,List.set_cons_zero,List.set_cons_succ,i64_w,i32_w]
                    rfl
                   refine pure_ (i := 13) (N := some 79) (v := ?_) (a' := ?_) #[true,true,true,true,true,true,true,true,true,true,true,true,true,true,false] rfl rfl (any_of HT_.out (by kernel_rfl)) (fun _ _ _ h => h) (Or.inl ⟨by rfl,?_⟩) ?_ ?_
                   rotate_left
                   ·intro w'
                    go_simp
                    with_reducible rfl
                   rotate_left
                   ·simp only [Act.put,List.setIfInBounds_toArray,List.set_cons_zero,List.set_cons_succ,i64_w,i32_w]
                    rfl
                   refine pure_ (i := 14) (N := some 80) (v := ?_) (a' := ?_) #[true,true,true,true,true,true,true,true,true,true,true,true,true,true,true] rfl rfl (any_of HT_.out (by kernel_rfl)) (fun _ _ _ h => h) (Or.inl ⟨by rfl,?_⟩) ?_ ?_
                   rotate_left
                   ·intro w'
                    go_simp
                    with_reducible rfl
                   rotate_left
                   ·simp only [Act.put,List.setIfInBounds_toArray,List.set_cons_zero,List.set_cons_succ,i64_w,i32_w]
                    rfl
                   refine done_ (done_of HT_.out (by kernel_rfl)) ?_
                   try go_wp2
                   go_roundg k3
                   case measure => have := HJ10.out;have := HK2.out;have := HK3.out;omega
                   case rel => exact ⟨(x15_3),(wrap64 (x16_2 + 1)),(by first|rfl|(simp;done)|(simp [*];done)|(simp [qak];done)),(by first|rfl|(simp;done)|(simp [*];done)|(simp [qak];done)),H',⟨by have := HJ10.out;have := HK2.out;have := HK3.out;omega⟩,⟨by (with_reducible repeat (first|apply Kd.V_alloc|apply Kd.V_drewN|apply Kd.V_drew));exact HO_0.out⟩,⟨by (with_reducible repeat (first|apply Kd.V_alloc|apply Kd.V_drewN|apply Kd.V_drew));exact HO_1.out⟩,⟨by (with_reducible repeat (first|apply Kd.R_alloc|apply Kd.R_drewN|apply Kd.R_drew));exact HO_13.out⟩,⟨by (with_reducible repeat (first|apply Kd.R_alloc|apply Kd.R_drewN|apply Kd.R_drew));exact HO_14.out⟩,⟨by (with_reducible repeat (first|refine qag ?_ _|refine qai ?_|refine qaf ?_ _));exact BK472.out⟩,⟨by repeat (first|(with_reducible first|exact HB.out|apply qac|apply qaa|apply qab|refine qad ?_ GE472.out)|exact HB.out)⟩⟩
                 ·rw [if_neg c50] at H
                  have c50b0 : ((rd t489 x15_3) == (rd t504 x16_2)) = false := beq_eq_false_iff_ne.mpr c50
                  have c50b1 : ((rd t489 x15_3) != (rd t504 x16_2)) = true := bne_iff_ne.mpr c50
                  have H' := Aside0.mk H
                  clear H
                  try go_wp2
                  have n0_ := Aside0.mk (Kd.V_drew HO_0.out)
                  have n1_ := Aside0.mk (Kd.V_drew HO_1.out)
                  have n2_ := Aside0.mk (Kd.R_drew HO_13.out)
                  have n3_ := Aside0.mk (Kd.R_drew HO_14.out)
                  have n4_ := Aside0.mk (qai BK472.out)
                  have n5_ := Aside0.mk (qab HB.out)
                  clear HO_0
                  clear HO_1
                  clear HO_13
                  clear HO_14
                  clear BK472
                  clear HB
                  have HO_0 := n0_
                  have HO_1 := n1_
                  have HO_13 := n2_
                  have HO_14 := n3_
                  have BK472 := n4_
                  have HB := n5_
                  clear n0_ n1_ n2_ n3_ n4_ n5_
                  obtain ⟨Ao57,co57,eo57⟩ := Kd.R_slice HO_13.out
                  (first|subst eo57|(injection eo57 with f1_ f2_ f3_;have f4_ := f1_.symm;have f5_ := f3_.symm;clear f1_ f2_ f3_;subst f4_;subst f5_))
                  have p507 : 0 ≤ (x15_3 : Int) := of_decide_eq_true (by assumption)
                  have q507 : x15_3 < (t489.length : Int) := of_decide_eq_true (by assumption)
                  obtain ⟨ad507,e507,hx507_0⟩ := Kd.at_int (Kd.R_reads' HO_13.out).2.2 x15_3 p507 q507
                  cases e507
                  replace p507 := eq_true p507
                  replace q507 := eq_true q507
                  have p508 : 0 ≤ (x16_2 : Int) := of_decide_eq_true (by assumption)
                  have q508 : x16_2 < (t504.length : Int) := of_decide_eq_true (by assumption)
                  obtain ⟨ad508,e508,hx508_0⟩ := Kd.at_int (Kd.R_reads' HO_14.out).2.2 x16_2 p508 q508
                  cases e508
                  replace p508 := eq_true p508
                  replace q508 := eq_true q508
                  refine start_ (n := 15) (S := fun w' => w'.cell? (ad507.add (x15_3).toNat) = some (.int .i64 (rd t489 x15_3)) ∧ w'.cell? (ad508.add (x16_2).toNat) = some (.int .i64 (rd t504 x16_2))) (ds := []) #[false,false,false,false,false,false,false,false,false,false,false,false,false,false,false] (by kernel_rfl) rfl rfl ⟨hx507_0,hx508_0⟩ (fun hHeld => ?_);refine with_tabW keelsonlaw4_DependsMore.tab13 keelsonlaw4_DependsMore.bits13 (fun HT_ HW_ => ?_)
                  generalize wr.drew = w56 at HO_0 HO_1 HO_13 HO_14 BK472 HB hx507_0 hx508_0 hHeld ⊢
                  refine pure_ (i := 0) (N := some 66) (v := ?_) (a' := ?_) #[true,false,false,false,false,false,false,false,false,false,false,false,false,false,false] rfl rfl (any_of HT_.out (by kernel_rfl)) (fun _ _ _ h => h) (Or.inl ⟨by rfl,?_⟩) ?_ ?_
                  rotate_left
                  ·intro w'
                   go_simp
                   with_reducible rfl
                  rotate_left
                  ·simp only [Act.put,List.setIfInBounds_toArray,List.set_cons_zero,List.set_cons_succ,i64_w,i32_w]
                   rfl
                  refine pure_ (i := 1) (N := some 67) (v := ?_) (a' := ?_) #[true,true,false,false,false,false,false,false,false,false,false,false,false,false,false] rfl rfl (any_of HT_.out (by kernel_rfl)) (fun _ _ _ h => h) (Or.inl ⟨by rfl,?_⟩) ?_ ?_
                  rotate_left
                  ·intro w'
                   go_simp
                   with_reducible rfl
                  rotate_left
                  ·simp only [Act.put,List.setIfInBounds_toArray,List.set_cons_zero,List.set_cons_succ,i64_w,i32_w]
                   rfl
                  refine pure_ (i := 2) (N := some 68) (v := ?_) (a' := ?_) #[true,true,true,false,false,false,false,false,false,false,false,false,false,false,false] rfl rfl (any_of HT_.out (by kernel_rfl)) (fun _ _ _ h => h) (Or.inl ⟨by rfl,?_⟩) ?_ ?_
                  rotate_left
                  ·intro w'
                   go_simp
                   with_reducible rfl
                  rotate_left
                  ·simp only [Act.put,List.setIfInBounds_toArray,List.set_cons_zero,List.set_cons_succ,i64_w,i32_w]
                   rfl
                  refine pure_ (i := 3) (N := some 69) (v := ?_) (a' := ?_) #[true,true,true,true,false,false,false,false,false,false,false,false,false,false,false] rfl rfl (any_of HT_.out (by kernel_rfl)) (fun _ _ _ h => h) (Or.inl ⟨by rfl,?_⟩) ?_ ?_
                  rotate_left
                  ·intro w'
                   go_simp
                   with_reducible rfl
                  rotate_left
                  ·simp only [Act.put,List.setIfInBounds_toArray,List.set_cons_zero,List.set_cons_succ,i64_w,i32_w]
                   rfl
                  refine pure_ (i := 4) (N := some 70) (v := ?_) (a' := ?_) #[true,true,true,true,true,false,false,false,false,false,false,false,false,false,false] rfl rfl (any_of HT_.out (by kernel_rfl)) (fun _ _ _ h => h) (Or.inl ⟨by rfl,?_⟩) ?_ ?_
                  rotate_left
                  ·intro w'
                   go_simp
                   with_reducible rfl
                  rotate_left
                  ·simp only [Act.put,List.setIfInBounds_toArray,List.set_cons_zero,List.set_cons_succ,i64_w,i32_w]
                   rfl
                  refine pure_ (i := 5) (N := some 71) (v := ?_) (a' := ?_) #[true,true,true,true,true,true,false,false,false,false,false,false,false,false,false] rfl rfl (any_of HT_.out (by kernel_rfl)) (fun _ _ _ h => h) (Or.inl ⟨by rfl,?_⟩) ?_ ?_
                  rotate_left
                  ·intro w'
                   go_simp
                   with_reducible rfl
                  rotate_left
                  ·simp only [Act.put,List.setIfInBounds_toArray,List.set_cons_zero,List.set_cons_succ,i64_w,i32_w]
                   rfl
                  refine pure_ (i := 6) (N := some 72) (v := ?_) (a' := ?_) #[true,true,true,true,true,true,true,false,false,false,false,false,false,false,false] rfl rfl (any_of HT_.out (by kernel_rfl)) (fun _ _ _ h => h) (Or.inl ⟨by rfl,?_⟩) ?_ ?_
                  rotate_left
                  ·intro w'
                   go_simp
                   with_reducible rfl
                  rotate_left
                  ·simp only [Act.put,List.setIfInBounds_toArray,List.set_cons_zero,List.set_cons_succ,i64_w,i32_w]
                   rfl
                  refine pure_ (i := 7) (N := some 73) (v := ?_) (a' := ?_) #[true,true,true,true,true,true,true,true,false,false,false,false,false,false,false] rfl rfl (any_of HT_.out (by kernel_rfl)) (fun _ _ _ h => h) (Or.inl ⟨by rfl,?_⟩) ?_ ?_
                  rotate_left
                  ·intro w'
                   go_simp
                   with_reducible rfl
                  rotate_left
                  ·simp only [Act.put,List.setIfInBounds_toArray,List.set_cons_zero,List.set_cons_succ,i64_w,i32_w]
                   rfl
                  refine pure_ (i := 9) (N := some 75) (v := ?_) (a' := ?_) #[true,true,true,true,true,true,true,true,false,true,false,false,false,false,false] rfl rfl (any_of HT_.out (by kernel_rfl)) (fun _ _ _ h => h) (Or.inl ⟨by rfl,?_⟩) ?_ ?_
                  rotate_left
                  ·intro w'
                   go_simp
                   with_reducible rfl
                  rotate_left
                  ·simp only [Act.put,List.setIfInBounds_toArray,List.set_cons_zero,List.set_cons_succ,i64_w,i32_w]
                   rfl
                  refine pure_ (i := 10) (N := some 76) (v := ?_) (a' := ?_) #[true,true,true,true,true,true,true,true,false,true,true,false,false,false,false] rfl rfl (any_of HT_.out (by kernel_rfl)) (fun _ _ _ h => h) (Or.inl ⟨by rfl,?_⟩) ?_ ?_
                  rotate_left
                  ·intro w'
                   go_simp
                   with_reducible rfl
                  rotate_left
                  ·simp only [Act.put,List.setIfInBounds_toArray,List.set_cons_zero,List.set_cons_succ,i64_w,i32_w]
                   rfl
                  refine pure_ (i := 11) (N := some 77) (v := ?_) (a' := ?_) #[true,true,true,true,true,true,true,true,false,true,true,true,false,false,false] rfl rfl (any_of HT_.out (by kernel_rfl)) (fun _ _ _ h => h) (Or.inl ⟨by rfl,?_⟩) ?_ ?_
                  rotate_left
                  ·intro w'
                   go_simp
                   with_reducible rfl
                  rotate_left
                  ·simp only [Act.put,List.setIfInBounds_toArray,List.set_cons_zero,List.set_cons_succ,i64_w,i32_w]
                   rfl
                  refine take_ (i := 8) (N := some 74) (v := ?_) (a' := ?_) #[true,true,true,true,true,true,true,true,true,true,true,true,false,false,false] rfl rfl (take_ofW HT_.out HW_.out (by kernel_rfl)) (fun _ _ _ h => h) (Or.inl ⟨by rfl,?_⟩) hHeld ?_ ?_
                  rotate_left
                  ·rintro w' ⟨s0,s1⟩
                   go_simp
                   with_reducible rfl
                  rotate_left
                  ·simp only [Act.put,List.setIfInBounds_toArray,List.set_cons_zero,List.set_cons_succ,i64_w,i32_w]
                   rfl
                  refine take_ (i := 12) (N := some 78) (v := ?_) (a' := ?_) #[true,true,true,true,true,true,true,true,true,true,true,true,true,false,false] rfl rfl (take_ofW HT_.out HW_.out (by kernel_rfl)) (fun _ _ _ h => h) (Or.inl ⟨by rfl,?_⟩) hHeld ?_ ?_
                  rotate_left
                  ·rintro w' ⟨s0,s1⟩
                   go_simp
                   with_reducible rfl
                  rotate_left
                  ·simp only [Act.put,List.setIfInBounds_toArray,List.set_cons_zero,List.set_cons_succ,i64_w,i32_w]
                   rfl
                  refine pure_ (i := 13) (N := some 79) (v := ?_) (a' := ?_) #[true,true,true,true,true,true,true,true,true,true,true,true,true,true,false] rfl rfl (any_of HT_.out (by kernel_rfl)) (fun _ _ _ h => h) (Or.inl ⟨by rfl,?_⟩) ?_ ?_
                  rotate_left
                  ·intro w'
                   go_simp
                   with_reducible rfl
                  rotate_left
                  ·simp only [Act.put,List.setIfInBounds_toArray,List.set_cons_zero,List.set_cons_succ,i64_w,i32_w]
                   rfl
                  refine pure_ (i := 14) (N := some 80) (v := ?_) (a' := ?_) #[true,true,true,true,true,true,true,true,true,true,true,true,true,true,true] rfl rfl (any_of HT_.out (by kernel_rfl)) (fun _ _ _ h => h) (Or.inl ⟨by rfl,?_⟩) ?_ ?_
                  rotate_left
                  ·intro w'
                   go_simp
                   with_reducible rfl
                  rotate_left
                  ·simp only [Act.put,List.setIfInBounds_toArray,List.set_cons_zero,List.set_cons_succ,i64_w,i32_w]
                   rfl
                  refine done_ (done_of HT_.out (by kernel_rfl)) ?_
                  try go_wp2
                  go_roundg k3
                  case measure => have := HJ10.out;have := HK2.out;have := HK3.out;omega
                  case rel => exact ⟨(wrap64 (x15_3 + 1)),(by first|rfl|(simp;done)|(simp [*];done)|(simp [qak];done)),H',⟨by have := HJ10.out;have := HK2.out;have := HK3.out;omega⟩,⟨by (with_reducible repeat (first|apply Kd.V_alloc|apply Kd.V_drewN|apply Kd.V_drew));exact HO_0.out⟩,⟨by (with_reducible repeat (first|apply Kd.V_alloc|apply Kd.V_drewN|apply Kd.V_drew));exact HO_1.out⟩,⟨by (with_reducible repeat (first|apply Kd.R_alloc|apply Kd.R_drewN|apply Kd.R_drew));exact HO_13.out⟩,⟨by (with_reducible repeat (first|apply Kd.R_alloc|apply Kd.R_drewN|apply Kd.R_drew));exact HO_14.out⟩,⟨by (with_reducible repeat (first|refine qag ?_ _|refine qai ?_|refine qaf ?_ _));exact BK472.out⟩,⟨by repeat (first|(with_reducible first|exact HB.out|apply qac|apply qaa|apply qab|refine qad ?_ GE472.out)|exact HB.out)⟩⟩
                ·rw [if_neg c49] at H
                 exact absurd H (by simp)
               ·rw [if_neg c48] at H
                exact absurd H (by simp)
              ·rw [if_neg c47] at H
               exact absurd H (by simp)
             ·rw [if_neg c46] at H
              have c46b0 : decide (x15_3 < (t489.length : Int)) = false := decide_eq_false c46
              clear c46
              by_cases c58 : x15_3 ≥ (t489.length : Int)
              ·rw [if_pos c58] at H
               have c58b0 : decide ((t489.length : Int) ≤ x15_3) = true := decide_eq_true c58
               clear c58
               obtain rfl := Option.some.inj H
               try go_wp2
               have n0_ := Aside0.mk (Kd.V_drew HO_0.out)
               have n1_ := Aside0.mk (Kd.V_drew HO_1.out)
               have n2_ := Aside0.mk (Kd.R_drew HO_13.out)
               have n3_ := Aside0.mk (Kd.R_drew HO_14.out)
               have n4_ := Aside0.mk (qai BK472.out)
               have n5_ := Aside0.mk (qab HB.out)
               clear HO_0
               clear HO_1
               clear HO_13
               clear HO_14
               clear BK472
               clear HB
               have HO_0 := n0_
               have HO_1 := n1_
               have HO_13 := n2_
               have HO_14 := n3_
               have BK472 := n4_
               have HB := n5_
               clear n0_ n1_ n2_ n3_ n4_ n5_
               obtain ⟨Ao60,co60,eo60⟩ := Kd.R_slice HO_13.out
               (first|subst eo60|(injection eo60 with f1_ f2_ f3_;have f4_ := f1_.symm;have f5_ := f3_.symm;clear f1_ f2_ f3_;subst f4_;subst f5_))
               refine start_ (n := 15) (S := fun w' => True) (ds := []) #[false,false,false,false,false,false,false,false,false,false,false,false,false,false,false] (by kernel_rfl) rfl rfl trivial (fun hHeld => ?_);refine with_tabW keelsonlaw4_DependsMore.tab13 keelsonlaw4_DependsMore.bits13 (fun HT_ HW_ => ?_)
               generalize wr.drew = w59 at HO_0 HO_1 HO_13 HO_14 BK472 HB hHeld ⊢
               refine pure_ (i := 0) (N := some 66) (v := ?_) (a' := ?_) #[true,false,false,false,false,false,false,false,false,false,false,false,false,false,false] rfl rfl (any_of HT_.out (by kernel_rfl)) (fun _ _ _ h => h) (Or.inl ⟨by rfl,?_⟩) ?_ ?_
               rotate_left
               ·intro w'
                go_simp
                with_reducible rfl
               rotate_left
               ·simp only [Act.put,List.setIfInBounds_toArray,List.set_cons_zero,List.set_cons_succ,i64_w,i32_w]
                rfl
               refine pure_ (i := 1) (N := some 67) (v := ?_) (a' := ?_) #[true,true,false,false,false,false,false,false,false,false,false,false,false,false,false] rfl rfl (any_of HT_.out (by kernel_rfl)) (fun _ _ _ h => h) (Or.inl ⟨by rfl,?_⟩) ?_ ?_
               rotate_left
               ·intro w'
                go_simp
                with_reducible rfl
               rotate_left
               ·simp only [Act.put,List.setIfInBounds_toArray,List.set_cons_zero,List.set_cons_succ,i64_w,i32_w]
                rfl
               refine pure_ (i := 2) (N := some 68) (v := ?_) (a' := ?_) #[true,true,true,false,false,false,false,false,false,false,false,false,false,false,false] rfl rfl (any_of HT_.out (by kernel_rfl)) (fun _ _ _ h => h) (Or.inl ⟨by rfl,?_⟩) ?_ ?_
               rotate_left
               ·intro w'
                go_simp
                with_reducible rfl
               rotate_left
               ·simp only [Act.put,List.setIfInBounds_toArray,List.set_cons_zero,List.set_cons_succ,i64_w,i32_w]
                rfl
               refine pure_ (i := 3) (N := some 69) (v := ?_) (a' := ?_) #[true,true,true,true,false,false,false,false,false,false,false,false,false,false,false] rfl rfl (any_of HT_.out (by kernel_rfl)) (fun _ _ _ h => h) (Or.inl ⟨by rfl,?_⟩) ?_ ?_
               rotate_left
               ·intro w'
                go_simp
                with_reducible rfl
               rotate_left
               ·simp only [Act.put,List.setIfInBounds_toArray,List.set_cons_zero,List.set_cons_succ,i64_w,i32_w]
                rfl
               refine pure_ (i := 4) (N := some 70) (v := ?_) (a' := ?_) #[true,true,true,true,true,false,false,false,false,false,false,false,false,false,false] rfl rfl (any_of HT_.out (by kernel_rfl)) (fun _ _ _ h => h) (Or.inl ⟨by rfl,?_⟩) ?_ ?_
               rotate_left
               ·intro w'
                go_simp
                with_reducible rfl
               rotate_left
               ·simp only [Act.put,List.setIfInBounds_toArray,List.set_cons_zero,List.set_cons_succ,i64_w,i32_w]
                rfl
               refine pure_ (i := 5) (N := some 71) (v := undef) (a' := ?_) #[true,true,true,true,true,true,false,false,false,false,false,false,false,false,false] rfl rfl (any_of HT_.out (by kernel_rfl)) (fun _ _ _ h => h) (Or.inr ⟨by rfl,rfl⟩) ?_ ?_
               rotate_left
               ·simp only [Act.put,List.setIfInBounds_toArray,List.set_cons_zero,List.set_cons_succ,i64_w,i32_w]
                rfl
               refine pure_ (i := 6) (N := some 72) (v := undef) (a' := ?_) #[true,true,true,true,true,true,true,false,false,false,false,false,false,false,false] rfl rfl (any_of HT_.out (by kernel_rfl)) (fun _ _ _ h => h) (Or.inr ⟨by rfl,rfl⟩) ?_ ?_
               rotate_left
               ·simp only [Act.put,List.setIfInBounds_toArray,List.set_cons_zero,List.set_cons_succ,i64_w,i32_w]
                rfl
               refine pure_ (i := 7) (N := some 73) (v := undef) (a' := ?_) #[true,true,true,true,true,true,true,true,false,false,false,false,false,false,false] rfl rfl (any_of HT_.out (by kernel_rfl)) (fun _ _ _ h => h) (Or.inr ⟨by rfl,rfl⟩) ?_ ?_
               rotate_left
               ·simp only [Act.put,List.setIfInBounds_toArray,List.set_cons_zero,List.set_cons_succ,i64_w,i32_w]
                rfl
               refine pure_ (i := 8) (N := some 74) (v := undef) (a' := ?_) #[true,true,true,true,true,true,true,true,true,false,false,false,false,false,false] rfl rfl (any_of HT_.out (by kernel_rfl)) (fun _ _ _ h => h) (Or.inr ⟨by rfl,rfl⟩) ?_ ?_
               rotate_left
               ·simp only [Act.put,List.setIfInBounds_toArray,List.set_cons_zero,List.set_cons_succ,i64_w,i32_w]
                rfl
               refine pure_ (i := 9) (N := some 75) (v := undef) (a' := ?_) #[true,true,true,true,true,true,true,true,true,true,false,false,false,false,false] rfl rfl (any_of HT_.out (by kernel_rfl)) (fun _ _ _ h => h) (Or.inr ⟨by rfl,rfl⟩) ?_ ?_
               rotate_left
               ·simp only [Act.put,List.setIfInBounds_toArray,List.set_cons_zero,List.set_cons_succ,i64_w,i32_w]
                rfl
               refine pure_ (i := 10) (N := some 76) (v := undef) (a' := ?_) #[true,true,true,true,true,true,true,true,true,true,true,false,false,false,false] rfl rfl (any_of HT_.out (by kernel_rfl)) (fun _ _ _ h => h) (Or.inr ⟨by rfl,rfl⟩) ?_ ?_
               rotate_left
               ·simp only [Act.put,List.setIfInBounds_toArray,List.set_cons_zero,List.set_cons_succ,i64_w,i32_w]
                rfl
               refine pure_ (i := 11) (N := some 77) (v := undef) (a' := ?_) #[true,true,true,true,true,true,true,true,true,true,true,true,false,false,false] rfl rfl (any_of HT_.out (by kernel_rfl)) (fun _ _ _ h => h) (Or.inr ⟨by rfl,rfl⟩) ?_ ?_
               rotate_left
               ·simp only [Act.put,List.setIfInBounds_toArray,List.set_cons_zero,List.set_cons_succ,i64_w,i32_w]
                rfl
               refine pure_ (i := 12) (N := some 78) (v := undef) (a' := ?_) #[true,true,true,true,true,true,true,true,true,true,true,true,true,false,false] rfl rfl (any_of HT_.out (by kernel_rfl)) (fun _ _ _ h => h) (Or.inr ⟨by rfl,rfl⟩) ?_ ?_
               rotate_left
               ·simp only [Act.put,List.setIfInBounds_toArray,List.set_cons_zero,List.set_cons_succ,i64_w,i32_w]
                rfl
               refine pure_ (i := 13) (N := some 79) (v := undef) (a' := ?_) #[true,true,true,true,true,true,true,true,true,true,true,true,true,true,false] rfl rfl (any_of HT_.out (by kernel_rfl)) (fun _ _ _ h => h) (Or.inr ⟨by rfl,rfl⟩) ?_ ?_
               rotate_left
               ·simp only [Act.put,List.setIfInBounds_toArray,List.set_cons_zero,List.set_cons_succ,i64_w,i32_w]
                rfl
               refine pure_ (i := 14) (N := some 80) (v := ?_) (a' := ?_) #[true,true,true,true,true,true,true,true,true,true,true,true,true,true,true] rfl rfl (any_of HT_.out (by kernel_rfl)) (fun _ _ _ h => h) (Or.inl ⟨by rfl,?_⟩) ?_ ?_
               rotate_left
               ·intro w'
                go_simp
                with_reducible rfl
               rotate_left
               ·simp only [Act.put,List.setIfInBounds_toArray,List.set_cons_zero,List.set_cons_succ,i64_w,i32_w]
                rfl
               refine done_ (done_of HT_.out (by kernel_rfl)) ?_
               try go_wp2
               go_ret
               exact ⟨by first|rfl|(simp [qam,qan]<;>rfl)|(simp [*,qam,qan]<;>rfl),by repeat (first|(with_reducible first|exact HB.out|apply qac|apply qaa|apply qab|refine qad ?_ GE472.out)|exact HB.out)⟩
              ·rw [if_neg c58] at H
               have c58b0 : decide ((t489.length : Int) ≤ x15_3) = false := decide_eq_false c58
               clear c58
               have H' := Aside0.mk H
               clear H
               try go_wp2
               have n0_ := Aside0.mk (Kd.V_drew HO_0.out)
               have n1_ := Aside0.mk (Kd.V_drew HO_1.out)
               have n2_ := Aside0.mk (Kd.R_drew HO_13.out)
               have n3_ := Aside0.mk (Kd.R_drew HO_14.out)
               have n4_ := Aside0.mk (qai BK472.out)
               have n5_ := Aside0.mk (qab HB.out)
               clear HO_0
               clear HO_1
               clear HO_13
               clear HO_14
               clear BK472
               clear HB
               have HO_0 := n0_
               have HO_1 := n1_
               have HO_13 := n2_
               have HO_14 := n3_
               have BK472 := n4_
               have HB := n5_
               clear n0_ n1_ n2_ n3_ n4_ n5_
               obtain ⟨Ao62,co62,eo62⟩ := Kd.R_slice HO_13.out
               (first|subst eo62|(injection eo62 with f1_ f2_ f3_;have f4_ := f1_.symm;have f5_ := f3_.symm;clear f1_ f2_ f3_;subst f4_;subst f5_))
               refine start_ (n := 15) (S := fun w' => True) (ds := []) #[false,false,false,false,false,false,false,false,false,false,false,false,false,false,false] (by kernel_rfl) rfl rfl trivial (fun hHeld => ?_);refine with_tabW keelsonlaw4_DependsMore.tab13 keelsonlaw4_DependsMore.bits13 (fun HT_ HW_ => ?_)
               generalize wr.drew = w61 at HO_0 HO_1 HO_13 HO_14 BK472 HB hHeld ⊢
               refine pure_ (i := 0) (N := some 66) (v := ?_) (a' := ?_) #[true,false,false,false,false,false,false,false,false,false,false,false,false,false,false] rfl rfl (any_of HT_.out (by kernel_rfl)) (fun _ _ _ h => h) (Or.inl ⟨by rfl,?_⟩) ?_ ?_
               rotate_left
               ·intro w'
                go_simp
                with_reducible rfl
               rotate_left
               ·simp only [Act.put,List.setIfInBounds_toArray,List.set_cons_zero,List.set_cons_succ,i64_w,i32_w]
                rfl
               refine pure_ (i := 1) (N := some 67) (v := ?_) (a' := ?_) #[true,true,false,false,false,false,false,false,false,false,false,false,false,false,false] rfl rfl (any_of HT_.out (by kernel_rfl)) (fun _ _ _ h => h) (Or.inl ⟨by rfl,?_⟩) ?_ ?_
               rotate_left
               ·intro w'
                go_simp
                with_reducible rfl
               rotate_left
               ·simp only [Act.put,List.setIfInBounds_toArray,List.set_cons_zero,List.set_cons_succ,i64_w,i32_w]
                rfl
               refine pure_ (i := 2) (N := some 68) (v := ?_) (a' := ?_) #[true,true,true,false,false,false,false,false,false,false,false,false,false,false,false] rfl rfl (any_of HT_.out (by kernel_rfl)) (fun _ _ _ h => h) (Or.inl ⟨by rfl,?_⟩) ?_ ?_
               rotate_left
               ·intro w'
                go_simp
                with_reducible rfl
               rotate_left
               ·simp only [Act.put,List.setIfInBounds_toArray,List.set_cons_zero,List.set_cons_succ,i64_w,i32_w]
                rfl
               refine pure_ (i := 3) (N := some 69) (v := ?_) (a' := ?_) #[true,true,true,true,false,false,false,false,false,false,false,false,false,false,false] rfl rfl (any_of HT_.out (by kernel_rfl)) (fun _ _ _ h => h) (Or.inl ⟨by rfl,?_⟩) ?_ ?_
               rotate_left
               ·intro w'
                go_simp
                with_reducible rfl
               rotate_left
               ·simp only [Act.put,List.setIfInBounds_toArray,List.set_cons_zero,List.set_cons_succ,i64_w,i32_w]
                rfl
               refine pure_ (i := 4) (N := some 70) (v := ?_) (a' := ?_) #[true,true,true,true,true,false,false,false,false,false,false,false,false,false,false] rfl rfl (any_of HT_.out (by kernel_rfl)) (fun _ _ _ h => h) (Or.inl ⟨by rfl,?_⟩) ?_ ?_
               rotate_left
               ·intro w'
                go_simp
                with_reducible rfl
               rotate_left
               ·simp only [Act.put,List.setIfInBounds_toArray,List.set_cons_zero,List.set_cons_succ,i64_w,i32_w]
                rfl
               refine pure_ (i := 5) (N := some 71) (v := undef) (a' := ?_) #[true,true,true,true,true,true,false,false,false,false,false,false,false,false,false] rfl rfl (any_of HT_.out (by kernel_rfl)) (fun _ _ _ h => h) (Or.inr ⟨by rfl,rfl⟩) ?_ ?_
               rotate_left
               ·simp only [Act.put,List.setIfInBounds_toArray,List.set_cons_zero,List.set_cons_succ,i64_w,i32_w]
                rfl
               refine pure_ (i := 6) (N := some 72) (v := undef) (a' := ?_) #[true,true,true,true,true,true,true,false,false,false,false,false,false,false,false] rfl rfl (any_of HT_.out (by kernel_rfl)) (fun _ _ _ h => h) (Or.inr ⟨by rfl,rfl⟩) ?_ ?_
               rotate_left
               ·simp only [Act.put,List.setIfInBounds_toArray,List.set_cons_zero,List.set_cons_succ,i64_w,i32_w]
                rfl
               refine pure_ (i := 7) (N := some 73) (v := undef) (a' := ?_) #[true,true,true,true,true,true,true,true,false,false,false,false,false,false,false] rfl rfl (any_of HT_.out (by kernel_rfl)) (fun _ _ _ h => h) (Or.inr ⟨by rfl,rfl⟩) ?_ ?_
               rotate_left
               ·simp only [Act.put,List.setIfInBounds_toArray,List.set_cons_zero,List.set_cons_succ,i64_w,i32_w]
                rfl
               refine pure_ (i := 8) (N := some 74) (v := undef) (a' := ?_) #[true,true,true,true,true,true,true,true,true,false,false,false,false,false,false] rfl rfl (any_of HT_.out (by kernel_rfl)) (fun _ _ _ h => h) (Or.inr ⟨by rfl,rfl⟩) ?_ ?_
               rotate_left
               ·simp only [Act.put,List.setIfInBounds_toArray,List.set_cons_zero,List.set_cons_succ,i64_w,i32_w]
                rfl
               refine pure_ (i := 9) (N := some 75) (v := undef) (a' := ?_) #[true,true,true,true,true,true,true,true,true,true,false,false,false,false,false] rfl rfl (any_of HT_.out (by kernel_rfl)) (fun _ _ _ h => h) (Or.inr ⟨by rfl,rfl⟩) ?_ ?_
               rotate_left
               ·simp only [Act.put,List.setIfInBounds_toArray,List.set_cons_zero,List.set_cons_succ,i64_w,i32_w]
                rfl
               refine pure_ (i := 10) (N := some 76) (v := undef) (a' := ?_) #[true,true,true,true,true,true,true,true,true,true,true,false,false,false,false] rfl rfl (any_of HT_.out (by kernel_rfl)) (fun _ _ _ h => h) (Or.inr ⟨by rfl,rfl⟩) ?_ ?_
               rotate_left
               ·simp only [Act.put,List.setIfInBounds_toArray,List.set_cons_zero,List.set_cons_succ,i64_w,i32_w]
                rfl
               refine pure_ (i := 11) (N := some 77) (v := undef) (a' := ?_) #[true,true,true,true,true,true,true,true,true,true,true,true,false,false,false] rfl rfl (any_of HT_.out (by kernel_rfl)) (fun _ _ _ h => h) (Or.inr ⟨by rfl,rfl⟩) ?_ ?_
               rotate_left
               ·simp only [Act.put,List.setIfInBounds_toArray,List.set_cons_zero,List.set_cons_succ,i64_w,i32_w]
                rfl
               refine pure_ (i := 12) (N := some 78) (v := undef) (a' := ?_) #[true,true,true,true,true,true,true,true,true,true,true,true,true,false,false] rfl rfl (any_of HT_.out (by kernel_rfl)) (fun _ _ _ h => h) (Or.inr ⟨by rfl,rfl⟩) ?_ ?_
               rotate_left
               ·simp only [Act.put,List.setIfInBounds_toArray,List.set_cons_zero,List.set_cons_succ,i64_w,i32_w]
                rfl
               refine pure_ (i := 13) (N := some 79) (v := undef) (a' := ?_) #[true,true,true,true,true,true,true,true,true,true,true,true,true,true,false] rfl rfl (any_of HT_.out (by kernel_rfl)) (fun _ _ _ h => h) (Or.inr ⟨by rfl,rfl⟩) ?_ ?_
               rotate_left
               ·simp only [Act.put,List.setIfInBounds_toArray,List.set_cons_zero,List.set_cons_succ,i64_w,i32_w]
                rfl
               refine pure_ (i := 14) (N := some 80) (v := ?_) (a' := ?_) #[true,true,true,true,true,true,true,true,true,true,true,true,true,true,true] rfl rfl (any_of HT_.out (by kernel_rfl)) (fun _ _ _ h => h) (Or.inl ⟨by rfl,?_⟩) ?_ ?_
               rotate_left
               ·intro w'
                go_simp
                with_reducible rfl
               rotate_left
               ·simp only [Act.put,List.setIfInBounds_toArray,List.set_cons_zero,List.set_cons_succ,i64_w,i32_w]
                rfl
               refine done_ (done_of HT_.out (by kernel_rfl)) ?_
               try go_wp2
               go_roundg k3
               case measure => have := HJ10.out;have := HK2.out;have := HK3.out;omega
               case rel => exact ⟨(x15_3),(wrap64 (x16_2 + 1)),(by first|rfl|(simp;done)|(simp [*];done)|(simp [qak];done)),(by first|rfl|(simp;done)|(simp [*];done)|(simp [qak];done)),H',⟨by have := HJ10.out;have := HK2.out;have := HK3.out;omega⟩,⟨by (with_reducible repeat (first|apply Kd.V_alloc|apply Kd.V_drewN|apply Kd.V_drew));exact HO_0.out⟩,⟨by (with_reducible repeat (first|apply Kd.V_alloc|apply Kd.V_drewN|apply Kd.V_drew));exact HO_1.out⟩,⟨by (with_reducible repeat (first|apply Kd.R_alloc|apply Kd.R_drewN|apply Kd.R_drew));exact HO_13.out⟩,⟨by (with_reducible repeat (first|apply Kd.R_alloc|apply Kd.R_drewN|apply Kd.R_drew));exact HO_14.out⟩,⟨by (with_reducible repeat (first|refine qag ?_ _|refine qai ?_|refine qaf ?_ _));exact BK472.out⟩,⟨by repeat (first|(with_reducible first|exact HB.out|apply qac|apply qaa|apply qab|refine qad ?_ GE472.out)|exact HB.out)⟩⟩
          ·rw [if_neg c44] at H
           have c44b0 : decide (x16_2 < (t504.length : Int)) = false := decide_eq_false c44
           clear c44
           obtain ⟨y509,hy509⟩ : ∃ y_ : List (List (S39)),y_ = (([] : List (List (S39)))) := ⟨_,rfl⟩
           replace H : (if y509.length + l0.length < 5864062014805 then ((some (y509 ++ l0 : List (List (S39)))).bind fun y512 => (if y512.length + l1.length < 5864062014805 then ((depends_Open.f k2 (y512 ++ l1) l2).bind fun t518 => ((depends_Open.f k2 l1 l2).bind fun t521 => (keelsonlaw4_DependsMore.l2 k2 l0 t489 t518 t521 ([] : List Int) 0))) else (none))) else (none)) = some r := by first|(rw [hy509];with_reducible exact H)|(have H2_ := (Option.bind_some _ _).symm.trans H;rw [hy509];with_reducible exact H2_)|(have H2_ := (Option.bind_some _ _).symm.trans H;with_reducible exact H2_) | with_reducible exact H|(rw [hy509];exact H)|exact H
           have Ny509 := Aside0.mk hy509
           clear hy509
           by_cases c63 : y509.length + l0.length < 5864062014805
           ·rw [if_pos c63] at H
            have LMc63 := Aside0.mk c63
            clear c63
            obtain ⟨y512,hy512⟩ : ∃ y_ : List (List (S39)),y_ = (y509 ++ l0) := ⟨_,rfl⟩
            replace H : (if y512.length + l1.length < 5864062014805 then ((depends_Open.f k2 (y512 ++ l1) l2).bind fun t518 => ((depends_Open.f k2 l1 l2).bind fun t521 => (keelsonlaw4_DependsMore.l2 k2 l0 t489 t518 t521 ([] : List Int) 0))) else (none)) = some r := by first|(rw [hy512];with_reducible exact H)|(have H2_ := (Option.bind_some _ _).symm.trans H;rw [hy512];with_reducible exact H2_)|(have H2_ := (Option.bind_some _ _).symm.trans H;with_reducible exact H2_) | with_reducible exact H|(rw [hy512];exact H)|exact H
            have Ny512 := Aside0.mk hy512
            clear hy512
            by_cases c64 : y512.length + l1.length < 5864062014805
            ·rw [if_pos c64] at H
             have LMc64 := Aside0.mk c64
             clear c64
             obtain ⟨y515,hy515⟩ : ∃ y_ : List (List (S39)),y_ = (y512 ++ l1) := ⟨_,rfl⟩
             replace H : ((depends_Open.f k2 y515 l2).bind fun t518 => ((depends_Open.f k2 l1 l2).bind fun t521 => (keelsonlaw4_DependsMore.l2 k2 l0 t489 t518 t521 ([] : List Int) 0))) = some r := by first|(rw [hy515];with_reducible exact H)|(have H2_ := (Option.bind_some _ _).symm.trans H;rw [hy515];with_reducible exact H2_)|(have H2_ := (Option.bind_some _ _).symm.trans H;with_reducible exact H2_) | with_reducible exact H|(rw [hy515];exact H)|exact H
             have Ny515 := Aside0.mk hy515
             clear hy515
             replace H := Option.bind_eq_some_iff.mp H
             obtain ⟨t518,A650,H⟩ := H
             replace H : ((depends_Open.f k2 l1 l2).bind fun t521 => (keelsonlaw4_DependsMore.l2 k2 l0 t489 t518 t521 ([] : List Int) 0)) = some r := H
             have A65 := Aside0.mk A650
             clear A650
             replace H := Option.bind_eq_some_iff.mp H
             obtain ⟨t521,A660,H⟩ := H
             replace H : (keelsonlaw4_DependsMore.l2 k2 l0 t489 t518 t521 ([] : List Int) 0) = some r := H
             have A66 := Aside0.mk A660
             clear A660
             have H' := Aside0.mk H
             clear H
             obtain ⟨Ao67,co67,eo67⟩ := Kd.R_slice HO_14.out
             subst eo67
             go_wp2_with (first|((with_reducible refine gate_dst (N := 87) rfl ?_);refine Kd.N_lit (Kd.slice 39 k39) _ 48 ?hg (N' := 87) ?hd (xs := ([] : List (List (S39)))) (inner := []) (ok := (fun k_ => ((P0_ k_ ∨ P1_ k_) ∨ w.heap.size ≤ k_) ∧ some k_ ≠ (v490 : Value).ownBlock ∧ some k_ ≠ (.slice Ao67 t504.length co67 : Value).ownBlock ∧ k_ ≠ gb472)) (okp := (fun k_ => ((P0_ k_ ∨ P1_ k_) ∨ w.heap.size ≤ k_) ∧ some k_ ≠ (v490 : Value).ownBlock ∧ some k_ ≠ (.slice Ao67 t504.length co67 : Value).ownBlock ∧ k_ ≠ gb472)) ?hr ?hp (fun _ hk => hk) ((show ∀ k_,wr.heap.size ≤ k_ → (fun k_ => ((P0_ k_ ∨ P1_ k_) ∨ w.heap.size ≤ k_) ∧ some k_ ≠ (v490 : Value).ownBlock ∧ some k_ ≠ (.slice Ao67 t504.length co67 : Value).ownBlock ∧ k_ ≠ gb472) k_ from fun k_ hk => ⟨(.inr (Nat.le_trans (qal (by repeat (first|(with_reducible first|exact HB.out|apply qac|apply qaa|apply qab|refine qad ?_ GE472.out)|exact HB.out))) hk)),Kd.fresh' (Kd.R_lt (by (with_reducible repeat (first|apply Kd.R_alloc|apply Kd.R_drewN|apply Kd.R_drew));exact HO_13.out)) k_ hk,Kd.fresh' (Kd.R_lt (by (with_reducible repeat (first|apply Kd.R_alloc|apply Kd.R_drewN|apply Kd.R_drew));exact HO_14.out)) k_ hk,Kd.freshB (g := gb472) (o := .cells #[.string a3_0,.int .i64 a3_1,.string a3_2] 39 (0,0)) (by (with_reducible repeat (first|refine qag ?_ _|refine qai ?_|refine qaf ?_ _));exact BK472.out) k_ hk⟩) _ (Nat.le_refl _)) (Below.refl _ _) (Nat.le_refl _) (by simp) ?_;(case hd => rfl);(case hg => rfl);(case hr => first|(go_simp;done)|(go_simp;rfl));(case hp => exact (Reps.none _ _));intro v510 w68 ho69 hb hg_ hnew_;clear hg_ hnew_;(first|rw [← Ny509.out] at ho69|(simp only [Int.reduceToNat] at ho69;rw [← Ny509.out] at ho69));have n0_ := Aside0.mk (Kd.V_elder' (by (with_reducible repeat (first|apply Kd.V_alloc|apply Kd.V_drewN|apply Kd.V_drew));exact HO_0.out) (Kd.N_base ho69) hb);have n1_ := Aside0.mk (Kd.V_elder' (by (with_reducible repeat (first|apply Kd.V_alloc|apply Kd.V_drewN|apply Kd.V_drew));exact HO_1.out) (Kd.N_base ho69) hb);have n2_ := Aside0.mk (Kd.R_below (by (with_reducible repeat (first|apply Kd.R_alloc|apply Kd.R_drewN|apply Kd.R_drew));exact HO_13.out) hb);have n3_ := Aside0.mk (Kd.R_below (by (with_reducible repeat (first|apply Kd.R_alloc|apply Kd.R_drewN|apply Kd.R_drew));exact HO_14.out) hb);have n4_ := Aside0.mk (Kd.N_lower ho69 (qal (by repeat (first|(with_reducible first|exact HB.out|apply qac|apply qaa|apply qab|refine qad ?_ GE472.out)|exact HB.out))));have n5_ := Aside0.mk (qap (g := gb472) (o := .cells #[.string a3_0,.int .i64 a3_1,.string a3_2] 39 (0,0)) (by (with_reducible repeat (first|refine qag ?_ _|refine qai ?_|refine qaf ?_ _));exact BK472.out) hb);have n6_ := Aside0.mk (qao (by repeat (first|(with_reducible first|exact HB.out|apply qac|apply qaa|apply qab|refine qad ?_ GE472.out)|exact HB.out)) hb);clear HO_0;clear HO_1;clear HO_13;clear HO_14;clear BK472;clear HB;have HO_0 := n0_;have HO_1 := n1_;have HO_13 := n2_;have HO_14 := n3_;have HO511 := n4_;have BK472 := n5_;have HB := n6_;clear n0_ n1_ n2_ n3_ n4_ n5_ n6_;clear hb ho69)|((with_reducible refine gate_builtin (b := .append) (xs := #[.tmp 87,.tmp 88]) rfl ?_);at_builtin;refine Kd.N_append_rows (Kd.slice 39 k39) (w0 := w) w.heap.size rfl (.tmp 87) (.tmp 88) 23 48 (.slice none 0 0) 24 rfl Tryz.underlying23 info48 rfl (by decide) (by omega) v510 y509 l0 _ _ _ (fun k_ => ((P0_ k_ ∨ P1_ k_) ∨ w.heap.size ≤ k_) ∧ some k_ ≠ (v490 : Value).ownBlock ∧ some k_ ≠ (.slice Ao67 t504.length co67 : Value).ownBlock ∧ k_ ≠ gb472) (fun k_ => ((fun k_ => ((P0_ k_ ∨ P1_ k_) ∨ w.heap.size ≤ k_) ∧ some k_ ≠ (v490 : Value).ownBlock ∧ some k_ ≠ (.slice Ao67 t504.length co67 : Value).ownBlock ∧ k_ ≠ gb472)) k_ ∧ some k_ ≠ (v510 : Value).ownBlock) rfl rfl ?aO ?aR (fun _ hk => hk) ?aF ?aB ?aS ?aL ?_;(case aR => exact (by skip;exact Kd.V_F (Kd.V_mono (ok' := (fun k_ => ((fun k_ => ((P0_ k_ ∨ P1_ k_) ∨ w.heap.size ≤ k_) ∧ some k_ ≠ (v490 : Value).ownBlock ∧ some k_ ≠ (.slice Ao67 t504.length co67 : Value).ownBlock ∧ k_ ≠ gb472)) k_ ∧ some k_ ≠ (v510 : Value).ownBlock)) (HO_0.out) (fun k_ hk => ⟨⟨hk.1.1,⟨hk.1.2.1,⟨hk.1.2.2.1,hk.1.2.2.2⟩⟩⟩,hk.2⟩))));(case aB => exact (by repeat (first|(with_reducible first|exact HB.out|apply qac|apply qaa|apply qab|refine qad ?_ GE472.out)|exact HB.out)));(case aF => exact (fun k_ hk => ⟨(.inr (Nat.le_trans (qal (by repeat (first|(with_reducible first|exact HB.out|apply qac|apply qaa|apply qab|refine qad ?_ GE472.out)|exact HB.out))) hk)),Kd.fresh' (Kd.R_lt (by (with_reducible repeat (first|apply Kd.R_alloc|apply Kd.R_drewN|apply Kd.R_drew));exact HO_13.out)) k_ hk,Kd.fresh' (Kd.R_lt (by (with_reducible repeat (first|apply Kd.R_alloc|apply Kd.R_drewN|apply Kd.R_drew));exact HO_14.out)) k_ hk,Kd.freshB (g := gb472) (o := .cells #[.string a3_0,.int .i64 a3_1,.string a3_2] 39 (0,0)) (by (with_reducible repeat (first|refine qag ?_ _|refine qai ?_|refine qaf ?_ _));exact BK472.out) k_ hk⟩));(case aO => exact (by (with_reducible repeat (first|apply Kd.N_alloc|apply Kd.N_drewN|apply Kd.N_drew));exact HO511.out));(case aS => exact (qal (by repeat (first|(with_reducible first|exact HB.out|apply qac|apply qaa|apply qab|refine qad ?_ GE472.out)|exact HB.out))));(case aL => have := LMc63.out;omega);intro v513 w70 ho hb hg hat;rw [← Ny512.out] at ho;have n0_ := Aside0.mk (Kd.V_afterv (ok := (fun k_ => ((P0_ k_ ∨ P1_ k_) ∨ w.heap.size ≤ k_) ∧ some k_ ≠ (v490 : Value).ownBlock ∧ some k_ ≠ (.slice Ao67 t504.length co67 : Value).ownBlock ∧ k_ ≠ gb472)) (by (with_reducible repeat (first|apply Kd.V_alloc|apply Kd.V_drewN|apply Kd.V_drew));exact HO_0.out) hg hat);have n1_ := Aside0.mk (Kd.V_afterv (ok := (fun k_ => ((P0_ k_ ∨ P1_ k_) ∨ w.heap.size ≤ k_) ∧ some k_ ≠ (v490 : Value).ownBlock ∧ some k_ ≠ (.slice Ao67 t504.length co67 : Value).ownBlock ∧ k_ ≠ gb472)) (by (with_reducible repeat (first|apply Kd.V_alloc|apply Kd.V_drewN|apply Kd.V_drew));exact HO_1.out) hg hat);have n2_ := Aside0.mk (Kd.R_over' (by (with_reducible repeat (first|apply Kd.R_alloc|apply Kd.R_drewN|apply Kd.R_drew));exact HO_13.out) (Kd.N_typed (by (with_reducible repeat (first|apply Kd.N_alloc|apply Kd.N_drewN|apply Kd.N_drew));exact HO511.out)) (by decide) hg);have n3_ := Aside0.mk (Kd.R_over' (by (with_reducible repeat (first|apply Kd.R_alloc|apply Kd.R_drewN|apply Kd.R_drew));exact HO_14.out) (Kd.N_typed (by (with_reducible repeat (first|apply Kd.N_alloc|apply Kd.N_drewN|apply Kd.N_drew));exact HO511.out)) (by decide) hg);have n4_ := Aside0.mk (blk_grown (g := gb472) (o := .cells #[.string a3_0,.int .i64 a3_1,.string a3_2] 39 (0,0)) (by (with_reducible repeat (first|refine qag ?_ _|refine qai ?_|refine qaf ?_ _));exact BK472.out) hg (Kd.N_ne HO511.out BK472.out (by decide)));have n5_ := Aside0.mk (hb);have n6_ := Aside0.mk (ho);clear HO_0;clear HO_1;clear HO_13;clear HO_14;clear BK472;clear HB;clear HO511;have HO_0 := n0_;have HO_1 := n1_;have HO_13 := n2_;have HO_14 := n3_;have BK472 := n4_;have HB := n5_;have HO514 := n6_;clear n0_ n1_ n2_ n3_ n4_ n5_ n6_;clear ho hb hg hat)|((with_reducible refine gate_builtin (b := .append) (xs := #[.tmp 89,.tmp 90]) rfl ?_);at_builtin;refine Kd.N_append_rows (Kd.slice 39 k39) (w0 := w) w.heap.size rfl (.tmp 89) (.tmp 90) 23 48 (.slice none 0 0) 24 rfl Tryz.underlying23 info48 rfl (by decide) (by omega) v513 y512 l1 _ _ _ (fun k_ => ((P0_ k_ ∨ P1_ k_) ∨ w.heap.size ≤ k_) ∧ some k_ ≠ (v490 : Value).ownBlock ∧ some k_ ≠ (.slice Ao67 t504.length co67 : Value).ownBlock ∧ k_ ≠ gb472) (fun k_ => ((fun k_ => ((P0_ k_ ∨ P1_ k_) ∨ w.heap.size ≤ k_) ∧ some k_ ≠ (v490 : Value).ownBlock ∧ some k_ ≠ (.slice Ao67 t504.length co67 : Value).ownBlock ∧ k_ ≠ gb472)) k_ ∧ some k_ ≠ (v513 : Value).ownBlock) rfl rfl ?aO ?aR (fun _ hk => hk) ?aF ?aB ?aS ?aL ?_;(case aR => exact (by skip;exact Kd.V_F (Kd.V_mono (ok' := (fun k_ => ((fun k_ => ((P0_ k_ ∨ P1_ k_) ∨ w.heap.size ≤ k_) ∧ some k_ ≠ (v490 : Value).ownBlock ∧ some k_ ≠ (.slice Ao67 t504.length co67 : Value).ownBlock ∧ k_ ≠ gb472)) k_ ∧ some k_ ≠ (v513 : Value).ownBlock)) (HO_1.out) (fun k_ hk => ⟨⟨hk.1.1,⟨hk.1.2.1,⟨hk.1.2.2.1,hk.1.2.2.2⟩⟩⟩,hk.2⟩))));(case aB => exact (by repeat (first|(with_reducible first|exact HB.out|apply qac|apply qaa|apply qab|refine qad ?_ GE472.out)|exact HB.out)));(case aF => exact (fun k_ hk => ⟨(.inr (Nat.le_trans (qal (by repeat (first|(with_reducible first|exact HB.out|apply qac|apply qaa|apply qab|refine qad ?_ GE472.out)|exact HB.out))) hk)),Kd.fresh' (Kd.R_lt (by (with_reducible repeat (first|apply Kd.R_alloc|apply Kd.R_drewN|apply Kd.R_drew));exact HO_13.out)) k_ hk,Kd.fresh' (Kd.R_lt (by (with_reducible repeat (first|apply Kd.R_alloc|apply Kd.R_drewN|apply Kd.R_drew));exact HO_14.out)) k_ hk,Kd.freshB (g := gb472) (o := .cells #[.string a3_0,.int .i64 a3_1,.string a3_2] 39 (0,0)) (by (with_reducible repeat (first|refine qag ?_ _|refine qai ?_|refine qaf ?_ _));exact BK472.out) k_ hk⟩));(case aO => exact (by (with_reducible repeat (first|apply Kd.N_alloc|apply Kd.N_drewN|apply Kd.N_drew));exact HO514.out));(case aS => exact (qal (by repeat (first|(with_reducible first|exact HB.out|apply qac|apply qaa|apply qab|refine qad ?_ GE472.out)|exact HB.out))));(case aL => have := LMc64.out;omega);intro v516 w71 ho hb hg hat;rw [← Ny515.out] at ho;have n0_ := Aside0.mk (Kd.V_afterv (ok := (fun k_ => ((P0_ k_ ∨ P1_ k_) ∨ w.heap.size ≤ k_) ∧ some k_ ≠ (v490 : Value).ownBlock ∧ some k_ ≠ (.slice Ao67 t504.length co67 : Value).ownBlock ∧ k_ ≠ gb472)) (by (with_reducible repeat (first|apply Kd.V_alloc|apply Kd.V_drewN|apply Kd.V_drew));exact HO_0.out) hg hat);have n1_ := Aside0.mk (Kd.V_afterv (ok := (fun k_ => ((P0_ k_ ∨ P1_ k_) ∨ w.heap.size ≤ k_) ∧ some k_ ≠ (v490 : Value).ownBlock ∧ some k_ ≠ (.slice Ao67 t504.length co67 : Value).ownBlock ∧ k_ ≠ gb472)) (by (with_reducible repeat (first|apply Kd.V_alloc|apply Kd.V_drewN|apply Kd.V_drew));exact HO_1.out) hg hat);have n2_ := Aside0.mk (Kd.R_over' (by (with_reducible repeat (first|apply Kd.R_alloc|apply Kd.R_drewN|apply Kd.R_drew));exact HO_13.out) (Kd.N_typed (by (with_reducible repeat (first|apply Kd.N_alloc|apply Kd.N_drewN|apply Kd.N_drew));exact HO514.out)) (by decide) hg);have n3_ := Aside0.mk (Kd.R_over' (by (with_reducible repeat (first|apply Kd.R_alloc|apply Kd.R_drewN|apply Kd.R_drew));exact HO_14.out) (Kd.N_typed (by (with_reducible repeat (first|apply Kd.N_alloc|apply Kd.N_drewN|apply Kd.N_drew));exact HO514.out)) (by decide) hg);have n4_ := Aside0.mk (blk_grown (g := gb472) (o := .cells #[.string a3_0,.int .i64 a3_1,.string a3_2] 39 (0,0)) (by (with_reducible repeat (first|refine qag ?_ _|refine qai ?_|refine qaf ?_ _));exact BK472.out) hg (Kd.N_ne HO514.out BK472.out (by decide)));have n5_ := Aside0.mk (hb);have n6_ := Aside0.mk (ho);clear HO_0;clear HO_1;clear HO_13;clear HO_14;clear BK472;clear HB;clear HO514;have HO_0 := n0_;have HO_1 := n1_;have HO_13 := n2_;have HO_14 := n3_;have BK472 := n4_;have HB := n5_;have HO517 := n6_;clear n0_ n1_ n2_ n3_ n4_ n5_ n6_;clear ho hb hg hat;obtain ⟨Ao72,co72,eo72⟩ := Kd.N_slice HO517.out;subst eo72)|((with_reducible refine qaj (f := 22) rfl ?_);refine goesL_ (some 93) rfl rfl Tryz.func22 (by kernel_rfl) rfl #[.slice Ao72 y515.length co72,.slice A2 l2.length c2] rfl (by first|rfl|(simp only [List.map_toArray,List.map_cons,List.map_nil,List.length_drop,List.length_take];rfl)|simp only [List.map_toArray,List.map_cons,List.map_nil]) ?_;(with_reducible refine (depends_Open.calls k2 _ _ y515 _ _ l2 t518 _ (by first|exact hG|exact GL.below hG (by repeat (first|(with_reducible first|exact HB.out|apply qac|apply qaa|apply qab|refine qad ?_ GE472.out)|exact HB.out)))  ?side1 ?side2 ?side3 ?side4 A65.out).mono ?_);(case side1 => repeat (first|exact (Kd.N_reads' HO517.out).2.2|(with_reducible refine Kd.C_alloc ?_ _)|(with_reducible refine Kd.C_drewN ?_ _)|(with_reducible refine Kd.C_drew ?_)));(case side2 => exact (Kd.N_reads' HO517.out).2.1);(case side3 => repeat (first|exact (Kd.C_below HR2.out HB.out)|(with_reducible refine Kd.C_alloc ?_ _)|(with_reducible refine Kd.C_drewN ?_ _)|(with_reducible refine Kd.C_drew ?_)));(case side4 => exact HC2.out);rintro e w73 ⟨v519,rfl,ho0,hb⟩;refine ⟨_,rfl,?_⟩;have n0_ := Aside0.mk (Kd.V_elder' (by (with_reducible repeat (first|apply Kd.V_alloc|apply Kd.V_drewN|apply Kd.V_drew));exact HO_0.out) (Kd.R_base ho0) hb);have n1_ := Aside0.mk (Kd.V_elder' (by (with_reducible repeat (first|apply Kd.V_alloc|apply Kd.V_drewN|apply Kd.V_drew));exact HO_1.out) (Kd.R_base ho0) hb);have n2_ := Aside0.mk (Kd.R_elder' (by (with_reducible repeat (first|apply Kd.R_alloc|apply Kd.R_drewN|apply Kd.R_drew));exact HO_13.out) (Kd.R_base ho0) hb);have n3_ := Aside0.mk (Kd.R_elder' (by (with_reducible repeat (first|apply Kd.R_alloc|apply Kd.R_drewN|apply Kd.R_drew));exact HO_14.out) (Kd.R_base ho0) hb);have n4_ := Aside0.mk (Kd.N_elder' (by (with_reducible repeat (first|apply Kd.N_alloc|apply Kd.N_drewN|apply Kd.N_drew));exact HO517.out) (Kd.R_base ho0) hb);have n5_ := Aside0.mk (Kd.R_lower (Kd.R_new' (Kd.R_new' (Kd.R_newM (M := fun k_ => (w.heap.size ≤ k_)) ho0 (qal (by repeat (first|(with_reducible first|exact HB.out|apply qac|apply qaa|apply qab|refine qad ?_ GE472.out)|exact HB.out))) (fun k_ h_ => h_)) (Kd.R_lt (by (with_reducible repeat (first|apply Kd.R_alloc|apply Kd.R_drewN|apply Kd.R_drew));exact HO_13.out))) (Kd.R_lt (by (with_reducible repeat (first|apply Kd.R_alloc|apply Kd.R_drewN|apply Kd.R_drew));exact HO_14.out))) (qal (by repeat (first|(with_reducible first|exact HB.out|apply qac|apply qaa|apply qab|refine qad ?_ GE472.out)|exact HB.out))));have n6_ := Aside0.mk (qap (g := gb472) (o := .cells #[.string a3_0,.int .i64 a3_1,.string a3_2] 39 (0,0)) (by (with_reducible repeat (first|refine qag ?_ _|refine qai ?_|refine qaf ?_ _));exact BK472.out) hb);have n7_ := Aside0.mk (qao (by repeat (first|(with_reducible first|exact HB.out|apply qac|apply qaa|apply qab|refine qad ?_ GE472.out)|exact HB.out)) hb);clear HO_0;clear HO_1;clear HO_13;clear HO_14;clear HO517;clear BK472;clear HB;have HO_0 := n0_;have HO_1 := n1_;have HO_13 := n2_;have HO_14 := n3_;have HO517 := n4_;have HO520 := n5_;have BK472 := n6_;have HB := n7_;clear n0_ n1_ n2_ n3_ n4_ n5_ n6_ n7_;(try clear hb);(try clear hb2);(try clear hk);(try clear hi);(try clear ho0))|((with_reducible refine qaj (f := 22) rfl ?_);refine goesL_ (some 96) rfl rfl Tryz.func22 (by kernel_rfl) rfl #[.slice A1 l1.length c1,.slice A2 l2.length c2] rfl (by first|rfl|(simp only [List.map_toArray,List.map_cons,List.map_nil,List.length_drop,List.length_take];rfl)|simp only [List.map_toArray,List.map_cons,List.map_nil]) ?_;(with_reducible refine (depends_Open.calls k2 _ _ l1 _ _ l2 t521 _ (by first|exact hG|exact GL.below hG (by repeat (first|(with_reducible first|exact HB.out|apply qac|apply qaa|apply qab|refine qad ?_ GE472.out)|exact HB.out)))  ?side1 ?side2 ?side3 ?side4 A66.out).mono ?_);(case side1 => repeat (first|exact (Kd.V_reads' HO_1.out).2.2|(with_reducible refine Kd.C_alloc ?_ _)|(with_reducible refine Kd.C_drewN ?_ _)|(with_reducible refine Kd.C_drew ?_)));(case side2 => exact (Kd.V_reads' HO_1.out).2.1);(case side3 => repeat (first|exact (Kd.C_below HR2.out HB.out)|(with_reducible refine Kd.C_alloc ?_ _)|(with_reducible refine Kd.C_drewN ?_ _)|(with_reducible refine Kd.C_drew ?_)));(case side4 => exact HC2.out);rintro e w74 ⟨v522,rfl,ho0,hb⟩;refine ⟨_,rfl,?_⟩;have n0_ := Aside0.mk (Kd.V_elder' (by (with_reducible repeat (first|apply Kd.V_alloc|apply Kd.V_drewN|apply Kd.V_drew));exact HO_0.out) (Kd.R_base ho0) hb);have n1_ := Aside0.mk (Kd.V_elder' (by (with_reducible repeat (first|apply Kd.V_alloc|apply Kd.V_drewN|apply Kd.V_drew));exact HO_1.out) (Kd.R_base ho0) hb);have n2_ := Aside0.mk (Kd.R_elder' (by (with_reducible repeat (first|apply Kd.R_alloc|apply Kd.R_drewN|apply Kd.R_drew));exact HO_13.out) (Kd.R_base ho0) hb);have n3_ := Aside0.mk (Kd.R_elder' (by (with_reducible repeat (first|apply Kd.R_alloc|apply Kd.R_drewN|apply Kd.R_drew));exact HO_14.out) (Kd.R_base ho0) hb);have n4_ := Aside0.mk (Kd.N_elder' (by (with_reducible repeat (first|apply Kd.N_alloc|apply Kd.N_drewN|apply Kd.N_drew));exact HO517.out) (Kd.R_base ho0) hb);have n5_ := Aside0.mk (Kd.R_elder' (by (with_reducible repeat (first|apply Kd.R_alloc|apply Kd.R_drewN|apply Kd.R_drew));exact HO520.out) (Kd.R_base ho0) hb);have n6_ := Aside0.mk (Kd.R_lower (Kd.R_new' (Kd.R_new' (Kd.R_new' (Kd.R_newM (M := fun k_ => (w.heap.size ≤ k_)) ho0 (qal (by repeat (first|(with_reducible first|exact HB.out|apply qac|apply qaa|apply qab|refine qad ?_ GE472.out)|exact HB.out))) (fun k_ h_ => h_)) (Kd.R_lt (by (with_reducible repeat (first|apply Kd.R_alloc|apply Kd.R_drewN|apply Kd.R_drew));exact HO_13.out))) (Kd.R_lt (by (with_reducible repeat (first|apply Kd.R_alloc|apply Kd.R_drewN|apply Kd.R_drew));exact HO_14.out))) (Kd.R_lt (by (with_reducible repeat (first|apply Kd.R_alloc|apply Kd.R_drewN|apply Kd.R_drew));exact HO520.out))) (qal (by repeat (first|(with_reducible first|exact HB.out|apply qac|apply qaa|apply qab|refine qad ?_ GE472.out)|exact HB.out))));have n7_ := Aside0.mk (qap (g := gb472) (o := .cells #[.string a3_0,.int .i64 a3_1,.string a3_2] 39 (0,0)) (by (with_reducible repeat (first|refine qag ?_ _|refine qai ?_|refine qaf ?_ _));exact BK472.out) hb);have n8_ := Aside0.mk (qao (by repeat (first|(with_reducible first|exact HB.out|apply qac|apply qaa|apply qab|refine qad ?_ GE472.out)|exact HB.out)) hb);clear HO_0;clear HO_1;clear HO_13;clear HO_14;clear HO517;clear HO520;clear BK472;clear HB;have HO_0 := n0_;have HO_1 := n1_;have HO_13 := n2_;have HO_14 := n3_;have HO517 := n4_;have HO520 := n5_;have HO523 := n6_;have BK472 := n7_;have HB := n8_;clear n0_ n1_ n2_ n3_ n4_ n5_ n6_ n7_ n8_;(try clear hb);(try clear hb2);(try clear hk);(try clear hi);(try clear ho0)))
             go_loopg [19,20] k2 (fun kq v19 v20 w' => ∃ (x19_3 : List Int) (x20_3 : Int),v20 = .int .i64 x20_3 ∧ Aside0 (keelsonlaw4_DependsMore.l2 kq l0 t489 t518 t521 x19_3 x20_3 = some r) ∧ Aside0 (kq ≤ k2) ∧ Aside0 (Kd.V (Kd.slice 39 k39) 48 w' w.heap.size (fun k_ => ((P0_ k_ ∨ P1_ k_) ∨ w.heap.size ≤ k_) ∧ some k_ ≠ (v490 : Value).ownBlock ∧ some k_ ≠ (v519 : Value).ownBlock ∧ some k_ ≠ (v522 : Value).ownBlock ∧ some k_ ≠ (v19 : Value).ownBlock ∧ k_ ≠ gb472) (.slice A0 l0.length c0) l0) ∧ Aside0 (Kd.R (Kd.int .i64) 3 w' w.heap.size (fun k_ => (w.heap.size ≤ k_) ∧ some k_ ≠ (v519 : Value).ownBlock ∧ some k_ ≠ (v522 : Value).ownBlock ∧ some k_ ≠ (v19 : Value).ownBlock) v490 t489) ∧ Aside0 (Kd.R (Kd.int .i64) 3 w' w.heap.size (fun k_ => (w.heap.size ≤ k_) ∧ some k_ ≠ (v490 : Value).ownBlock ∧ some k_ ≠ (v522 : Value).ownBlock ∧ some k_ ≠ (v19 : Value).ownBlock) v519 t518) ∧ Aside0 (Kd.R (Kd.int .i64) 3 w' w.heap.size (fun k_ => (w.heap.size ≤ k_) ∧ some k_ ≠ (v490 : Value).ownBlock ∧ some k_ ≠ (v519 : Value).ownBlock ∧ some k_ ≠ (v19 : Value).ownBlock) v522 t521) ∧ Aside0 (Kd.R (Kd.int .i64) 3 w' w.heap.size (fun k_ => (w.heap.size ≤ k_) ∧ some k_ ≠ (v490 : Value).ownBlock ∧ some k_ ≠ (v519 : Value).ownBlock ∧ some k_ ≠ (v522 : Value).ownBlock) v19 x19_3) ∧ Aside0 (w'.heap[gb472]? = some (.cells #[.string a3_0,.int .i64 a3_1,.string a3_2] 39 (0,0))) ∧ Aside0 (Below w.heap.size w w'))
             case atStart => exact ⟨(([] : List Int)),(0),(by first|rfl|(simp;done)|(simp [*];done)|(simp [qak];done)),H',⟨Nat.le_refl _⟩,⟨by (with_reducible repeat (first|apply Kd.V_alloc|apply Kd.V_drewN|apply Kd.V_drew));exact Kd.V_mono HO_0.out (fun _ hk => ⟨hk.1.1.1.1,⟨hk.1.1.1.2.1,⟨hk.1.2,⟨hk.2,⟨(by simp [Value.ownBlock]),hk.1.1.1.2.2.2⟩⟩⟩⟩⟩)⟩,⟨by (with_reducible repeat (first|apply Kd.R_alloc|apply Kd.R_drewN|apply Kd.R_drew));exact Kd.R_mono HO_13.out (fun _ hk => ⟨hk.1.1.1,⟨hk.1.2,⟨hk.2,(by simp [Value.ownBlock])⟩⟩⟩)⟩,⟨by (with_reducible repeat (first|apply Kd.R_alloc|apply Kd.R_drewN|apply Kd.R_drew));exact Kd.R_mono HO520.out (fun _ hk => ⟨hk.1.1.1.1,⟨hk.1.1.2,⟨hk.2,(by simp [Value.ownBlock])⟩⟩⟩)⟩,⟨by (with_reducible repeat (first|apply Kd.R_alloc|apply Kd.R_drewN|apply Kd.R_drew));exact Kd.R_mono HO523.out (fun _ hk => ⟨hk.1.1.1.1,⟨hk.1.1.2,⟨hk.2,(by simp [Value.ownBlock])⟩⟩⟩)⟩,⟨by first|exact Kd.R_nil _ _ _ _ _|exact Kd.N_nil _ _ _ _ _|exact Kd.V_nil _ _ _ _ _|exact Kd.Q_nil _ _ _ _ _|exact Kd.S_nil _ _ _ _ _⟩,⟨by (with_reducible repeat (first|refine qag ?_ _|refine qai ?_|refine qaf ?_ _));exact BK472.out⟩,⟨by repeat (first|(with_reducible first|exact HB.out|apply qac|apply qaa|apply qab|refine qad ?_ GE472.out)|exact HB.out)⟩⟩
             case round =>
              clear H'
              try clear c1
              try clear c2
              try clear p2
              try clear c4
              try clear c5
              try clear p5
              try clear q5
              try clear hx5
              try clear c6
              try clear p6
              try clear c22
              try clear c44
              try clear c44b0
              try clear c46
              try clear c46b0
              try clear c47
              try clear c48
              try clear c49
              try clear c50
              try clear c50b0
              try clear c50b1
              try clear p50
              try clear q50
              try clear hx50
              try clear c58
              try clear c58b0
              try clear c63
              try clear c64
              try clear p64
              try clear hx507_0
              try clear hx508_0
              try clear p507
              try clear p508
              try clear q507
              try clear q508
              obtain ⟨x19_3,x20_3,rfl,HA,HK3,HO_0,HO_13,HO_17,HO_18,HO_19,BK472,HB⟩ := hrel
              cases gk with
              | zero => exact absurd HA.out (by simp [keelsonlaw4_DependsMore.l2])
              | succ k3 =>
               have H := HA.out
               clear HA
               simp only [keelsonlaw4_DependsMore.l2] at H
               by_cases c75 : x20_3 < (t489.length : Int)
               ·rw [if_pos c75] at H
                have c75b0 : decide (x20_3 < (t489.length : Int)) = true := decide_eq_true c75
                clear c75
                by_cases c76 : 0 ≤ x20_3
                ·rw [if_pos c76] at H
                 have c76b0 : decide (0 ≤ x20_3) = true := decide_eq_true c76
                 clear c76
                 obtain ⟨y525,hy525⟩ : ∃ y_ : List Int,y_ = (([rd t489 x20_3] : List Int)) := ⟨_,rfl⟩
                 replace H : (if x19_3.length + y525.length < 17592186044416 then (keelsonlaw4_DependsMore.l2 k3 l0 t489 t518 t521 (x19_3 ++ y525) (wrap64 (x20_3 + 1))) else (none)) = some r := by first|(rw [hy525];with_reducible exact H)|(have H2_ := (Option.bind_some _ _).symm.trans H;rw [hy525];with_reducible exact H2_)|(have H2_ := (Option.bind_some _ _).symm.trans H;with_reducible exact H2_) | with_reducible exact H|(rw [hy525];exact H)|exact H
                 have Ny525 := Aside0.mk hy525
                 clear hy525
                 by_cases c77 : x19_3.length + y525.length < 17592186044416
                 ·rw [if_pos c77] at H
                  have LMc77 := Aside0.mk c77
                  clear c77
                  obtain ⟨y528,hy528⟩ : ∃ y_ : List Int,y_ = (x19_3 ++ y525) := ⟨_,rfl⟩
                  replace H : (keelsonlaw4_DependsMore.l2 k3 l0 t489 t518 t521 y528 (wrap64 (x20_3 + 1))) = some r := by first|(rw [hy528];with_reducible exact H)|(have H2_ := (Option.bind_some _ _).symm.trans H;rw [hy528];with_reducible exact H2_)|(have H2_ := (Option.bind_some _ _).symm.trans H;with_reducible exact H2_) | with_reducible exact H|(rw [hy528];exact H)|exact H
                  have Ny528 := Aside0.mk hy528
                  clear hy528
                  have H' := Aside0.mk H
                  clear H
                  obtain ⟨Ao78,co78,eo78⟩ := Kd.R_slice HO_13.out
                  subst eo78
                  have p524 : 0 ≤ (x20_3 : Int) := of_decide_eq_true (by assumption)
                  have q524 : x20_3 < (t489.length : Int) := of_decide_eq_true (by assumption)
                  obtain ⟨ad524,e524,hx524_0⟩ := Kd.at_int (Kd.R_reads' HO_13.out).2.2 x20_3 p524 q524
                  cases e524
                  replace p524 := eq_true p524
                  replace q524 := eq_true q524
                  go_wp2_with (first|((with_reducible refine gate_dst (N := 108) rfl ?_);refine Kd.R_lit (Kd.int .i64) _ 3 ?hg (N := 108) ?hd (xs := ([rd t489 x20_3] : List Int)) (inner := [.int .i64 (rd t489 x20_3)]) (ok := fun _ => True) (okp := fun _ => True) ?hr ?hp (fun _ hk => hk) trivial (Below.refl _ _) (Nat.le_refl _) (by simp) ?_;(case hd => rfl);(case hg => rfl);(case hr => first|(go_simp;done)|(go_simp;rfl));(case hp => exact (Reps.one (show Kd.M (Kd.int .i64) _ _ _ (rd t489 x20_3) [.int .i64 (rd t489 x20_3)] from rfl) (Reps.none _ _)));intro v526 w79 ho80 hb hg_ hnew_;clear hg_ hnew_;(first|rw [← Ny525.out] at ho80|(simp only [Int.reduceToNat] at ho80;rw [← Ny525.out] at ho80));have n0_ := Aside0.mk (Kd.V_elder' (by (with_reducible repeat (first|apply Kd.V_alloc|apply Kd.V_drewN|apply Kd.V_drew));exact HO_0.out) (Kd.R_base ho80) hb);have n1_ := Aside0.mk (Kd.R_elder' (by (with_reducible repeat (first|apply Kd.R_alloc|apply Kd.R_drewN|apply Kd.R_drew));exact HO_13.out) (Kd.R_base ho80) hb);have n2_ := Aside0.mk (Kd.R_elder' (by (with_reducible repeat (first|apply Kd.R_alloc|apply Kd.R_drewN|apply Kd.R_drew));exact HO_17.out) (Kd.R_base ho80) hb);have n3_ := Aside0.mk (Kd.R_elder' (by (with_reducible repeat (first|apply Kd.R_alloc|apply Kd.R_drewN|apply Kd.R_drew));exact HO_18.out) (Kd.R_base ho80) hb);have n4_ := Aside0.mk (Kd.R_elder' (by (with_reducible repeat (first|apply Kd.R_alloc|apply Kd.R_drewN|apply Kd.R_drew));exact HO_19.out) (Kd.R_base ho80) hb);have n5_ := Aside0.mk (Kd.R_lower (Kd.R_new' (Kd.R_new' (Kd.R_new' (Kd.R_new' (Kd.R_newM (M := fun k_ => (w.heap.size ≤ k_)) ho80 (qal (by repeat (first|(with_reducible first|exact HB.out|apply qac|apply qaa|apply qab|refine qad ?_ GE472.out)|exact HB.out))) (fun k_ h_ => h_)) (Kd.R_lt (by (with_reducible repeat (first|apply Kd.R_alloc|apply Kd.R_drewN|apply Kd.R_drew));exact HO_13.out))) (Kd.R_lt (by (with_reducible repeat (first|apply Kd.R_alloc|apply Kd.R_drewN|apply Kd.R_drew));exact HO_17.out))) (Kd.R_lt (by (with_reducible repeat (first|apply Kd.R_alloc|apply Kd.R_drewN|apply Kd.R_drew));exact HO_18.out))) (Kd.R_lt (by (with_reducible repeat (first|apply Kd.R_alloc|apply Kd.R_drewN|apply Kd.R_drew));exact HO_19.out))) (qal (by repeat (first|(with_reducible first|exact HB.out|apply qac|apply qaa|apply qab|refine qad ?_ GE472.out)|exact HB.out))));have n6_ := Aside0.mk (qap (g := gb472) (o := .cells #[.string a3_0,.int .i64 a3_1,.string a3_2] 39 (0,0)) (by (with_reducible repeat (first|refine qag ?_ _|refine qai ?_|refine qaf ?_ _));exact BK472.out) hb);have n7_ := Aside0.mk (qao (by repeat (first|(with_reducible first|exact HB.out|apply qac|apply qaa|apply qab|refine qad ?_ GE472.out)|exact HB.out)) hb);clear HO_0;clear HO_13;clear HO_17;clear HO_18;clear HO_19;clear BK472;clear HB;have HO_0 := n0_;have HO_13 := n1_;have HO_17 := n2_;have HO_18 := n3_;have HO_19 := n4_;have HO527 := n5_;have BK472 := n6_;have HB := n7_;clear n0_ n1_ n2_ n3_ n4_ n5_ n6_ n7_;clear hb ho80;obtain ⟨Ao82,co82,eo82⟩ := Kd.R_slice HO527.out;subst eo82)|((with_reducible refine gate_builtin (b := .append) (xs := #[.tmp 103,.tmp 108]) rfl ?_);at_builtin;refine Kd.R_append_rows (Kd.int .i64) (w0 := w) w.heap.size rfl (.tmp 103) (.tmp 108) 42 3 (.int .i64 0) 8 rfl Tryz.underlying42 info3 rfl (by decide) (by omega) u19 x19_3 y525 _ _ _ (fun k_ => (w.heap.size ≤ k_) ∧ some k_ ≠ (.slice (some ad524) t489.length co78 : Value).ownBlock ∧ some k_ ≠ (v519 : Value).ownBlock ∧ some k_ ≠ (v522 : Value).ownBlock ∧ some k_ ≠ (.slice Ao82 y525.length co82 : Value).ownBlock) (fun _ => False) rfl rfl ?aO ?aR (fun _ _ h => h) (fun _ h => h.elim) ?aF ?aB ?aS ?aL ?_;(case aR => repeat (first|exact (Kd.R_reads' HO527.out).2.2|(with_reducible refine Kd.C_alloc ?_ _)|(with_reducible refine Kd.C_drewN ?_ _)|(with_reducible refine Kd.C_drew ?_)));(case aB => exact (by repeat (first|(with_reducible first|exact HB.out|apply qac|apply qaa|apply qab|refine qad ?_ GE472.out)|exact HB.out)));(case aF => exact (fun k_ hk => ⟨(Nat.le_trans (qal (by repeat (first|(with_reducible first|exact HB.out|apply qac|apply qaa|apply qab|refine qad ?_ GE472.out)|exact HB.out))) hk),Kd.fresh' (Kd.R_lt (by (with_reducible repeat (first|apply Kd.R_alloc|apply Kd.R_drewN|apply Kd.R_drew));exact HO_13.out)) k_ hk,Kd.fresh' (Kd.R_lt (by (with_reducible repeat (first|apply Kd.R_alloc|apply Kd.R_drewN|apply Kd.R_drew));exact HO_17.out)) k_ hk,Kd.fresh' (Kd.R_lt (by (with_reducible repeat (first|apply Kd.R_alloc|apply Kd.R_drewN|apply Kd.R_drew));exact HO_18.out)) k_ hk,Kd.fresh' (Kd.R_lt (by (with_reducible repeat (first|apply Kd.R_alloc|apply Kd.R_drewN|apply Kd.R_drew));exact HO527.out)) k_ hk⟩));(case aO => exact (by (with_reducible repeat (first|apply Kd.R_alloc|apply Kd.R_drewN|apply Kd.R_drew));exact Kd.R_mono HO_19.out (fun _ hk => ⟨hk.1.1,⟨hk.1.2.1,⟨hk.1.2.2.1,⟨hk.1.2.2.2,hk.2⟩⟩⟩⟩)));(case aS => exact (qal (by repeat (first|(with_reducible first|exact HB.out|apply qac|apply qaa|apply qab|refine qad ?_ GE472.out)|exact HB.out))));(case aL => have := LMc77.out;omega);intro v529 w81 ho hb hg hat;rw [← Ny528.out] at ho;have n0_ := Aside0.mk (Kd.V_afterv (ok := (fun k_ => ((P0_ k_ ∨ P1_ k_) ∨ w.heap.size ≤ k_) ∧ some k_ ≠ (.slice (some ad524) t489.length co78 : Value).ownBlock ∧ some k_ ≠ (v519 : Value).ownBlock ∧ some k_ ≠ (v522 : Value).ownBlock ∧ some k_ ≠ (.slice Ao82 y525.length co82 : Value).ownBlock ∧ k_ ≠ gb472)) (by (with_reducible repeat (first|apply Kd.V_alloc|apply Kd.V_drewN|apply Kd.V_drew));exact Kd.V_mono HO_0.out (fun _ hk => ⟨⟨hk.1.1,⟨hk.1.2.1,⟨hk.1.2.2.1,⟨hk.1.2.2.2.1,⟨hk.2,hk.1.2.2.2.2.2⟩⟩⟩⟩⟩,hk.1.2.2.2.2.1⟩)) hg hat);have n1_ := Aside0.mk (Kd.R_after (ok := (fun k_ => (w.heap.size ≤ k_) ∧ some k_ ≠ (v519 : Value).ownBlock ∧ some k_ ≠ (v522 : Value).ownBlock ∧ some k_ ≠ (.slice Ao82 y525.length co82 : Value).ownBlock)) (by (with_reducible repeat (first|apply Kd.R_alloc|apply Kd.R_drewN|apply Kd.R_drew));exact Kd.R_mono HO_13.out (fun _ hk => ⟨⟨hk.1.1,⟨hk.1.2.1,⟨hk.1.2.2.1,hk.2⟩⟩⟩,hk.1.2.2.2⟩)) hg hat);have n2_ := Aside0.mk (Kd.R_after (ok := (fun k_ => (w.heap.size ≤ k_) ∧ some k_ ≠ (.slice (some ad524) t489.length co78 : Value).ownBlock ∧ some k_ ≠ (v522 : Value).ownBlock ∧ some k_ ≠ (.slice Ao82 y525.length co82 : Value).ownBlock)) (by (with_reducible repeat (first|apply Kd.R_alloc|apply Kd.R_drewN|apply Kd.R_drew));exact Kd.R_mono HO_17.out (fun _ hk => ⟨⟨hk.1.1,⟨hk.1.2.1,⟨hk.1.2.2.1,hk.2⟩⟩⟩,hk.1.2.2.2⟩)) hg hat);have n3_ := Aside0.mk (Kd.R_after (ok := (fun k_ => (w.heap.size ≤ k_) ∧ some k_ ≠ (.slice (some ad524) t489.length co78 : Value).ownBlock ∧ some k_ ≠ (v519 : Value).ownBlock ∧ some k_ ≠ (.slice Ao82 y525.length co82 : Value).ownBlock)) (by (with_reducible repeat (first|apply Kd.R_alloc|apply Kd.R_drewN|apply Kd.R_drew));exact Kd.R_mono HO_18.out (fun _ hk => ⟨⟨hk.1.1,⟨hk.1.2.1,⟨hk.1.2.2.1,hk.2⟩⟩⟩,hk.1.2.2.2⟩)) hg hat);have n4_ := Aside0.mk (blk_grown (g := gb472) (o := .cells #[.string a3_0,.int .i64 a3_1,.string a3_2] 39 (0,0)) (by (with_reducible repeat (first|refine qag ?_ _|refine qai ?_|refine qaf ?_ _));exact BK472.out) hg (Kd.R_ne HO_19.out BK472.out (by decide)));have n5_ := Aside0.mk (Kd.R_after (ok := (fun k_ => (w.heap.size ≤ k_) ∧ some k_ ≠ (.slice (some ad524) t489.length co78 : Value).ownBlock ∧ some k_ ≠ (v519 : Value).ownBlock ∧ some k_ ≠ (v522 : Value).ownBlock)) (by (with_reducible repeat (first|apply Kd.R_alloc|apply Kd.R_drewN|apply Kd.R_drew));exact Kd.R_mono HO527.out (fun _ hk => ⟨⟨hk.1.1.1.1.1,⟨hk.1.1.1.2,⟨hk.1.1.2,hk.1.2⟩⟩⟩,hk.2⟩)) hg hat);have n6_ := Aside0.mk (hb);have n7_ := Aside0.mk (ho);clear HO_0;clear HO_13;clear HO_17;clear HO_18;clear BK472;clear HO527;clear HB;clear HO_19;have HO_0 := n0_;have HO_13 := n1_;have HO_17 := n2_;have HO_18 := n3_;have BK472 := n4_;have HO527 := n5_;have HB := n6_;have HO530 := n7_;clear n0_ n1_ n2_ n3_ n4_ n5_ n6_ n7_;clear ho hb hg hat))
                  go_roundg k3
                  case measure => have := HJ10.out;have := HK2.out;have := HK3.out;omega
                  case rel => exact ⟨(y528),(wrap64 (x20_3 + 1)),(by first|rfl|(simp;done)|(simp [*];done)|(simp [qak];done)),H',⟨by have := HJ10.out;have := HK2.out;have := HK3.out;omega⟩,⟨by (with_reducible repeat (first|apply Kd.V_alloc|apply Kd.V_drewN|apply Kd.V_drew));exact Kd.V_mono HO_0.out (fun _ hk => ⟨hk.1.1,⟨hk.1.2.1,⟨hk.1.2.2.1,⟨hk.1.2.2.2.1,⟨hk.2,hk.1.2.2.2.2.2⟩⟩⟩⟩⟩)⟩,⟨by (with_reducible repeat (first|apply Kd.R_alloc|apply Kd.R_drewN|apply Kd.R_drew));exact Kd.R_mono HO_13.out (fun _ hk => ⟨hk.1.1,⟨hk.1.2.1,⟨hk.1.2.2.1,hk.2⟩⟩⟩)⟩,⟨by (with_reducible repeat (first|apply Kd.R_alloc|apply Kd.R_drewN|apply Kd.R_drew));exact Kd.R_mono HO_17.out (fun _ hk => ⟨hk.1.1,⟨hk.1.2.1,⟨hk.1.2.2.1,hk.2⟩⟩⟩)⟩,⟨by (with_reducible repeat (first|apply Kd.R_alloc|apply Kd.R_drewN|apply Kd.R_drew));exact Kd.R_mono HO_18.out (fun _ hk => ⟨hk.1.1,⟨hk.1.2.1,⟨hk.1.2.2.1,hk.2⟩⟩⟩)⟩,⟨by (with_reducible repeat (first|apply Kd.R_alloc|apply Kd.R_drewN|apply Kd.R_drew));exact Kd.R_mono HO530.out (fun _ hk => ⟨hk.1,⟨hk.2.1,⟨hk.2.2.1,hk.2.2.2.1⟩⟩⟩)⟩,⟨by (with_reducible repeat (first|refine qag ?_ _|refine qai ?_|refine qaf ?_ _));exact BK472.out⟩,⟨by repeat (first|(with_reducible first|exact HB.out|apply qac|apply qaa|apply qab|refine qad ?_ GE472.out)|exact HB.out)⟩⟩
                 ·rw [if_neg c77] at H
                  exact absurd H (by simp)
                ·rw [if_neg c76] at H
                 exact absurd H (by simp)
               ·rw [if_neg c75] at H
                have c75b0 : decide (x20_3 < (t489.length : Int)) = false := decide_eq_false c75
                clear c75
                have H' := Aside0.mk H
                clear H
                obtain ⟨Ao83,co83,eo83⟩ := Kd.R_slice HO_13.out
                subst eo83
                go_wp2
                go_loopg [19,21] k3 (fun kq v19 v21 w' => ∃ (x19_4 : List Int) (x21_4 : Int),v21 = .int .i64 x21_4 ∧ Aside0 (keelsonlaw4_DependsMore.l3 kq l0 t518 t521 x19_4 x21_4 = some r) ∧ Aside0 (kq ≤ k3) ∧ Aside0 (Kd.V (Kd.slice 39 k39) 48 w' w.heap.size (fun k_ => ((P0_ k_ ∨ P1_ k_) ∨ w.heap.size ≤ k_) ∧ some k_ ≠ (v519 : Value).ownBlock ∧ some k_ ≠ (v522 : Value).ownBlock ∧ some k_ ≠ (v19 : Value).ownBlock ∧ k_ ≠ gb472) (.slice A0 l0.length c0) l0) ∧ Aside0 (Kd.R (Kd.int .i64) 3 w' w.heap.size (fun k_ => (w.heap.size ≤ k_) ∧ some k_ ≠ (v522 : Value).ownBlock ∧ some k_ ≠ (v19 : Value).ownBlock) v519 t518) ∧ Aside0 (Kd.R (Kd.int .i64) 3 w' w.heap.size (fun k_ => (w.heap.size ≤ k_) ∧ some k_ ≠ (v519 : Value).ownBlock ∧ some k_ ≠ (v19 : Value).ownBlock) v522 t521) ∧ Aside0 (Kd.R (Kd.int .i64) 3 w' w.heap.size (fun k_ => (w.heap.size ≤ k_) ∧ some k_ ≠ (v519 : Value).ownBlock ∧ some k_ ≠ (v522 : Value).ownBlock) v19 x19_4) ∧ Aside0 (w'.heap[gb472]? = some (.cells #[.string a3_0,.int .i64 a3_1,.string a3_2] 39 (0,0))) ∧ Aside0 (Below w.heap.size w w'))
                case atStart => exact ⟨(x19_3),(0),(by first|rfl|(simp;done)|(simp [*];done)|(simp [qak];done)),H',⟨Nat.le_refl _⟩,⟨by (with_reducible repeat (first|apply Kd.V_alloc|apply Kd.V_drewN|apply Kd.V_drew));exact Kd.V_mono HO_0.out (fun _ hk => ⟨hk.1,⟨hk.2.2.1,⟨hk.2.2.2.1,⟨hk.2.2.2.2.1,hk.2.2.2.2.2⟩⟩⟩⟩)⟩,⟨by (with_reducible repeat (first|apply Kd.R_alloc|apply Kd.R_drewN|apply Kd.R_drew));exact Kd.R_mono HO_17.out (fun _ hk => ⟨hk.1,⟨hk.2.2.1,hk.2.2.2⟩⟩)⟩,⟨by (with_reducible repeat (first|apply Kd.R_alloc|apply Kd.R_drewN|apply Kd.R_drew));exact Kd.R_mono HO_18.out (fun _ hk => ⟨hk.1,⟨hk.2.2.1,hk.2.2.2⟩⟩)⟩,⟨by (with_reducible repeat (first|apply Kd.R_alloc|apply Kd.R_drewN|apply Kd.R_drew));exact Kd.R_mono HO_19.out (fun _ hk => ⟨hk.1,⟨hk.2.2.1,hk.2.2.2⟩⟩)⟩,⟨by (with_reducible repeat (first|refine qag ?_ _|refine qai ?_|refine qaf ?_ _));exact BK472.out⟩,⟨by repeat (first|(with_reducible first|exact HB.out|apply qac|apply qaa|apply qab|refine qad ?_ GE472.out)|exact HB.out)⟩⟩
                case round =>
                 clear H'
                 try clear c1
                 try clear c2
                 try clear p2
                 try clear c4
                 try clear c5
                 try clear p5
                 try clear q5
                 try clear hx5
                 try clear c6
                 try clear p6
                 try clear c7
                 try clear c22
                 try clear c44
                 try clear c44b0
                 try clear c46
                 try clear c46b0
                 try clear c47
                 try clear c48
                 try clear c49
                 try clear c50
                 try clear c50b0
                 try clear c50b1
                 try clear p50
                 try clear q50
                 try clear hx50
                 try clear p52
                 try clear q52
                 try clear hx52
                 try clear c58
                 try clear c58b0
                 try clear c63
                 try clear c64
                 try clear p64
                 try clear c75
                 try clear c75b0
                 try clear c76
                 try clear c76b0
                 try clear c77
                 try clear hx507_0
                 try clear hx508_0
                 try clear hx524_0
                 try clear p2
                 try clear p5
                 try clear p50
                 try clear p507
                 try clear p508
                 try clear p524
                 try clear p6
                 try clear p64
                 try clear q5
                 try clear q50
                 try clear q507
                 try clear q508
                 try clear q524
                 obtain ⟨x19_4,x21_4,rfl,HA,HK4,HO_0,HO_17,HO_18,HO_19,BK472,HB⟩ := hrel
                 cases gk with
                 | zero => exact absurd HA.out (by simp [keelsonlaw4_DependsMore.l3])
                 | succ k4 =>
                  have H := HA.out
                  clear HA
                  simp only [keelsonlaw4_DependsMore.l3] at H
                  by_cases c84 : x21_4 < (t521.length : Int)
                  ·rw [if_pos c84] at H
                   have c84b0 : decide (x21_4 < (t521.length : Int)) = true := decide_eq_true c84
                   clear c84
                   by_cases c85 : 0 ≤ x21_4
                   ·rw [if_pos c85] at H
                    have c85b0 : decide (0 ≤ x21_4) = true := decide_eq_true c85
                    clear c85
                    obtain ⟨y532,hy532⟩ : ∃ y_ : List Int,y_ = (([wrap64 ((rd t521 x21_4) + (l0.length : Int))] : List Int)) := ⟨_,rfl⟩
                    replace H : (if x19_4.length + y532.length < 17592186044416 then (keelsonlaw4_DependsMore.l3 k4 l0 t518 t521 (x19_4 ++ y532) (wrap64 (x21_4 + 1))) else (none)) = some r := by first|(rw [hy532];with_reducible exact H)|(have H2_ := (Option.bind_some _ _).symm.trans H;rw [hy532];with_reducible exact H2_)|(have H2_ := (Option.bind_some _ _).symm.trans H;with_reducible exact H2_) | with_reducible exact H|(rw [hy532];exact H)|exact H
                    have Ny532 := Aside0.mk hy532
                    clear hy532
                    by_cases c86 : x19_4.length + y532.length < 17592186044416
                    ·rw [if_pos c86] at H
                     have LMc86 := Aside0.mk c86
                     clear c86
                     obtain ⟨y535,hy535⟩ : ∃ y_ : List Int,y_ = (x19_4 ++ y532) := ⟨_,rfl⟩
                     replace H : (keelsonlaw4_DependsMore.l3 k4 l0 t518 t521 y535 (wrap64 (x21_4 + 1))) = some r := by first|(rw [hy535];with_reducible exact H)|(have H2_ := (Option.bind_some _ _).symm.trans H;rw [hy535];with_reducible exact H2_)|(have H2_ := (Option.bind_some _ _).symm.trans H;with_reducible exact H2_) | with_reducible exact H|(rw [hy535];exact H)|exact H
                     have Ny535 := Aside0.mk hy535
                     clear hy535
                     have H' := Aside0.mk H
                     clear H
                     obtain ⟨Ao87,co87,eo87⟩ := Kd.R_slice HO_18.out
                     subst eo87
                     have p531 : 0 ≤ (x21_4 : Int) := of_decide_eq_true (by assumption)
                     have q531 : x21_4 < (t521.length : Int) := of_decide_eq_true (by assumption)
                     obtain ⟨ad531,e531,hx531_0⟩ := Kd.at_int (Kd.R_reads' HO_18.out).2.2 x21_4 p531 q531
                     cases e531
                     replace p531 := eq_true p531
                     replace q531 := eq_true q531
                     go_wp2_with (first|((with_reducible refine gate_dst (N := 124) rfl ?_);refine Kd.R_lit (Kd.int .i64) _ 3 ?hg (N := 124) ?hd (xs := ([wrap64 ((rd t521 x21_4) + (l0.length : Int))] : List Int)) (inner := [.int .i64 (wrap64 ((rd t521 x21_4) + (l0.length : Int)))]) (ok := fun _ => True) (okp := fun _ => True) ?hr ?hp (fun _ hk => hk) trivial (Below.refl _ _) (Nat.le_refl _) (by simp) ?_;(case hd => rfl);(case hg => rfl);(case hr => first|(go_simp;done)|(go_simp;rfl));(case hp => exact (Reps.one (show Kd.M (Kd.int .i64) _ _ _ (wrap64 ((rd t521 x21_4) + (l0.length : Int))) [.int .i64 (wrap64 ((rd t521 x21_4) + (l0.length : Int)))] from rfl) (Reps.none _ _)));intro v533 w88 ho89 hb hg_ hnew_;clear hg_ hnew_;(first|rw [← Ny532.out] at ho89|(simp only [Int.reduceToNat] at ho89;rw [← Ny532.out] at ho89));have n0_ := Aside0.mk (Kd.V_elder' (by (with_reducible repeat (first|apply Kd.V_alloc|apply Kd.V_drewN|apply Kd.V_drew));exact HO_0.out) (Kd.R_base ho89) hb);have n1_ := Aside0.mk (Kd.R_elder' (by (with_reducible repeat (first|apply Kd.R_alloc|apply Kd.R_drewN|apply Kd.R_drew));exact HO_17.out) (Kd.R_base ho89) hb);have n2_ := Aside0.mk (Kd.R_elder' (by (with_reducible repeat (first|apply Kd.R_alloc|apply Kd.R_drewN|apply Kd.R_drew));exact HO_18.out) (Kd.R_base ho89) hb);have n3_ := Aside0.mk (Kd.R_elder' (by (with_reducible repeat (first|apply Kd.R_alloc|apply Kd.R_drewN|apply Kd.R_drew));exact HO_19.out) (Kd.R_base ho89) hb);have n4_ := Aside0.mk (Kd.R_lower (Kd.R_new' (Kd.R_new' (Kd.R_new' (Kd.R_newM (M := fun k_ => (w.heap.size ≤ k_)) ho89 (qal (by repeat (first|(with_reducible first|exact HB.out|apply qac|apply qaa|apply qab|refine qad ?_ GE472.out)|exact HB.out))) (fun k_ h_ => h_)) (Kd.R_lt (by (with_reducible repeat (first|apply Kd.R_alloc|apply Kd.R_drewN|apply Kd.R_drew));exact HO_17.out))) (Kd.R_lt (by (with_reducible repeat (first|apply Kd.R_alloc|apply Kd.R_drewN|apply Kd.R_drew));exact HO_18.out))) (Kd.R_lt (by (with_reducible repeat (first|apply Kd.R_alloc|apply Kd.R_drewN|apply Kd.R_drew));exact HO_19.out))) (qal (by repeat (first|(with_reducible first|exact HB.out|apply qac|apply qaa|apply qab|refine qad ?_ GE472.out)|exact HB.out))));have n5_ := Aside0.mk (qap (g := gb472) (o := .cells #[.string a3_0,.int .i64 a3_1,.string a3_2] 39 (0,0)) (by (with_reducible repeat (first|refine qag ?_ _|refine qai ?_|refine qaf ?_ _));exact BK472.out) hb);have n6_ := Aside0.mk (qao (by repeat (first|(with_reducible first|exact HB.out|apply qac|apply qaa|apply qab|refine qad ?_ GE472.out)|exact HB.out)) hb);clear HO_0;clear HO_17;clear HO_18;clear HO_19;clear BK472;clear HB;have HO_0 := n0_;have HO_17 := n1_;have HO_18 := n2_;have HO_19 := n3_;have HO534 := n4_;have BK472 := n5_;have HB := n6_;clear n0_ n1_ n2_ n3_ n4_ n5_ n6_;clear hb ho89;obtain ⟨Ao91,co91,eo91⟩ := Kd.R_slice HO534.out;subst eo91)|((with_reducible refine gate_builtin (b := .append) (xs := #[.tmp 116,.tmp 124]) rfl ?_);at_builtin;refine Kd.R_append_rows (Kd.int .i64) (w0 := w) w.heap.size rfl (.tmp 116) (.tmp 124) 42 3 (.int .i64 0) 8 rfl Tryz.underlying42 info3 rfl (by decide) (by omega) u19 x19_4 y532 _ _ _ (fun k_ => (w.heap.size ≤ k_) ∧ some k_ ≠ (v519 : Value).ownBlock ∧ some k_ ≠ (.slice (some ad531) t521.length co87 : Value).ownBlock ∧ some k_ ≠ (.slice Ao91 y532.length co91 : Value).ownBlock) (fun _ => False) rfl rfl ?aO ?aR (fun _ _ h => h) (fun _ h => h.elim) ?aF ?aB ?aS ?aL ?_;(case aR => repeat (first|exact (Kd.R_reads' HO534.out).2.2|(with_reducible refine Kd.C_alloc ?_ _)|(with_reducible refine Kd.C_drewN ?_ _)|(with_reducible refine Kd.C_drew ?_)));(case aB => exact (by repeat (first|(with_reducible first|exact HB.out|apply qac|apply qaa|apply qab|refine qad ?_ GE472.out)|exact HB.out)));(case aF => exact (fun k_ hk => ⟨(Nat.le_trans (qal (by repeat (first|(with_reducible first|exact HB.out|apply qac|apply qaa|apply qab|refine qad ?_ GE472.out)|exact HB.out))) hk),Kd.fresh' (Kd.R_lt (by (with_reducible repeat (first|apply Kd.R_alloc|apply Kd.R_drewN|apply Kd.R_drew));exact HO_17.out)) k_ hk,Kd.fresh' (Kd.R_lt (by (with_reducible repeat (first|apply Kd.R_alloc|apply Kd.R_drewN|apply Kd.R_drew));exact HO_18.out)) k_ hk,Kd.fresh' (Kd.R_lt (by (with_reducible repeat (first|apply Kd.R_alloc|apply Kd.R_drewN|apply Kd.R_drew));exact HO534.out)) k_ hk⟩));(case aO => exact (by (with_reducible repeat (first|apply Kd.R_alloc|apply Kd.R_drewN|apply Kd.R_drew));exact Kd.R_mono HO_19.out (fun _ hk => ⟨hk.1.1,⟨hk.1.2.1,⟨hk.1.2.2,hk.2⟩⟩⟩)));(case aS => exact (qal (by repeat (first|(with_reducible first|exact HB.out|apply qac|apply qaa|apply qab|refine qad ?_ GE472.out)|exact HB.out))));(case aL => have := LMc86.out;omega);intro v536 w90 ho hb hg hat;rw [← Ny535.out] at ho;have n0_ := Aside0.mk (Kd.V_afterv (ok := (fun k_ => ((P0_ k_ ∨ P1_ k_) ∨ w.heap.size ≤ k_) ∧ some k_ ≠ (v519 : Value).ownBlock ∧ some k_ ≠ (.slice (some ad531) t521.length co87 : Value).ownBlock ∧ some k_ ≠ (.slice Ao91 y532.length co91 : Value).ownBlock ∧ k_ ≠ gb472)) (by (with_reducible repeat (first|apply Kd.V_alloc|apply Kd.V_drewN|apply Kd.V_drew));exact Kd.V_mono HO_0.out (fun _ hk => ⟨⟨hk.1.1,⟨hk.1.2.1,⟨hk.1.2.2.1,⟨hk.2,hk.1.2.2.2.2⟩⟩⟩⟩,hk.1.2.2.2.1⟩)) hg hat);have n1_ := Aside0.mk (Kd.R_after (ok := (fun k_ => (w.heap.size ≤ k_) ∧ some k_ ≠ (.slice (some ad531) t521.length co87 : Value).ownBlock ∧ some k_ ≠ (.slice Ao91 y532.length co91 : Value).ownBlock)) (by (with_reducible repeat (first|apply Kd.R_alloc|apply Kd.R_drewN|apply Kd.R_drew));exact Kd.R_mono HO_17.out (fun _ hk => ⟨⟨hk.1.1,⟨hk.1.2.1,hk.2⟩⟩,hk.1.2.2⟩)) hg hat);have n2_ := Aside0.mk (Kd.R_after (ok := (fun k_ => (w.heap.size ≤ k_) ∧ some k_ ≠ (v519 : Value).ownBlock ∧ some k_ ≠ (.slice Ao91 y532.length co91 : Value).ownBlock)) (by (with_reducible repeat (first|apply Kd.R_alloc|apply Kd.R_drewN|apply Kd.R_drew));exact Kd.R_mono HO_18.out (fun _ hk => ⟨⟨hk.1.1,⟨hk.1.2.1,hk.2⟩⟩,hk.1.2.2⟩)) hg hat);have n3_ := Aside0.mk (blk_grown (g := gb472) (o := .cells #[.string a3_0,.int .i64 a3_1,.string a3_2] 39 (0,0)) (by (with_reducible repeat (first|refine qag ?_ _|refine qai ?_|refine qaf ?_ _));exact BK472.out) hg (Kd.R_ne HO_19.out BK472.out (by decide)));have n4_ := Aside0.mk (Kd.R_after (ok := (fun k_ => (w.heap.size ≤ k_) ∧ some k_ ≠ (v519 : Value).ownBlock ∧ some k_ ≠ (.slice (some ad531) t521.length co87 : Value).ownBlock)) (by (with_reducible repeat (first|apply Kd.R_alloc|apply Kd.R_drewN|apply Kd.R_drew));exact Kd.R_mono HO534.out (fun _ hk => ⟨⟨hk.1.1.1.1,⟨hk.1.1.2,hk.1.2⟩⟩,hk.2⟩)) hg hat);have n5_ := Aside0.mk (hb);have n6_ := Aside0.mk (ho);clear HO_0;clear HO_17;clear HO_18;clear BK472;clear HO534;clear HB;clear HO_19;have HO_0 := n0_;have HO_17 := n1_;have HO_18 := n2_;have BK472 := n3_;have HO534 := n4_;have HB := n5_;have HO537 := n6_;clear n0_ n1_ n2_ n3_ n4_ n5_ n6_;clear ho hb hg hat))
                     go_roundg k4
                     case measure => have := HJ10.out;have := HK2.out;have := HK3.out;have := HK4.out;omega
                     case rel => exact ⟨(y535),(wrap64 (x21_4 + 1)),(by first|rfl|(simp;done)|(simp [*];done)|(simp [qak];done)),H',⟨by have := HJ10.out;have := HK2.out;have := HK3.out;have := HK4.out;omega⟩,⟨by (with_reducible repeat (first|apply Kd.V_alloc|apply Kd.V_drewN|apply Kd.V_drew));exact Kd.V_mono HO_0.out (fun _ hk => ⟨hk.1.1,⟨hk.1.2.1,⟨hk.1.2.2.1,⟨hk.2,hk.1.2.2.2.2⟩⟩⟩⟩)⟩,⟨by (with_reducible repeat (first|apply Kd.R_alloc|apply Kd.R_drewN|apply Kd.R_drew));exact Kd.R_mono HO_17.out (fun _ hk => ⟨hk.1.1,⟨hk.1.2.1,hk.2⟩⟩)⟩,⟨by (with_reducible repeat (first|apply Kd.R_alloc|apply Kd.R_drewN|apply Kd.R_drew));exact Kd.R_mono HO_18.out (fun _ hk => ⟨hk.1.1,⟨hk.1.2.1,hk.2⟩⟩)⟩,⟨by (with_reducible repeat (first|apply Kd.R_alloc|apply Kd.R_drewN|apply Kd.R_drew));exact Kd.R_mono HO537.out (fun _ hk => ⟨hk.1,⟨hk.2.1,hk.2.2.1⟩⟩)⟩,⟨by (with_reducible repeat (first|refine qag ?_ _|refine qai ?_|refine qaf ?_ _));exact BK472.out⟩,⟨by repeat (first|(with_reducible first|exact HB.out|apply qac|apply qaa|apply qab|refine qad ?_ GE472.out)|exact HB.out)⟩⟩
                    ·rw [if_neg c86] at H
                     exact absurd H (by simp)
                   ·rw [if_neg c85] at H
                    exact absurd H (by simp)
                  ·rw [if_neg c84] at H
                   have c84b0 : decide (x21_4 < (t521.length : Int)) = false := decide_eq_false c84
                   clear c84
                   replace H := Option.bind_eq_some_iff.mp H
                   obtain ⟨t538,A920,H⟩ := H
                   replace H : (some t538) = some r := H
                   have A92 := Aside0.mk A920
                   clear A920
                   obtain rfl := Option.some.inj H
                   obtain ⟨Ao93,co93,eo93⟩ := Kd.R_slice HO_18.out
                   subst eo93
                   obtain ⟨Ao94,co94,eo94⟩ := Kd.R_slice HO_17.out
                   subst eo94
                   obtain ⟨Ao95,co95,eo95⟩ := Kd.R_slice HO_19.out
                   subst eo95
                   go_wp2_with (first|((with_reducible refine qaj (f := 23) rfl ?_);refine goesL_ (some 128) rfl rfl Tryz.func23 (by kernel_rfl) rfl #[.slice Ao94 t518.length co94,.slice Ao95 x19_4.length co95] rfl (by first|rfl|(simp only [List.map_toArray,List.map_cons,List.map_nil,List.length_drop,List.length_take];rfl)|simp only [List.map_toArray,List.map_cons,List.map_nil]) ?_;(with_reducible refine (keelsonlaw4_sameInts.calls k4 _ _ t518 _ _ x19_4 t538 _ (by first|exact hG|exact GL.below hG (by repeat (first|(with_reducible first|exact HB.out|apply qac|apply qaa|apply qab|refine qad ?_ GE472.out)|exact HB.out)))  ?side1 ?side2 ?side3 ?side4 A92.out).mono ?_);(case side1 => repeat (first|exact (Kd.R_reads' HO_17.out).2.2|(with_reducible refine Kd.C_alloc ?_ _)|(with_reducible refine Kd.C_drewN ?_ _)|(with_reducible refine Kd.C_drew ?_)));(case side2 => exact (Kd.R_reads' HO_17.out).2.1);(case side3 => repeat (first|exact (Kd.R_reads' HO_19.out).2.2|(with_reducible refine Kd.C_alloc ?_ _)|(with_reducible refine Kd.C_drewN ?_ _)|(with_reducible refine Kd.C_drew ?_)));(case side4 => exact (Kd.R_reads' HO_19.out).2.1);rintro e w' ⟨rfl,⟨nd,rfl⟩⟩;refine ⟨_,rfl,?_⟩))
                   go_ret
                   exact ⟨by first|rfl|(simp [qam,qan]<;>rfl)|(simp [*,qam,qan]<;>rfl),by repeat (first|(with_reducible first|exact HB.out|apply qac|apply qaa|apply qab|refine qad ?_ GE472.out)|exact HB.out)⟩
            ·rw [if_neg c64] at H
             exact absurd H (by simp)
           ·rw [if_neg c63] at H
            exact absurd H (by simp)
       ·rw [if_neg c30] at H
        exact absurd H (by simp)
      ·rw [if_neg c29] at H
       exact absurd H (by simp)
  ·rw [if_neg c9] at H
   exact absurd H (by simp)
 ·rw [if_neg c8] at H
  exact absurd H (by simp)
end Go.Proofs.YtjbbgekkombpnaaGreatDoor.PA
