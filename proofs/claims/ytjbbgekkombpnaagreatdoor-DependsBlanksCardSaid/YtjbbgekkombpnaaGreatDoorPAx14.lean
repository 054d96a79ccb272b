
import Derived.Test.YtjbbgekkombpnaaGreatDoorPAx0
import Derived.Test.YtjbbgekkombpnaaGreatDoorPAx11
import Derived.Test.YtjbbgekkombpnaaGreatDoorPAx13
namespace Go.Proofs.YtjbbgekkombpnaaGreatDoor.PA
open Go.RowKit Go.Proofs.YtjbbgekkombpnaaGreatDoorW.PrintWords Go.Proofs.YtjbbgekkombpnaaGreatDoorW.PrintLast Go.Proofs.YtjbbgekkombpnaaGreatDoorW.PrintMore
attribute [local go_sem] max2_int min2_int max_two min_two max_three min_three max_four min_four
set_option maxHeartbeats 8000000
set_option maxRecDepth 100000
set_option linter.unusedVariables false
set_option linter.unusedSimpArgs false
mutual
def keelsonref2_Right.j0 : Nat → Bool → Int → ByteArray → ByteArray → Option (Bool)
 | 0,_,_,_,_ => none
 | k + 1,x26,x259000,x259001,x259002 => if x26 = true then (some false) else ((keelsonref2_has.f k x259001 45).bind fun t260 => (if t260 = true then (if x259002.toList = ([] : List UInt8) then (keelsonref2_Right.j1 k true x259000 x259001 x259002) else ((keelsonref2_has.f k x259001 58).bind fun t261 => (if t261 = true then (keelsonref2_Right.j1 k (x259000 == 0) x259000 x259001 x259002) else (keelsonref2_Right.j1 k false x259000 x259001 x259002)))) else ((keelsonref2_has.f k x259001 58).bind fun t262 => (if t262 = true then (keelsonref2_Right.j1 k (x259000 == 0) x259000 x259001 x259002) else (keelsonref2_Right.j1 k false x259000 x259001 x259002)))))
def keelsonref2_Right.j1 : Nat → Bool → Int → ByteArray → ByteArray → Option (Bool)
 | 0,_,_,_,_ => none
 | k + 1,x44,x259000,x259001,x259002 => if x44 = true then (some false) else (keelsonref2_Right.l0 k 0 x259000 x259001 x259002)
def keelsonref2_Right.l0 : Nat → Int → Int → ByteArray → ByteArray → Option (Bool)
 | 0,_,_,_,_ => none
 | k + 1,x3,x259000,x259001,x259002 => if x3 < (x259001.size : Int) then (if 0 ≤ x3 then ((keelsonref2_Letter.f (bt x259001 x3)).bind fun t263 => (if t263 = true then (keelsonref2_Right.l0 k (wrap64 (x3 + 1)) x259000 x259001 x259002) else ((keelsonref2_Digit.f (bt x259001 x3)).bind fun t264 => (if t264 = true then (keelsonref2_Right.l0 k (wrap64 (x3 + 1)) x259000 x259001 x259002) else ((keelsonref2_has.f k (⟨#[46,43,126,45,58]⟩ : ByteArray) (bt x259001 x3)).bind fun t265 => (if t265 = true then (keelsonref2_Right.l0 k (wrap64 (x3 + 1)) x259000 x259001 x259002) else (some false))))))) else (none)) else (keelsonref2_Right.l1 k 0 x259000 x259001 x259002)
def keelsonref2_Right.l1 : Nat → Int → Int → ByteArray → ByteArray → Option (Bool)
 | 0,_,_,_,_ => none
 | k + 1,x5,x259000,x259001,x259002 => if x5 < (x259002.size : Int) then (if 0 ≤ x5 then ((keelsonref2_Letter.f (bt x259002 x5)).bind fun t267 => (if t267 = true then (keelsonref2_Right.l1 k (wrap64 (x5 + 1)) x259000 x259001 x259002) else ((keelsonref2_Digit.f (bt x259002 x5)).bind fun t268 => (if t268 = true then (keelsonref2_Right.l1 k (wrap64 (x5 + 1)) x259000 x259001 x259002) else ((keelsonref2_has.f k (⟨#[46,43,126]⟩ : ByteArray) (bt x259002 x5)).bind fun t269 => (if t269 = true then (keelsonref2_Right.l1 k (wrap64 (x5 + 1)) x259000 x259001 x259002) else (some false))))))) else (none)) else ((keelsonref2_text.f k x259000 x259001 x259002).bind fun t266 => (some (decide ((t266.size : Int) ≤ 60))))
end
def keelsonref2_Right.f (k : Nat) (a0_0 : Int) (a0_1 : ByteArray) (a0_2 : ByteArray) : Option (Bool) := if a0_0 < 0 then (keelsonref2_Right.j0 k true a0_0 a0_1 a0_2) else (if a0_0 > 999999999 then (keelsonref2_Right.j0 k true a0_0 a0_1 a0_2) else (if a0_1.toList = ([] : List UInt8) then (keelsonref2_Right.j0 k true a0_0 a0_1 a0_2) else (if 0 < (a0_1.size : Int) then ((keelsonref2_Digit.f (bt a0_1 0)).bind fun t259 => (keelsonref2_Right.j0 k (!t259) a0_0 a0_1 a0_2)) else (none))))
theorem keelsonref2_Right.mono_l : ∀ k,(∀ y0 y1 y2 y3,LeO (keelsonref2_Right.j0 k y0 y1 y2 y3) (keelsonref2_Right.j0 (k + 1) y0 y1 y2 y3)) ∧ (∀ y0 y1 y2 y3,LeO (keelsonref2_Right.j1 k y0 y1 y2 y3) (keelsonref2_Right.j1 (k + 1) y0 y1 y2 y3)) ∧ (∀ y0 y1 y2 y3,LeO (keelsonref2_Right.l0 k y0 y1 y2 y3) (keelsonref2_Right.l0 (k + 1) y0 y1 y2 y3)) ∧ (∀ y0 y1 y2 y3,LeO (keelsonref2_Right.l1 k y0 y1 y2 y3) (keelsonref2_Right.l1 (k + 1) y0 y1 y2 y3))
 | 0 => ⟨fun _ _ _ _ r h => by simp [keelsonref2_Right.j0] at h,fun _ _ _ _ r h => by simp [keelsonref2_Right.j1] at h,fun _ _ _ _ r h => by simp [keelsonref2_Right.l0] at h,fun _ _ _ _ r h => by simp [keelsonref2_Right.l1] at h⟩
 | k + 1 => by
  obtain ⟨ih0,ih1,ih2,ih3⟩ := keelsonref2_Right.mono_l k
  refine ⟨?_,?_,?_,?_⟩
  ·intro y0 y1 y2 y3
   unfold keelsonref2_Right.j0
   repeat' first
   | (with_reducible exact ih0 _ _ _ _)
   | (with_reducible exact ih1 _ _ _ _)
   | (with_reducible exact ih2 _ _ _ _)
   | (with_reducible exact ih3 _ _ _ _)
   | (with_reducible exact keelsonref2_has.mono _ _ _)
   | (with_reducible exact keelsonref2_text.mono _ _ _ _)
   | (with_reducible exact LeO.refl _)
   | (with_reducible exact LeO.none _)
   | (with_reducible refine LeO.ite ?_ ?_)
   | (with_reducible refine LeO.bind ?_ (fun _ => ?_))
   | exact ih0 _ _ _ _
   | exact ih1 _ _ _ _
   | exact ih2 _ _ _ _
   | exact ih3 _ _ _ _
   | exact keelsonref2_has.mono _ _ _
   | exact keelsonref2_text.mono _ _ _ _
   | exact LeO.none _
   | refine LeO.ite ?_ ?_
   | refine LeO.bind ?_ (fun _ => ?_)
  ·intro y0 y1 y2 y3
   unfold keelsonref2_Right.j1
   repeat' first
   | (with_reducible exact ih0 _ _ _ _)
   | (with_reducible exact ih1 _ _ _ _)
   | (with_reducible exact ih2 _ _ _ _)
   | (with_reducible exact ih3 _ _ _ _)
   | (with_reducible exact keelsonref2_has.mono _ _ _)
   | (with_reducible exact keelsonref2_text.mono _ _ _ _)
   | (with_reducible exact LeO.refl _)
   | (with_reducible exact LeO.none _)
   | (with_reducible refine LeO.ite ?_ ?_)
   | (with_reducible refine LeO.bind ?_ (fun _ => ?_))
   | exact ih0 _ _ _ _
   | exact ih1 _ _ _ _
   | exact ih2 _ _ _ _
   | exact ih3 _ _ _ _
   | exact keelsonref2_has.mono _ _ _
   | exact keelsonref2_text.mono _ _ _ _
   | exact LeO.none _
   | refine LeO.ite ?_ ?_
   | refine LeO.bind ?_ (fun _ => ?_)
  ·intro y0 y1 y2 y3
   unfold keelsonref2_Right.l0
   repeat' first
   | (with_reducible exact ih0 _ _ _ _)
   | (with_reducible exact ih1 _ _ _ _)
   | (with_reducible exact ih2 _ _ _ _)
   | (with_reducible exact ih3 _ _ _ _)
   | (with_reducible exact keelsonref2_has.mono _ _ _)
   | (with_reducible exact keelsonref2_text.mono _ _ _ _)
   | (with_reducible exact LeO.refl _)
   | (with_reducible exact LeO.none _)
   | (with_reducible refine LeO.ite ?_ ?_)
   | (with_reducible refine LeO.bind ?_ (fun _ => ?_))
   | exact ih0 _ _ _ _
   | exact ih1 _ _ _ _
   | exact ih2 _ _ _ _
   | exact ih3 _ _ _ _
   | exact keelsonref2_has.mono _ _ _
   | exact keelsonref2_text.mono _ _ _ _
   | exact LeO.none _
   | refine LeO.ite ?_ ?_
   | refine LeO.bind ?_ (fun _ => ?_)
  ·intro y0 y1 y2 y3
   unfold keelsonref2_Right.l1
   repeat' first
   | (with_reducible exact ih0 _ _ _ _)
   | (with_reducible exact ih1 _ _ _ _)
   | (with_reducible exact ih2 _ _ _ _)
   | (with_reducible exact ih3 _ _ _ _)
   | (with_reducible exact keelsonref2_has.mono _ _ _)
   | (with_reducible exact keelsonref2_text.mono _ _ _ _)
   | (with_reducible exact LeO.refl _)
   | (with_reducible exact LeO.none _)
   | (with_reducible refine LeO.ite ?_ ?_)
   | (with_reducible refine LeO.bind ?_ (fun _ => ?_))
   | exact ih0 _ _ _ _
   | exact ih1 _ _ _ _
   | exact ih2 _ _ _ _
   | exact ih3 _ _ _ _
   | exact keelsonref2_has.mono _ _ _
   | exact keelsonref2_text.mono _ _ _ _
   | exact LeO.none _
   | refine LeO.ite ?_ ?_
   | refine LeO.bind ?_ (fun _ => ?_)
theorem keelsonref2_Right.mono : ∀ a0 a1 a2 k,LeO (keelsonref2_Right.f k a0 a1 a2) (keelsonref2_Right.f (k + 1) a0 a1 a2) := by
 intro a0 a1 a2 k
 obtain ⟨ih0,ih1,ih2,ih3⟩ := keelsonref2_Right.mono_l k
 unfold keelsonref2_Right.f
 repeat' first
   | (with_reducible exact ih0 _ _ _ _)
   | (with_reducible exact ih1 _ _ _ _)
   | (with_reducible exact ih2 _ _ _ _)
   | (with_reducible exact ih3 _ _ _ _)
   | (with_reducible exact keelsonref2_has.mono _ _ _)
   | (with_reducible exact keelsonref2_text.mono _ _ _ _)
   | (with_reducible exact LeO.refl _)
   | (with_reducible exact LeO.none _)
   | (with_reducible refine LeO.ite ?_ ?_)
   | (with_reducible refine LeO.bind ?_ (fun _ => ?_))
   | exact ih0 _ _ _ _
   | exact ih1 _ _ _ _
   | exact ih2 _ _ _ _
   | exact ih3 _ _ _ _
   | exact keelsonref2_has.mono _ _ _
   | exact keelsonref2_text.mono _ _ _ _
   | exact LeO.none _
   | refine LeO.ite ?_ ?_
   | refine LeO.bind ?_ (fun _ => ?_)
theorem keelsonref2_Right.calls (k : Nat) (a0_0 : Int) (a0_1 : ByteArray) (a0_2 : ByteArray) (r : Bool) (w : World) (hG : GL w) (h : keelsonref2_Right.f k a0_0 a0_1 a0_2 = some r) :
  Calls Tryz.prog 94 #[.agg #[.int .i64 a0_0,.string a0_1,.string a0_2]] w fun e w' => e = .returned (.bool r) ∧ Below w.heap.size w w' := by
 have hu90 := Tryz.underlying90
 have HB := Aside0.mk (Below.refl w.heap.size w)
 have H : (if a0_0 < 0 then (keelsonref2_Right.j0 k true a0_0 a0_1 a0_2) else (if a0_0 > 999999999 then (keelsonref2_Right.j0 k true a0_0 a0_1 a0_2) else (if a0_1.toList = ([] : List UInt8) then (keelsonref2_Right.j0 k true a0_0 a0_1 a0_2) else (if 0 < (a0_1.size : Int) then ((keelsonref2_Digit.f (bt a0_1 0)).bind fun t259 => (keelsonref2_Right.j0 k (!t259) a0_0 a0_1 a0_2)) else (none))))) = some r := h
 clear h
 have HC2 := Aside0.mk H
 clear H
 go_enter Tryz.func94,Tryz.ntmps94
 go_upto_region 1 with (first|((with_reducible refine gate_dst (N := 1) rfl ?_);refine box_event ?hg (N := 1) ?hd (cs := #[.int .i64 a0_0,.string a0_1,.string a0_2]) (t := 90) ?hr ?_;(case hd => rfl);(case hg => rfl);(case hr => first|(go_simp;done)|(go_simp;rfl));intro gb258 hg w3 hbox hb;have n0_ := Aside0.mk (qan (by repeat (with_reducible first|exact HB.out|apply qab|apply qaa|apply qac)) hb);have n1_ := Aside0.mk (hbox);have n2_ := Aside0.mk ((by rw [hg];exact (qao (by repeat (with_reducible first|exact HB.out|apply qab|apply qaa|apply qac))) : w.heap.size ≤ gb258));have n3_ := Aside0.mk ((by rw [hg];exact (qao (by repeat (with_reducible first|exact HB.out|apply qab|apply qaa|apply qac))) : w.heap.size ≤ gb258));clear HB;have HB := n0_;have BK258 := n1_;have GW258 := n2_;have GE258 := n3_;clear n0_ n1_ n2_ n3_;clear hb hbox hg))
 (try simp only [Act.put,List.setIfInBounds_toArray,List.set_cons_zero,List.set_cons_succ])
 go_cut [26] (fun v26 wc => ∃ (kq : Nat) (x26_1 : Bool),v26 = .bool x26_1 ∧ Aside0 (keelsonref2_Right.j0 kq x26_1 a0_0 a0_1 a0_2 = some r) ∧ Aside0 (kq ≤ k) ∧ Aside0 (wc.heap[gb258]? = some (.cells #[.int .i64 a0_0,.string a0_1,.string a0_2] 90 (0,0))) ∧ Aside0 (Below w.heap.size w wc))
 case first =>
  have H := HC2.out
  clear HC2
  by_cases c4 : a0_0 < 0
  ·rw [if_pos c4] at H
   have c4b0 : decide (a0_0 < 0) = true := decide_eq_true c4
   clear c4
   (first|rw [c4b0]|(simp only [i64_w,i32_w];rw [c4b0]) | skip)
   have H' := Aside0.mk H
   clear H
   have hcz5_0 : w3.cell? ⟨gb258,0,none⟩ = some (.int .i64 a0_0) := (qaf BK258.out 0).trans rfl
   have hcz5_1 : w3.cell? ⟨gb258,1,none⟩ = some (.string a0_1) := (qaf BK258.out 1).trans rfl
   have hcz5_2 : w3.cell? ⟨gb258,2,none⟩ = some (.string a0_2) := (qaf BK258.out 2).trans rfl
   have hfz5_0 := qad BK258.out 0
   have hfz5_1 := qad BK258.out 1
   have hfz5_2 := qad BK258.out 2
   go_wp2
   go_meet
   case rel => exact ⟨_,(true),(by first|rfl|(simp;done)|(simp [*];done)|(simp [qaj];done)),H',⟨by first|omega|exact Nat.le_refl _⟩,⟨by (with_reducible repeat (first|refine qah ?_ _|refine qai ?_|refine qag ?_ _));exact BK258.out⟩,⟨by repeat (first|(with_reducible first|exact HB.out|apply qab|apply qaa|apply qac|refine qae ?_ GE258.out)|exact HB.out)⟩⟩
  ·rw [if_neg c4] at H
   have c4b0 : decide (a0_0 < 0) = false := decide_eq_false c4
   clear c4
   (first|rw [c4b0]|(simp only [i64_w,i32_w];rw [c4b0]) | skip)
   by_cases c6 : a0_0 > 999999999
   ·rw [if_pos c6] at H
    have c6b0 : decide (999999999 < a0_0) = true := decide_eq_true c6
    clear c6
    have H' := Aside0.mk H
    clear H
    have hcz7_0 : w3.cell? ⟨gb258,0,none⟩ = some (.int .i64 a0_0) := (qaf BK258.out 0).trans rfl
    have hcz7_1 : w3.cell? ⟨gb258,1,none⟩ = some (.string a0_1) := (qaf BK258.out 1).trans rfl
    have hcz7_2 : w3.cell? ⟨gb258,2,none⟩ = some (.string a0_2) := (qaf BK258.out 2).trans rfl
    have hfz7_0 := qad BK258.out 0
    have hfz7_1 := qad BK258.out 1
    have hfz7_2 := qad BK258.out 2
    go_wp2
    go_meet
    case rel => exact ⟨_,(true),(by first|rfl|(simp;done)|(simp [*];done)|(simp [qaj];done)),H',⟨by first|omega|exact Nat.le_refl _⟩,⟨by (with_reducible repeat (first|refine qah ?_ _|refine qai ?_|refine qag ?_ _));exact BK258.out⟩,⟨by repeat (first|(with_reducible first|exact HB.out|apply qab|apply qaa|apply qac|refine qae ?_ GE258.out)|exact HB.out)⟩⟩
   ·rw [if_neg c6] at H
    have c6b0 : decide (999999999 < a0_0) = false := decide_eq_false c6
    clear c6
    by_cases c8 : a0_1.toList = ([] : List UInt8)
    ·rw [if_pos c8] at H
     have c8b0 : (a0_1.toList == ([] : List UInt8)) = true := beq_iff_eq.mpr c8
     have c8b1 : (a0_1.toList != ([] : List UInt8)) = false := bne_eq_false_iff_eq.mpr c8
     clear c8
     have H' := Aside0.mk H
     clear H
     have hcz9_0 : w3.cell? ⟨gb258,0,none⟩ = some (.int .i64 a0_0) := (qaf BK258.out 0).trans rfl
     have hcz9_1 : w3.cell? ⟨gb258,1,none⟩ = some (.string a0_1) := (qaf BK258.out 1).trans rfl
     have hcz9_2 : w3.cell? ⟨gb258,2,none⟩ = some (.string a0_2) := (qaf BK258.out 2).trans rfl
     have hfz9_0 := qad BK258.out 0
     have hfz9_1 := qad BK258.out 1
     have hfz9_2 := qad BK258.out 2
     go_wp2
     go_meet
     case rel => exact ⟨_,(true),(by first|rfl|(simp;done)|(simp [*];done)|(simp [qaj];done)),H',⟨by first|omega|exact Nat.le_refl _⟩,⟨by (with_reducible repeat (first|refine qah ?_ _|refine qai ?_|refine qag ?_ _));exact BK258.out⟩,⟨by repeat (first|(with_reducible first|exact HB.out|apply qab|apply qaa|apply qac|refine qae ?_ GE258.out)|exact HB.out)⟩⟩
    ·rw [if_neg c8] at H
     have c8b0 : (a0_1.toList == ([] : List UInt8)) = false := beq_eq_false_iff_ne.mpr c8
     have c8b1 : (a0_1.toList != ([] : List UInt8)) = true := bne_iff_ne.mpr c8
     by_cases c10 : 0 < (a0_1.size : Int)
     ·rw [if_pos c10] at H
      have c10b0 : decide (0 < (a0_1.size : Int)) = true := decide_eq_true c10
      have c10b1 : decide (0 < a0_1.size) = true := decide_eq_true (by omega)
      clear c10
      replace H := Option.bind_eq_some_iff.mp H
      obtain ⟨t259,A120,H⟩ := H
      replace H : (keelsonref2_Right.j0 k (!t259) a0_0 a0_1 a0_2) = some r := H
      have A12 := Aside0.mk A120
      clear A120
      have H' := Aside0.mk H
      clear H
      have hcz13_0 : w3.cell? ⟨gb258,0,none⟩ = some (.int .i64 a0_0) := (qaf BK258.out 0).trans rfl
      have hcz13_1 : w3.cell? ⟨gb258,1,none⟩ = some (.string a0_1) := (qaf BK258.out 1).trans rfl
      have hcz13_2 : w3.cell? ⟨gb258,2,none⟩ = some (.string a0_2) := (qaf BK258.out 2).trans rfl
      have hfz13_0 := qad BK258.out 0
      have hfz13_1 := qad BK258.out 1
      have hfz13_2 := qad BK258.out 2
      have p11 : 0 ≤ (0 : Int) := (by omega)
      have q11 : 0 < a0_1.size := (by have : (0 : Int) < (a0_1.size : Int) := of_decide_eq_true (by assumption);omega)
      have hx11 : ∀ h : 0 < a0_1.size,((a0_1[0]'h).toNat : Int) = bt a0_1 0 := bt_at a0_1 0
      clear p11
      have qi11 : (0 < (a0_1.size : Int)) = True := eq_true (of_decide_eq_true (by assumption))
      replace q11 := eq_true q11
      go_wp2_with (first|(go_at_call 69;(with_reducible refine (keelsonref2_Digit.calls (bt a0_1 0) t259 _ (by first|exact hG|exact GL.below hG (by repeat (first|(with_reducible first|exact HB.out|apply qab|apply qaa|apply qac|refine qae ?_ GE258.out)|exact HB.out)))  A12.out).mono ?_);rintro e w' ⟨rfl,⟨nd,rfl⟩⟩))
      go_meet
      case rel => exact ⟨_,(!t259),(by first|rfl|(simp;done)|(simp [*];done)|(simp [qaj];done)),H',⟨by first|omega|exact Nat.le_refl _⟩,⟨by (with_reducible repeat (first|refine qah ?_ _|refine qai ?_|refine qag ?_ _));exact BK258.out⟩,⟨by repeat (first|(with_reducible first|exact HB.out|apply qab|apply qaa|apply qac|refine qae ?_ GE258.out)|exact HB.out)⟩⟩
     ·rw [if_neg c10] at H
      exact absurd H (by simp)
 case rest =>
  clear HC2
  try clear c1
  try clear p1
  try clear q1
  try clear hx1
  try clear qi1
  try clear p2
  try clear c4
  try clear c4b0
  try clear c6
  try clear c6b0
  try clear c8
  try clear c8b0
  try clear c8b1
  try clear c9
  try clear c10
  try clear c10b0
  try clear c10b1
  try clear p11
  try clear q11
  try clear hx11
  try clear qi11
  try clear hcz13_0
  try clear hcz13_1
  try clear hcz13_2
  try clear hcz5_0
  try clear hcz5_1
  try clear hcz5_2
  try clear hcz7_0
  try clear hcz7_1
  try clear hcz7_2
  try clear hcz9_0
  try clear hcz9_1
  try clear hcz9_2
  try clear hfz13_0
  try clear hfz13_1
  try clear hfz13_2
  try clear hfz5_0
  try clear hfz5_1
  try clear hfz5_2
  try clear hfz7_0
  try clear hfz7_1
  try clear hfz7_2
  try clear hfz9_0
  try clear hfz9_1
  try clear hfz9_2
  try clear p11
  try clear q11
  obtain ⟨kq,x26_1,rfl,HA,HJ1,BK258,HB⟩ := hcut
  cases kq with
  | zero => exact absurd HA.out (by simp [keelsonref2_Right.j0])
  | succ kj1 =>
   have H := HA.out
   clear HA
   simp only [keelsonref2_Right.j0] at H
   by_cases c14 : x26_1 = true
   ·subst c14
    have H1 : (some false) = some r := by rw [if_pos rfl] at H;exact H
    clear H
    have H := H1
    clear H1
    obtain rfl := Option.some.inj H
    go_wp2
    go_ret
    exact ⟨by first|rfl|(simp [qak,qal]<;>rfl)|(simp [*,qak,qal]<;>rfl),by repeat (first|(with_reducible first|exact HB.out|apply qab|apply qaa|apply qac|refine qae ?_ GE258.out)|exact HB.out)⟩
   ·replace c14 := Bool.eq_false_iff.mpr c14
    subst c14
    have H1 : ((keelsonref2_has.f kj1 a0_1 45).bind fun t260 => (if t260 = true then (if a0_2.toList = ([] : List UInt8) then (keelsonref2_Right.j1 kj1 true a0_0 a0_1 a0_2) else ((keelsonref2_has.f kj1 a0_1 58).bind fun t261 => (if t261 = true then (keelsonref2_Right.j1 kj1 (a0_0 == 0) a0_0 a0_1 a0_2) else (keelsonref2_Right.j1 kj1 false a0_0 a0_1 a0_2)))) else ((keelsonref2_has.f kj1 a0_1 58).bind fun t262 => (if t262 = true then (keelsonref2_Right.j1 kj1 (a0_0 == 0) a0_0 a0_1 a0_2) else (keelsonref2_Right.j1 kj1 false a0_0 a0_1 a0_2))))) = some r := by rw [if_neg (show ¬ (false = true) by decide)] at H;exact H
    clear H
    have H := H1
    clear H1
    have HC15 := Aside0.mk H
    clear H
    go_upto_region 3 with (fail)
    go_cut [44] (fun v44 wc => ∃ (kq : Nat) (x44_14 : Bool),v44 = .bool x44_14 ∧ Aside0 (keelsonref2_Right.j1 kq x44_14 a0_0 a0_1 a0_2 = some r) ∧ Aside0 (kq ≤ kj1) ∧ Aside0 (wc.heap[gb258]? = some (.cells #[.int .i64 a0_0,.string a0_1,.string a0_2] 90 (0,0))) ∧ Aside0 (Below w.heap.size w wc))
    case first =>
     have H := HC15.out
     clear HC15
     replace H := Option.bind_eq_some_iff.mp H
     obtain ⟨t260,A160,H⟩ := H
     replace H : (if t260 = true then (if a0_2.toList = ([] : List UInt8) then (keelsonref2_Right.j1 kj1 true a0_0 a0_1 a0_2) else ((keelsonref2_has.f kj1 a0_1 58).bind fun t261 => (if t261 = true then (keelsonref2_Right.j1 kj1 (a0_0 == 0) a0_0 a0_1 a0_2) else (keelsonref2_Right.j1 kj1 false a0_0 a0_1 a0_2)))) else ((keelsonref2_has.f kj1 a0_1 58).bind fun t262 => (if t262 = true then (keelsonref2_Right.j1 kj1 (a0_0 == 0) a0_0 a0_1 a0_2) else (keelsonref2_Right.j1 kj1 false a0_0 a0_1 a0_2)))) = some r := H
     have A16 := Aside0.mk A160
     clear A160
     by_cases c17 : t260 = true
     ·subst c17
      have H1 : (if a0_2.toList = ([] : List UInt8) then (keelsonref2_Right.j1 kj1 true a0_0 a0_1 a0_2) else ((keelsonref2_has.f kj1 a0_1 58).bind fun t261 => (if t261 = true then (keelsonref2_Right.j1 kj1 (a0_0 == 0) a0_0 a0_1 a0_2) else (keelsonref2_Right.j1 kj1 false a0_0 a0_1 a0_2)))) = some r := by rw [if_pos rfl] at H;exact H
      clear H
      have H := H1
      clear H1
      by_cases c18 : a0_2.toList = ([] : List UInt8)
      ·rw [if_pos c18] at H
       have c18b0 : (a0_2.toList == ([] : List UInt8)) = true := beq_iff_eq.mpr c18
       have c18b1 : (a0_2.toList != ([] : List UInt8)) = false := bne_eq_false_iff_eq.mpr c18
       clear c18
       (first|rw [c18b0]|(simp only [i64_w,i32_w];rw [c18b0]) | skip)
       have H' := Aside0.mk H
       clear H
       have hcz19_0 : wc.cell? ⟨gb258,0,none⟩ = some (.int .i64 a0_0) := (qaf BK258.out 0).trans rfl
       have hcz19_1 : wc.cell? ⟨gb258,1,none⟩ = some (.string a0_1) := (qaf BK258.out 1).trans rfl
       have hcz19_2 : wc.cell? ⟨gb258,2,none⟩ = some (.string a0_2) := (qaf BK258.out 2).trans rfl
       have hfz19_0 := qad BK258.out 0
       have hfz19_1 := qad BK258.out 1
       have hfz19_2 := qad BK258.out 2
       go_wp2_with (first|((with_reducible refine qam (f := 116) rfl ?_);refine goesL_ (some 29) rfl rfl Tryz.func116 (by kernel_rfl) rfl #[.string a0_1,.int .u8 45] rfl (by first|rfl|(simp only [List.map_toArray,List.map_cons,List.map_nil,List.length_drop,List.length_take];rfl)|simp only [List.map_toArray,List.map_cons,List.map_nil]) ?_;(with_reducible refine (keelsonref2_has.calls kj1 a0_1 45 true _ (by first|exact hG|exact GL.below hG (by repeat (first|(with_reducible first|exact HB.out|apply qab|apply qaa|apply qac|refine qae ?_ GE258.out)|exact HB.out)))  A16.out).mono ?_);rintro e w' ⟨rfl,⟨nd,rfl⟩⟩;refine ⟨_,rfl,?_⟩))
       go_meet
       case rel => exact ⟨_,(true),(by first|rfl|(simp;done)|(simp [*];done)|(simp [qaj];done)),H',⟨by have := HJ1.out;first|omega|exact Nat.le_refl _⟩,⟨by (with_reducible repeat (first|refine qah ?_ _|refine qai ?_|refine qag ?_ _));exact BK258.out⟩,⟨by repeat (first|(with_reducible first|exact HB.out|apply qab|apply qaa|apply qac|refine qae ?_ GE258.out)|exact HB.out)⟩⟩
      ·rw [if_neg c18] at H
       have c18b0 : (a0_2.toList == ([] : List UInt8)) = false := beq_eq_false_iff_ne.mpr c18
       have c18b1 : (a0_2.toList != ([] : List UInt8)) = true := bne_iff_ne.mpr c18
       (first|rw [c18b0]|(simp only [i64_w,i32_w];rw [c18b0]) | skip)
       replace H := Option.bind_eq_some_iff.mp H
       obtain ⟨t261,A200,H⟩ := H
       replace H : (if t261 = true then (keelsonref2_Right.j1 kj1 (a0_0 == 0) a0_0 a0_1 a0_2) else (keelsonref2_Right.j1 kj1 false a0_0 a0_1 a0_2)) = some r := H
       have A20 := Aside0.mk A200
       clear A200
       by_cases c21 : t261 = true
       ·subst c21
        have H1 : (keelsonref2_Right.j1 kj1 (a0_0 == 0) a0_0 a0_1 a0_2) = some r := by rw [if_pos rfl] at H;exact H
        clear H
        have H := H1
        clear H1
        have H' := Aside0.mk H
        clear H
        have hcz22_0 : wc.cell? ⟨gb258,0,none⟩ = some (.int .i64 a0_0) := (qaf BK258.out 0).trans rfl
        have hcz22_1 : wc.cell? ⟨gb258,1,none⟩ = some (.string a0_1) := (qaf BK258.out 1).trans rfl
        have hcz22_2 : wc.cell? ⟨gb258,2,none⟩ = some (.string a0_2) := (qaf BK258.out 2).trans rfl
        have hfz22_0 := qad BK258.out 0
        have hfz22_1 := qad BK258.out 1
        have hfz22_2 := qad BK258.out 2
        go_wp2_with (first|((with_reducible refine qam (f := 116) rfl ?_);refine goesL_ (some 29) rfl rfl Tryz.func116 (by kernel_rfl) rfl #[.string a0_1,.int .u8 45] rfl (by first|rfl|(simp only [List.map_toArray,List.map_cons,List.map_nil,List.length_drop,List.length_take];rfl)|simp only [List.map_toArray,List.map_cons,List.map_nil]) ?_;(with_reducible refine (keelsonref2_has.calls kj1 a0_1 45 true _ (by first|exact hG|exact GL.below hG (by repeat (first|(with_reducible first|exact HB.out|apply qab|apply qaa|apply qac|refine qae ?_ GE258.out)|exact HB.out)))  A16.out).mono ?_);rintro e w' ⟨rfl,⟨nd,rfl⟩⟩;refine ⟨_,rfl,?_⟩)|(go_at_call 116;(with_reducible refine (keelsonref2_has.calls kj1 a0_1 58 true _ (by first|exact hG|exact GL.below hG (by repeat (first|(with_reducible first|exact HB.out|apply qab|apply qaa|apply qac|refine qae ?_ GE258.out)|exact HB.out)))  A20.out).mono ?_);rintro e w' ⟨rfl,⟨nd,rfl⟩⟩))
        go_meet
        case rel => exact ⟨_,((a0_0 == 0)),(by first|rfl|(simp;done)|(simp [*];done)|(simp [qaj];done)),H',⟨by have := HJ1.out;first|omega|exact Nat.le_refl _⟩,⟨by (with_reducible repeat (first|refine qah ?_ _|refine qai ?_|refine qag ?_ _));exact BK258.out⟩,⟨by repeat (first|(with_reducible first|exact HB.out|apply qab|apply qaa|apply qac|refine qae ?_ GE258.out)|exact HB.out)⟩⟩
       ·replace c21 := Bool.eq_false_iff.mpr c21
        subst c21
        have H1 : (keelsonref2_Right.j1 kj1 false a0_0 a0_1 a0_2) = some r := by rw [if_neg (show ¬ (false = true) by decide)] at H;exact H
        clear H
        have H := H1
        clear H1
        have H' := Aside0.mk H
        clear H
        have hcz23_0 : wc.cell? ⟨gb258,0,none⟩ = some (.int .i64 a0_0) := (qaf BK258.out 0).trans rfl
        have hcz23_1 : wc.cell? ⟨gb258,1,none⟩ = some (.string a0_1) := (qaf BK258.out 1).trans rfl
        have hcz23_2 : wc.cell? ⟨gb258,2,none⟩ = some (.string a0_2) := (qaf BK258.out 2).trans rfl
        have hfz23_0 := qad BK258.out 0
        have hfz23_1 := qad BK258.out 1
        have hfz23_2 := qad BK258.out 2
        go_wp2_with (first|((with_reducible refine qam (f := 116) rfl ?_);refine goesL_ (some 29) rfl rfl Tryz.func116 (by kernel_rfl) rfl #[.string a0_1,.int .u8 45] rfl (by first|rfl|(simp only [List.map_toArray,List.map_cons,List.map_nil,List.length_drop,List.length_take];rfl)|simp only [List.map_toArray,List.map_cons,List.map_nil]) ?_;(with_reducible refine (keelsonref2_has.calls kj1 a0_1 45 true _ (by first|exact hG|exact GL.below hG (by repeat (first|(with_reducible first|exact HB.out|apply qab|apply qaa|apply qac|refine qae ?_ GE258.out)|exact HB.out)))  A16.out).mono ?_);rintro e w' ⟨rfl,⟨nd,rfl⟩⟩;refine ⟨_,rfl,?_⟩)|(go_at_call 116;(with_reducible refine (keelsonref2_has.calls kj1 a0_1 58 false _ (by first|exact hG|exact GL.below hG (by repeat (first|(with_reducible first|exact HB.out|apply qab|apply qaa|apply qac|refine qae ?_ GE258.out)|exact HB.out)))  A20.out).mono ?_);rintro e w' ⟨rfl,⟨nd,rfl⟩⟩))
        go_meet
        case rel => exact ⟨_,(false),(by first|rfl|(simp;done)|(simp [*];done)|(simp [qaj];done)),H',⟨by have := HJ1.out;first|omega|exact Nat.le_refl _⟩,⟨by (with_reducible repeat (first|refine qah ?_ _|refine qai ?_|refine qag ?_ _));exact BK258.out⟩,⟨by repeat (first|(with_reducible first|exact HB.out|apply qab|apply qaa|apply qac|refine qae ?_ GE258.out)|exact HB.out)⟩⟩
     ·replace c17 := Bool.eq_false_iff.mpr c17
      subst c17
      have H1 : ((keelsonref2_has.f kj1 a0_1 58).bind fun t262 => (if t262 = true then (keelsonref2_Right.j1 kj1 (a0_0 == 0) a0_0 a0_1 a0_2) else (keelsonref2_Right.j1 kj1 false a0_0 a0_1 a0_2))) = some r := by rw [if_neg (show ¬ (false = true) by decide)] at H;exact H
      clear H
      have H := H1
      clear H1
      replace H := Option.bind_eq_some_iff.mp H
      obtain ⟨t262,A240,H⟩ := H
      replace H : (if t262 = true then (keelsonref2_Right.j1 kj1 (a0_0 == 0) a0_0 a0_1 a0_2) else (keelsonref2_Right.j1 kj1 false a0_0 a0_1 a0_2)) = some r := H
      have A24 := Aside0.mk A240
      clear A240
      by_cases c25 : t262 = true
      ·subst c25
       have H1 : (keelsonref2_Right.j1 kj1 (a0_0 == 0) a0_0 a0_1 a0_2) = some r := by rw [if_pos rfl] at H;exact H
       clear H
       have H := H1
       clear H1
       have H' := Aside0.mk H
       clear H
       have hcz26_0 : wc.cell? ⟨gb258,0,none⟩ = some (.int .i64 a0_0) := (qaf BK258.out 0).trans rfl
       have hcz26_1 : wc.cell? ⟨gb258,1,none⟩ = some (.string a0_1) := (qaf BK258.out 1).trans rfl
       have hcz26_2 : wc.cell? ⟨gb258,2,none⟩ = some (.string a0_2) := (qaf BK258.out 2).trans rfl
       have hfz26_0 := qad BK258.out 0
       have hfz26_1 := qad BK258.out 1
       have hfz26_2 := qad BK258.out 2
       go_wp2_with (first|((with_reducible refine qam (f := 116) rfl ?_);refine goesL_ (some 29) rfl rfl Tryz.func116 (by kernel_rfl) rfl #[.string a0_1,.int .u8 45] rfl (by first|rfl|(simp only [List.map_toArray,List.map_cons,List.map_nil,List.length_drop,List.length_take];rfl)|simp only [List.map_toArray,List.map_cons,List.map_nil]) ?_;(with_reducible refine (keelsonref2_has.calls kj1 a0_1 45 false _ (by first|exact hG|exact GL.below hG (by repeat (first|(with_reducible first|exact HB.out|apply qab|apply qaa|apply qac|refine qae ?_ GE258.out)|exact HB.out)))  A16.out).mono ?_);rintro e w' ⟨rfl,⟨nd,rfl⟩⟩;refine ⟨_,rfl,?_⟩)|(go_at_call 116;(with_reducible refine (keelsonref2_has.calls kj1 a0_1 58 true _ (by first|exact hG|exact GL.below hG (by repeat (first|(with_reducible first|exact HB.out|apply qab|apply qaa|apply qac|refine qae ?_ GE258.out)|exact HB.out)))  A24.out).mono ?_);rintro e w' ⟨rfl,⟨nd,rfl⟩⟩))
       go_meet
       case rel => exact ⟨_,((a0_0 == 0)),(by first|rfl|(simp;done)|(simp [*];done)|(simp [qaj];done)),H',⟨by have := HJ1.out;first|omega|exact Nat.le_refl _⟩,⟨by (with_reducible repeat (first|refine qah ?_ _|refine qai ?_|refine qag ?_ _));exact BK258.out⟩,⟨by repeat (first|(with_reducible first|exact HB.out|apply qab|apply qaa|apply qac|refine qae ?_ GE258.out)|exact HB.out)⟩⟩
      ·replace c25 := Bool.eq_false_iff.mpr c25
       subst c25
       have H1 : (keelsonref2_Right.j1 kj1 false a0_0 a0_1 a0_2) = some r := by rw [if_neg (show ¬ (false = true) by decide)] at H;exact H
       clear H
       have H := H1
       clear H1
       have H' := Aside0.mk H
       clear H
       have hcz27_0 : wc.cell? ⟨gb258,0,none⟩ = some (.int .i64 a0_0) := (qaf BK258.out 0).trans rfl
       have hcz27_1 : wc.cell? ⟨gb258,1,none⟩ = some (.string a0_1) := (qaf BK258.out 1).trans rfl
       have hcz27_2 : wc.cell? ⟨gb258,2,none⟩ = some (.string a0_2) := (qaf BK258.out 2).trans rfl
       have hfz27_0 := qad BK258.out 0
       have hfz27_1 := qad BK258.out 1
       have hfz27_2 := qad BK258.out 2
       go_wp2_with (first|((with_reducible refine qam (f := 116) rfl ?_);refine goesL_ (some 29) rfl rfl Tryz.func116 (by kernel_rfl) rfl #[.string a0_1,.int .u8 45] rfl (by first|rfl|(simp only [List.map_toArray,List.map_cons,List.map_nil,List.length_drop,List.length_take];rfl)|simp only [List.map_toArray,List.map_cons,List.map_nil]) ?_;(with_reducible refine (keelsonref2_has.calls kj1 a0_1 45 false _ (by first|exact hG|exact GL.below hG (by repeat (first|(with_reducible first|exact HB.out|apply qab|apply qaa|apply qac|refine qae ?_ GE258.out)|exact HB.out)))  A16.out).mono ?_);rintro e w' ⟨rfl,⟨nd,rfl⟩⟩;refine ⟨_,rfl,?_⟩)|(go_at_call 116;(with_reducible refine (keelsonref2_has.calls kj1 a0_1 58 false _ (by first|exact hG|exact GL.below hG (by repeat (first|(with_reducible first|exact HB.out|apply qab|apply qaa|apply qac|refine qae ?_ GE258.out)|exact HB.out)))  A24.out).mono ?_);rintro e w' ⟨rfl,⟨nd,rfl⟩⟩))
       go_meet
       case rel => exact ⟨_,(false),(by first|rfl|(simp;done)|(simp [*];done)|(simp [qaj];done)),H',⟨by have := HJ1.out;first|omega|exact Nat.le_refl _⟩,⟨by (with_reducible repeat (first|refine qah ?_ _|refine qai ?_|refine qag ?_ _));exact BK258.out⟩,⟨by repeat (first|(with_reducible first|exact HB.out|apply qab|apply qaa|apply qac|refine qae ?_ GE258.out)|exact HB.out)⟩⟩
    case rest =>
     clear HC15
     try clear c1
     try clear p1
     try clear q1
     try clear hx1
     try clear qi1
     try clear c2
     try clear p2
     try clear c4
     try clear c4b0
     try clear c6
     try clear c6b0
     try clear c8
     try clear c8b0
     try clear c8b1
     try clear c9
     try clear c10
     try clear c10b0
     try clear c10b1
     try clear c11
     try clear p11
     try clear q11
     try clear hx11
     try clear qi11
     try clear c14
     try clear c17
     try clear c18
     try clear c18b0
     try clear c18b1
     try clear c21
     try clear c25
     try clear hcz13_0
     try clear hcz13_1
     try clear hcz13_2
     try clear hcz19_0
     try clear hcz19_1
     try clear hcz19_2
     try clear hcz22_0
     try clear hcz22_1
     try clear hcz22_2
     try clear hcz23_0
     try clear hcz23_1
     try clear hcz23_2
     try clear hcz26_0
     try clear hcz26_1
     try clear hcz26_2
     try clear hcz27_0
     try clear hcz27_1
     try clear hcz27_2
     try clear hcz5_0
     try clear hcz5_1
     try clear hcz5_2
     try clear hcz7_0
     try clear hcz7_1
     try clear hcz7_2
     try clear hcz9_0
     try clear hcz9_1
     try clear hcz9_2
     try clear hfz13_0
     try clear hfz13_1
     try clear hfz13_2
     try clear hfz19_0
     try clear hfz19_1
     try clear hfz19_2
     try clear hfz22_0
     try clear hfz22_1
     try clear hfz22_2
     try clear hfz23_0
     try clear hfz23_1
     try clear hfz23_2
     try clear hfz26_0
     try clear hfz26_1
     try clear hfz26_2
     try clear hfz27_0
     try clear hfz27_1
     try clear hfz27_2
     try clear hfz5_0
     try clear hfz5_1
     try clear hfz5_2
     try clear hfz7_0
     try clear hfz7_1
     try clear hfz7_2
     try clear hfz9_0
     try clear hfz9_1
     try clear hfz9_2
     try clear p1
     try clear p11
     try clear p2
     try clear q1
     try clear q11
     obtain ⟨kq,x44_14,rfl,HA,HJ14,BK258,HB⟩ := hcut
     cases kq with
     | zero => exact absurd HA.out (by simp [keelsonref2_Right.j1])
     | succ kj14 =>
      have H := HA.out
      clear HA
      simp only [keelsonref2_Right.j1] at H
      by_cases c28 : x44_14 = true
      ·subst c28
       have H1 : (some false) = some r := by rw [if_pos rfl] at H;exact H
       clear H
       have H := H1
       clear H1
       obtain rfl := Option.some.inj H
       go_wp2
       go_ret
       exact ⟨by first|rfl|(simp [qak,qal]<;>rfl)|(simp [*,qak,qal]<;>rfl),by repeat (first|(with_reducible first|exact HB.out|apply qab|apply qaa|apply qac|refine qae ?_ GE258.out)|exact HB.out)⟩
      ·replace c28 := Bool.eq_false_iff.mpr c28
       subst c28
       have H1 : (keelsonref2_Right.l0 kj14 0 a0_0 a0_1 a0_2) = some r := by rw [if_neg (show ¬ (false = true) by decide)] at H;exact H
       clear H
       have H := H1
       clear H1
       have H' := Aside0.mk H
       clear H
       go_wp2
       go_loopg [3] kj14 (fun kq v3 w' => ∃ (x3_3 : Int),v3 = .int .i64 x3_3 ∧ Aside0 (keelsonref2_Right.l0 kq x3_3 a0_0 a0_1 a0_2 = some r) ∧ Aside0 (kq ≤ kj14) ∧ Aside0 (w'.heap[gb258]? = some (.cells #[.int .i64 a0_0,.string a0_1,.string a0_2] 90 (0,0))) ∧ Aside0 (Below w.heap.size w w'))
       case atStart => exact ⟨(0),(by first|rfl|(simp;done)|(simp [*];done)|(simp [qaj];done)),H',⟨Nat.le_refl _⟩,⟨by (with_reducible repeat (first|refine qah ?_ _|refine qai ?_|refine qag ?_ _));exact BK258.out⟩,⟨by repeat (first|(with_reducible first|exact HB.out|apply qab|apply qaa|apply qac|refine qae ?_ GE258.out)|exact HB.out)⟩⟩
       case round =>
        clear H'
        try clear c1
        try clear p1
        try clear q1
        try clear hx1
        try clear qi1
        try clear c2
        try clear p2
        try clear c4
        try clear c4b0
        try clear c6
        try clear c6b0
        try clear c8
        try clear c8b0
        try clear c8b1
        try clear c9
        try clear c10
        try clear c10b0
        try clear c10b1
        try clear c11
        try clear p11
        try clear q11
        try clear hx11
        try clear qi11
        try clear c14
        try clear c17
        try clear c18
        try clear c18b0
        try clear c18b1
        try clear c21
        try clear c25
        try clear c28
        try clear hcz13_0
        try clear hcz13_1
        try clear hcz13_2
        try clear hcz19_0
        try clear hcz19_1
        try clear hcz19_2
        try clear hcz22_0
        try clear hcz22_1
        try clear hcz22_2
        try clear hcz23_0
        try clear hcz23_1
        try clear hcz23_2
        try clear hcz26_0
        try clear hcz26_1
        try clear hcz26_2
        try clear hcz27_0
        try clear hcz27_1
        try clear hcz27_2
        try clear hcz5_0
        try clear hcz5_1
        try clear hcz5_2
        try clear hcz7_0
        try clear hcz7_1
        try clear hcz7_2
        try clear hcz9_0
        try clear hcz9_1
        try clear hcz9_2
        try clear hfz13_0
        try clear hfz13_1
        try clear hfz13_2
        try clear hfz19_0
        try clear hfz19_1
        try clear hfz19_2
        try clear hfz22_0
        try clear hfz22_1
        try clear hfz22_2
        try clear hfz23_0
        try clear hfz23_1
        try clear hfz23_2
        try clear hfz26_0
        try clear hfz26_1
        try clear hfz26_2
        try clear hfz27_0
        try clear hfz27_1
        try clear hfz27_2
        try clear hfz5_0
        try clear hfz5_1
        try clear hfz5_2
        try clear hfz7_0
        try clear hfz7_1
        try clear hfz7_2
        try clear hfz9_0
        try clear hfz9_1
        try clear hfz9_2
        try clear p1
        try clear p11
        try clear p2
        try clear q1
        try clear q11
        obtain ⟨x3_3,rfl,HA,HK3,BK258,HB⟩ := hrel
        cases gk with
        | zero => exact absurd HA.out (by simp [keelsonref2_Right.l0])
        | succ k3 =>
         have H := HA.out
         clear HA
         simp only [keelsonref2_Right.l0] at H
         by_cases c29 : x3_3 < (a0_1.size : Int)
         ·rw [if_pos c29] at H
          have c29b0 : decide (x3_3 < (a0_1.size : Int)) = true := decide_eq_true c29
          clear c29
          by_cases c30 : 0 ≤ x3_3
          ·rw [if_pos c30] at H
           have c30b0 : decide (0 ≤ x3_3) = true := decide_eq_true c30
           clear c30
           replace H := Option.bind_eq_some_iff.mp H
           obtain ⟨t263,A320,H⟩ := H
           replace H : (if t263 = true then (keelsonref2_Right.l0 k3 (wrap64 (x3_3 + 1)) a0_0 a0_1 a0_2) else ((keelsonref2_Digit.f (bt a0_1 x3_3)).bind fun t264 => (if t264 = true then (keelsonref2_Right.l0 k3 (wrap64 (x3_3 + 1)) a0_0 a0_1 a0_2) else ((keelsonref2_has.f k3 (⟨#[46,43,126,45,58]⟩ : ByteArray) (bt a0_1 x3_3)).bind fun t265 => (if t265 = true then (keelsonref2_Right.l0 k3 (wrap64 (x3_3 + 1)) a0_0 a0_1 a0_2) else (some false)))))) = some r := H
           have A32 := Aside0.mk A320
           clear A320
           by_cases c33 : t263 = true
           ·subst c33
            have H1 : (keelsonref2_Right.l0 k3 (wrap64 (x3_3 + 1)) a0_0 a0_1 a0_2) = some r := by rw [if_pos rfl] at H;exact H
            clear H
            have H := H1
            clear H1
            have H' := Aside0.mk H
            clear H
            have hcz34_0 : wr.cell? ⟨gb258,0,none⟩ = some (.int .i64 a0_0) := (qaf BK258.out 0).trans rfl
            have hcz34_1 : wr.cell? ⟨gb258,1,none⟩ = some (.string a0_1) := (qaf BK258.out 1).trans rfl
            have hcz34_2 : wr.cell? ⟨gb258,2,none⟩ = some (.string a0_2) := (qaf BK258.out 2).trans rfl
            have hfz34_0 := qad BK258.out 0
            have hfz34_1 := qad BK258.out 1
            have hfz34_2 := qad BK258.out 2
            have p31 : 0 ≤ (x3_3 : Int) := of_decide_eq_true (by assumption)
            have q31 : x3_3 < (a0_1.size : Int) := of_decide_eq_true (by assumption)
            have hx31 := bt_at a0_1 x3_3
            replace p31 := eq_true p31
            replace q31 := eq_true q31
            go_wp2_with (first|((with_reducible refine qam (f := 117) rfl ?_);refine goesL_ (some 57) rfl rfl Tryz.func117 (by kernel_rfl) rfl #[.int .u8 (bt a0_1 x3_3)] rfl (by first|rfl|(simp only [List.map_toArray,List.map_cons,List.map_nil,List.length_drop,List.length_take];rfl)|simp only [List.map_toArray,List.map_cons,List.map_nil]) ?_;(with_reducible refine (keelsonref2_Letter.calls (bt a0_1 x3_3) true _ (by first|exact hG|exact GL.below hG (by repeat (first|(with_reducible first|exact HB.out|apply qab|apply qaa|apply qac|refine qae ?_ GE258.out)|exact HB.out)))  A32.out).mono ?_);rintro e w' ⟨rfl,⟨nd,rfl⟩⟩;refine ⟨_,rfl,?_⟩))
            go_roundg k3
            case measure => have := HJ1.out;have := HJ14.out;have := HK3.out;omega
            case rel => exact ⟨(wrap64 (x3_3 + 1)),(by first|rfl|(simp;done)|(simp [*];done)|(simp [qaj];done)),H',⟨by have := HJ1.out;have := HJ14.out;have := HK3.out;omega⟩,⟨by (with_reducible repeat (first|refine qah ?_ _|refine qai ?_|refine qag ?_ _));exact BK258.out⟩,⟨by repeat (first|(with_reducible first|exact HB.out|apply qab|apply qaa|apply qac|refine qae ?_ GE258.out)|exact HB.out)⟩⟩
           ·replace c33 := Bool.eq_false_iff.mpr c33
            subst c33
            have H1 : ((keelsonref2_Digit.f (bt a0_1 x3_3)).bind fun t264 => (if t264 = true then (keelsonref2_Right.l0 k3 (wrap64 (x3_3 + 1)) a0_0 a0_1 a0_2) else ((keelsonref2_has.f k3 (⟨#[46,43,126,45,58]⟩ : ByteArray) (bt a0_1 x3_3)).bind fun t265 => (if t265 = true then (keelsonref2_Right.l0 k3 (wrap64 (x3_3 + 1)) a0_0 a0_1 a0_2) else (some false))))) = some r := by rw [if_neg (show ¬ (false = true) by decide)] at H;exact H
            clear H
            have H := H1
            clear H1
            replace H := Option.bind_eq_some_iff.mp H
            obtain ⟨t264,A350,H⟩ := H
            replace H : (if t264 = true then (keelsonref2_Right.l0 k3 (wrap64 (x3_3 + 1)) a0_0 a0_1 a0_2) else ((keelsonref2_has.f k3 (⟨#[46,43,126,45,58]⟩ : ByteArray) (bt a0_1 x3_3)).bind fun t265 => (if t265 = true then (keelsonref2_Right.l0 k3 (wrap64 (x3_3 + 1)) a0_0 a0_1 a0_2) else (some false)))) = some r := H
            have A35 := Aside0.mk A350
            clear A350
            by_cases c36 : t264 = true
            ·subst c36
             have H1 : (keelsonref2_Right.l0 k3 (wrap64 (x3_3 + 1)) a0_0 a0_1 a0_2) = some r := by rw [if_pos rfl] at H;exact H
             clear H
             have H := H1
             clear H1
             have H' := Aside0.mk H
             clear H
             have hcz37_0 : wr.cell? ⟨gb258,0,none⟩ = some (.int .i64 a0_0) := (qaf BK258.out 0).trans rfl
             have hcz37_1 : wr.cell? ⟨gb258,1,none⟩ = some (.string a0_1) := (qaf BK258.out 1).trans rfl
             have hcz37_2 : wr.cell? ⟨gb258,2,none⟩ = some (.string a0_2) := (qaf BK258.out 2).trans rfl
             have hfz37_0 := qad BK258.out 0
             have hfz37_1 := qad BK258.out 1
             have hfz37_2 := qad BK258.out 2
             have p31 : 0 ≤ (x3_3 : Int) := of_decide_eq_true (by assumption)
             have q31 : x3_3 < (a0_1.size : Int) := of_decide_eq_true (by assumption)
             have hx31 := bt_at a0_1 x3_3
             replace p31 := eq_true p31
             replace q31 := eq_true q31
             go_wp2_with (first|((with_reducible refine qam (f := 117) rfl ?_);refine goesL_ (some 57) rfl rfl Tryz.func117 (by kernel_rfl) rfl #[.int .u8 (bt a0_1 x3_3)] rfl (by first|rfl|(simp only [List.map_toArray,List.map_cons,List.map_nil,List.length_drop,List.length_take];rfl)|simp only [List.map_toArray,List.map_cons,List.map_nil]) ?_;(with_reducible refine (keelsonref2_Letter.calls (bt a0_1 x3_3) false _ (by first|exact hG|exact GL.below hG (by repeat (first|(with_reducible first|exact HB.out|apply qab|apply qaa|apply qac|refine qae ?_ GE258.out)|exact HB.out)))  A32.out).mono ?_);rintro e w' ⟨rfl,⟨nd,rfl⟩⟩;refine ⟨_,rfl,?_⟩)|(go_at_call 69;(with_reducible refine (keelsonref2_Digit.calls (bt a0_1 x3_3) true _ (by first|exact hG|exact GL.below hG (by repeat (first|(with_reducible first|exact HB.out|apply qab|apply qaa|apply qac|refine qae ?_ GE258.out)|exact HB.out)))  A35.out).mono ?_);rintro e w' ⟨rfl,⟨nd,rfl⟩⟩))
             go_roundg k3
             case measure => have := HJ1.out;have := HJ14.out;have := HK3.out;omega
             case rel => exact ⟨(wrap64 (x3_3 + 1)),(by first|rfl|(simp;done)|(simp [*];done)|(simp [qaj];done)),H',⟨by have := HJ1.out;have := HJ14.out;have := HK3.out;omega⟩,⟨by (with_reducible repeat (first|refine qah ?_ _|refine qai ?_|refine qag ?_ _));exact BK258.out⟩,⟨by repeat (first|(with_reducible first|exact HB.out|apply qab|apply qaa|apply qac|refine qae ?_ GE258.out)|exact HB.out)⟩⟩
            ·replace c36 := Bool.eq_false_iff.mpr c36
             subst c36
             have H1 : ((keelsonref2_has.f k3 (⟨#[46,43,126,45,58]⟩ : ByteArray) (bt a0_1 x3_3)).bind fun t265 => (if t265 = true then (keelsonref2_Right.l0 k3 (wrap64 (x3_3 + 1)) a0_0 a0_1 a0_2) else (some false))) = some r := by rw [if_neg (show ¬ (false = true) by decide)] at H;exact H
             clear H
             have H := H1
             clear H1
             replace H := Option.bind_eq_some_iff.mp H
             obtain ⟨t265,A380,H⟩ := H
             replace H : (if t265 = true then (keelsonref2_Right.l0 k3 (wrap64 (x3_3 + 1)) a0_0 a0_1 a0_2) else (some false)) = some r := H
             have A38 := Aside0.mk A380
             clear A380
             by_cases c39 : t265 = true
             ·subst c39
              have H1 : (keelsonref2_Right.l0 k3 (wrap64 (x3_3 + 1)) a0_0 a0_1 a0_2) = some r := by rw [if_pos rfl] at H;exact H
              clear H
              have H := H1
              clear H1
              have H' := Aside0.mk H
              clear H
              have hcz40_0 : wr.cell? ⟨gb258,0,none⟩ = some (.int .i64 a0_0) := (qaf BK258.out 0).trans rfl
              have hcz40_1 : wr.cell? ⟨gb258,1,none⟩ = some (.string a0_1) := (qaf BK258.out 1).trans rfl
              have hcz40_2 : wr.cell? ⟨gb258,2,none⟩ = some (.string a0_2) := (qaf BK258.out 2).trans rfl
              have hfz40_0 := qad BK258.out 0
              have hfz40_1 := qad BK258.out 1
              have hfz40_2 := qad BK258.out 2
              have p31 : 0 ≤ (x3_3 : Int) := of_decide_eq_true (by assumption)
              have q31 : x3_3 < (a0_1.size : Int) := of_decide_eq_true (by assumption)
              have hx31 := bt_at a0_1 x3_3
              replace p31 := eq_true p31
              replace q31 := eq_true q31
              go_wp2_with (first|((with_reducible refine qam (f := 117) rfl ?_);refine goesL_ (some 57) rfl rfl Tryz.func117 (by kernel_rfl) rfl #[.int .u8 (bt a0_1 x3_3)] rfl (by first|rfl|(simp only [List.map_toArray,List.map_cons,List.map_nil,List.length_drop,List.length_take];rfl)|simp only [List.map_toArray,List.map_cons,List.map_nil]) ?_;(with_reducible refine (keelsonref2_Letter.calls (bt a0_1 x3_3) false _ (by first|exact hG|exact GL.below hG (by repeat (first|(with_reducible first|exact HB.out|apply qab|apply qaa|apply qac|refine qae ?_ GE258.out)|exact HB.out)))  A32.out).mono ?_);rintro e w' ⟨rfl,⟨nd,rfl⟩⟩;refine ⟨_,rfl,?_⟩)|(go_at_call 69;(with_reducible refine (keelsonref2_Digit.calls (bt a0_1 x3_3) false _ (by first|exact hG|exact GL.below hG (by repeat (first|(with_reducible first|exact HB.out|apply qab|apply qaa|apply qac|refine qae ?_ GE258.out)|exact HB.out)))  A35.out).mono ?_);rintro e w' ⟨rfl,⟨nd,rfl⟩⟩)|(go_at_call 116;(with_reducible refine (keelsonref2_has.calls k3 (⟨#[46,43,126,45,58]⟩ : ByteArray) (bt a0_1 x3_3) true _ (by first|exact hG|exact GL.below hG (by repeat (first|(with_reducible first|exact HB.out|apply qab|apply qaa|apply qac|refine qae ?_ GE258.out)|exact HB.out)))  A38.out).mono ?_);rintro e w' ⟨rfl,⟨nd,rfl⟩⟩))
              go_roundg k3
              case measure => have := HJ1.out;have := HJ14.out;have := HK3.out;omega
              case rel => exact ⟨(wrap64 (x3_3 + 1)),(by first|rfl|(simp;done)|(simp [*];done)|(simp [qaj];done)),H',⟨by have := HJ1.out;have := HJ14.out;have := HK3.out;omega⟩,⟨by (with_reducible repeat (first|refine qah ?_ _|refine qai ?_|refine qag ?_ _));exact BK258.out⟩,⟨by repeat (first|(with_reducible first|exact HB.out|apply qab|apply qaa|apply qac|refine qae ?_ GE258.out)|exact HB.out)⟩⟩
             ·replace c39 := Bool.eq_false_iff.mpr c39
              subst c39
              have H1 : (some false) = some r := by rw [if_neg (show ¬ (false = true) by decide)] at H;exact H
              clear H
              have H := H1
              clear H1
              obtain rfl := Option.some.inj H
              have hcz41_0 : wr.cell? ⟨gb258,0,none⟩ = some (.int .i64 a0_0) := (qaf BK258.out 0).trans rfl
              have hcz41_1 : wr.cell? ⟨gb258,1,none⟩ = some (.string a0_1) := (qaf BK258.out 1).trans rfl
              have hcz41_2 : wr.cell? ⟨gb258,2,none⟩ = some (.string a0_2) := (qaf BK258.out 2).trans rfl
              have hfz41_0 := qad BK258.out 0
              have hfz41_1 := qad BK258.out 1
              have hfz41_2 := qad BK258.out 2
              have p31 : 0 ≤ (x3_3 : Int) := of_decide_eq_true (by assumption)
              have q31 : x3_3 < (a0_1.size : Int) := of_decide_eq_true (by assumption)
              have hx31 := bt_at a0_1 x3_3
              replace p31 := eq_true p31
              replace q31 := eq_true q31
              go_wp2_with (first|((with_reducible refine qam (f := 117) rfl ?_);refine goesL_ (some 57) rfl rfl Tryz.func117 (by kernel_rfl) rfl #[.int .u8 (bt a0_1 x3_3)] rfl (by first|rfl|(simp only [List.map_toArray,List.map_cons,List.map_nil,List.length_drop,List.length_take];rfl)|simp only [List.map_toArray,List.map_cons,List.map_nil]) ?_;(with_reducible refine (keelsonref2_Letter.calls (bt a0_1 x3_3) false _ (by first|exact hG|exact GL.below hG (by repeat (first|(with_reducible first|exact HB.out|apply qab|apply qaa|apply qac|refine qae ?_ GE258.out)|exact HB.out)))  A32.out).mono ?_);rintro e w' ⟨rfl,⟨nd,rfl⟩⟩;refine ⟨_,rfl,?_⟩)|(go_at_call 69;(with_reducible refine (keelsonref2_Digit.calls (bt a0_1 x3_3) false _ (by first|exact hG|exact GL.below hG (by repeat (first|(with_reducible first|exact HB.out|apply qab|apply qaa|apply qac|refine qae ?_ GE258.out)|exact HB.out)))  A35.out).mono ?_);rintro e w' ⟨rfl,⟨nd,rfl⟩⟩)|(go_at_call 116;(with_reducible refine (keelsonref2_has.calls k3 (⟨#[46,43,126,45,58]⟩ : ByteArray) (bt a0_1 x3_3) false _ (by first|exact hG|exact GL.below hG (by repeat (first|(with_reducible first|exact HB.out|apply qab|apply qaa|apply qac|refine qae ?_ GE258.out)|exact HB.out)))  A38.out).mono ?_);rintro e w' ⟨rfl,⟨nd,rfl⟩⟩))
              go_ret
              exact ⟨by first|rfl|(simp [qak,qal]<;>rfl)|(simp [*,qak,qal]<;>rfl),by repeat (first|(with_reducible first|exact HB.out|apply qab|apply qaa|apply qac|refine qae ?_ GE258.out)|exact HB.out)⟩
          ·rw [if_neg c30] at H
           exact absurd H (by simp)
         ·rw [if_neg c29] at H
          have c29b0 : decide (x3_3 < (a0_1.size : Int)) = false := decide_eq_false c29
          clear c29
          have H' := Aside0.mk H
          clear H
          have hcz42_0 : wr.cell? ⟨gb258,0,none⟩ = some (.int .i64 a0_0) := (qaf BK258.out 0).trans rfl
          have hcz42_1 : wr.cell? ⟨gb258,1,none⟩ = some (.string a0_1) := (qaf BK258.out 1).trans rfl
          have hcz42_2 : wr.cell? ⟨gb258,2,none⟩ = some (.string a0_2) := (qaf BK258.out 2).trans rfl
          have hfz42_0 := qad BK258.out 0
          have hfz42_1 := qad BK258.out 1
          have hfz42_2 := qad BK258.out 2
          go_wp2
          go_loopg [5] k3 (fun kq v5 w' => ∃ (x5_4 : Int),v5 = .int .i64 x5_4 ∧ Aside0 (keelsonref2_Right.l1 kq x5_4 a0_0 a0_1 a0_2 = some r) ∧ Aside0 (kq ≤ k3) ∧ Aside0 (w'.heap[gb258]? = some (.cells #[.int .i64 a0_0,.string a0_1,.string a0_2] 90 (0,0))) ∧ Aside0 (Below w.heap.size w w'))
          case atStart => exact ⟨(0),(by first|rfl|(simp;done)|(simp [*];done)|(simp [qaj];done)),H',⟨Nat.le_refl _⟩,⟨by (with_reducible repeat (first|refine qah ?_ _|refine qai ?_|refine qag ?_ _));exact BK258.out⟩,⟨by repeat (first|(with_reducible first|exact HB.out|apply qab|apply qaa|apply qac|refine qae ?_ GE258.out)|exact HB.out)⟩⟩
          case round =>
           clear H'
           try clear c1
           try clear p1
           try clear q1
           try clear hx1
           try clear qi1
           try clear c2
           try clear p2
           try clear c3
           try clear p3
           try clear q3
           try clear hx3
           try clear c4
           try clear c4b0
           try clear c6
           try clear c6b0
           try clear p6
           try clear c8
           try clear c8b0
           try clear c8b1
           try clear c9
           try clear c10
           try clear c10b0
           try clear c10b1
           try clear c11
           try clear p11
           try clear q11
           try clear hx11
           try clear qi11
           try clear c14
           try clear c17
           try clear c18
           try clear c18b0
           try clear c18b1
           try clear c21
           try clear c25
           try clear c28
           try clear c29
           try clear c29b0
           try clear c30
           try clear c30b0
           try clear p31
           try clear q31
           try clear hx31
           try clear c33
           try clear c36
           try clear c39
           try clear hcz13_0
           try clear hcz13_1
           try clear hcz13_2
           try clear hcz19_0
           try clear hcz19_1
           try clear hcz19_2
           try clear hcz22_0
           try clear hcz22_1
           try clear hcz22_2
           try clear hcz23_0
           try clear hcz23_1
           try clear hcz23_2
           try clear hcz26_0
           try clear hcz26_1
           try clear hcz26_2
           try clear hcz27_0
           try clear hcz27_1
           try clear hcz27_2
           try clear hcz34_0
           try clear hcz34_1
           try clear hcz34_2
           try clear hcz37_0
           try clear hcz37_1
           try clear hcz37_2
           try clear hcz40_0
           try clear hcz40_1
           try clear hcz40_2
           try clear hcz41_0
           try clear hcz41_1
           try clear hcz41_2
           try clear hcz42_0
           try clear hcz42_1
           try clear hcz42_2
           try clear hcz5_0
           try clear hcz5_1
           try clear hcz5_2
           try clear hcz7_0
           try clear hcz7_1
           try clear hcz7_2
           try clear hcz9_0
           try clear hcz9_1
           try clear hcz9_2
           try clear hfz13_0
           try clear hfz13_1
           try clear hfz13_2
           try clear hfz19_0
           try clear hfz19_1
           try clear hfz19_2
           try clear hfz22_0
           try clear hfz22_1
           try clear hfz22_2
           try clear hfz23_0
           try clear hfz23_1
           try clear hfz23_2
           try clear hfz26_0
           try clear hfz26_1
           try clear hfz26_2
           try clear hfz27_0
           try clear hfz27_1
           try clear hfz27_2
           try clear hfz34_0
           try clear hfz34_1
           try clear hfz34_2
           try clear hfz37_0
           try clear hfz37_1
           try clear hfz37_2
           try clear hfz40_0
           try clear hfz40_1
           try clear hfz40_2
           try clear hfz41_0
           try clear hfz41_1
           try clear hfz41_2
           try clear hfz42_0
           try clear hfz42_1
           try clear hfz42_2
           try clear hfz5_0
           try clear hfz5_1
           try clear hfz5_2
           try clear hfz7_0
           try clear hfz7_1
           try clear hfz7_2
           try clear hfz9_0
           try clear hfz9_1
           try clear hfz9_2
           try clear p1
           try clear p11
           try clear p2
           try clear p31
           try clear q1
           try clear q11
           try clear q31
           obtain ⟨x5_4,rfl,HA,HK4,BK258,HB⟩ := hrel
           cases gk with
           | zero => exact absurd HA.out (by simp [keelsonref2_Right.l1])
           | succ k4 =>
            have H := HA.out
            clear HA
            simp only [keelsonref2_Right.l1] at H
            by_cases c43 : x5_4 < (a0_2.size : Int)
            ·rw [if_pos c43] at H
             have c43b0 : decide (x5_4 < (a0_2.size : Int)) = true := decide_eq_true c43
             clear c43
             by_cases c44 : 0 ≤ x5_4
             ·rw [if_pos c44] at H
              have c44b0 : decide (0 ≤ x5_4) = true := decide_eq_true c44
              clear c44
              replace H := Option.bind_eq_some_iff.mp H
              obtain ⟨t267,A460,H⟩ := H
              replace H : (if t267 = true then (keelsonref2_Right.l1 k4 (wrap64 (x5_4 + 1)) a0_0 a0_1 a0_2) else ((keelsonref2_Digit.f (bt a0_2 x5_4)).bind fun t268 => (if t268 = true then (keelsonref2_Right.l1 k4 (wrap64 (x5_4 + 1)) a0_0 a0_1 a0_2) else ((keelsonref2_has.f k4 (⟨#[46,43,126]⟩ : ByteArray) (bt a0_2 x5_4)).bind fun t269 => (if t269 = true then (keelsonref2_Right.l1 k4 (wrap64 (x5_4 + 1)) a0_0 a0_1 a0_2) else (some false)))))) = some r := H
              have A46 := Aside0.mk A460
              clear A460
              by_cases c47 : t267 = true
              ·subst c47
               have H1 : (keelsonref2_Right.l1 k4 (wrap64 (x5_4 + 1)) a0_0 a0_1 a0_2) = some r := by rw [if_pos rfl] at H;exact H
               clear H
               have H := H1
               clear H1
               have H' := Aside0.mk H
               clear H
               have hcz48_0 : wr.cell? ⟨gb258,0,none⟩ = some (.int .i64 a0_0) := (qaf BK258.out 0).trans rfl
               have hcz48_1 : wr.cell? ⟨gb258,1,none⟩ = some (.string a0_1) := (qaf BK258.out 1).trans rfl
               have hcz48_2 : wr.cell? ⟨gb258,2,none⟩ = some (.string a0_2) := (qaf BK258.out 2).trans rfl
               have hfz48_0 := qad BK258.out 0
               have hfz48_1 := qad BK258.out 1
               have hfz48_2 := qad BK258.out 2
               have p45 : 0 ≤ (x5_4 : Int) := of_decide_eq_true (by assumption)
               have q45 : x5_4 < (a0_2.size : Int) := of_decide_eq_true (by assumption)
               have hx45 := bt_at a0_2 x5_4
               replace p45 := eq_true p45
               replace q45 := eq_true q45
               go_wp2_with (first|((with_reducible refine qam (f := 117) rfl ?_);refine goesL_ (some 81) rfl rfl Tryz.func117 (by kernel_rfl) rfl #[.int .u8 (bt a0_2 x5_4)] rfl (by first|rfl|(simp only [List.map_toArray,List.map_cons,List.map_nil,List.length_drop,List.length_take];rfl)|simp only [List.map_toArray,List.map_cons,List.map_nil]) ?_;(with_reducible refine (keelsonref2_Letter.calls (bt a0_2 x5_4) true _ (by first|exact hG|exact GL.below hG (by repeat (first|(with_reducible first|exact HB.out|apply qab|apply qaa|apply qac|refine qae ?_ GE258.out)|exact HB.out)))  A46.out).mono ?_);rintro e w' ⟨rfl,⟨nd,rfl⟩⟩;refine ⟨_,rfl,?_⟩))
               go_roundg k4
               case measure => have := HJ1.out;have := HJ14.out;have := HK3.out;have := HK4.out;omega
               case rel => exact ⟨(wrap64 (x5_4 + 1)),(by first|rfl|(simp;done)|(simp [*];done)|(simp [qaj];done)),H',⟨by have := HJ1.out;have := HJ14.out;have := HK3.out;have := HK4.out;omega⟩,⟨by (with_reducible repeat (first|refine qah ?_ _|refine qai ?_|refine qag ?_ _));exact BK258.out⟩,⟨by repeat (first|(with_reducible first|exact HB.out|apply qab|apply qaa|apply qac|refine qae ?_ GE258.out)|exact HB.out)⟩⟩
              ·replace c47 := Bool.eq_false_iff.mpr c47
               subst c47
               have H1 : ((keelsonref2_Digit.f (bt a0_2 x5_4)).bind fun t268 => (if t268 = true then (keelsonref2_Right.l1 k4 (wrap64 (x5_4 + 1)) a0_0 a0_1 a0_2) else ((keelsonref2_has.f k4 (⟨#[46,43,126]⟩ : ByteArray) (bt a0_2 x5_4)).bind fun t269 => (if t269 = true then (keelsonref2_Right.l1 k4 (wrap64 (x5_4 + 1)) a0_0 a0_1 a0_2) else (some false))))) = some r := by rw [if_neg (show ¬ (false = true) by decide)] at H;exact H
               clear H
               have H := H1
               clear H1
               replace H := Option.bind_eq_some_iff.mp H
               obtain ⟨t268,A490,H⟩ := H
               replace H : (if t268 = true then (keelsonref2_Right.l1 k4 (wrap64 (x5_4 + 1)) a0_0 a0_1 a0_2) else ((keelsonref2_has.f k4 (⟨#[46,43,126]⟩ : ByteArray) (bt a0_2 x5_4)).bind fun t269 => (if t269 = true then (keelsonref2_Right.l1 k4 (wrap64 (x5_4 + 1)) a0_0 a0_1 a0_2) else (some false)))) = some r := H
               have A49 := Aside0.mk A490
               clear A490
               by_cases c50 : t268 = true
               ·subst c50
                have H1 : (keelsonref2_Right.l1 k4 (wrap64 (x5_4 + 1)) a0_0 a0_1 a0_2) = some r := by rw [if_pos rfl] at H;exact H
                clear H
                have H := H1
                clear H1
                have H' := Aside0.mk H
                clear H
                have hcz51_0 : wr.cell? ⟨gb258,0,none⟩ = some (.int .i64 a0_0) := (qaf BK258.out 0).trans rfl
                have hcz51_1 : wr.cell? ⟨gb258,1,none⟩ = some (.string a0_1) := (qaf BK258.out 1).trans rfl
                have hcz51_2 : wr.cell? ⟨gb258,2,none⟩ = some (.string a0_2) := (qaf BK258.out 2).trans rfl
                have hfz51_0 := qad BK258.out 0
                have hfz51_1 := qad BK258.out 1
                have hfz51_2 := qad BK258.out 2
                have p45 : 0 ≤ (x5_4 : Int) := of_decide_eq_true (by assumption)
                have q45 : x5_4 < (a0_2.size : Int) := of_decide_eq_true (by assumption)
                have hx45 := bt_at a0_2 x5_4
                replace p45 := eq_true p45
                replace q45 := eq_true q45
                go_wp2_with (first|((with_reducible refine qam (f := 117) rfl ?_);refine goesL_ (some 81) rfl rfl Tryz.func117 (by kernel_rfl) rfl #[.int .u8 (bt a0_2 x5_4)] rfl (by first|rfl|(simp only [List.map_toArray,List.map_cons,List.map_nil,List.length_drop,List.length_take];rfl)|simp only [List.map_toArray,List.map_cons,List.map_nil]) ?_;(with_reducible refine (keelsonref2_Letter.calls (bt a0_2 x5_4) false _ (by first|exact hG|exact GL.below hG (by repeat (first|(with_reducible first|exact HB.out|apply qab|apply qaa|apply qac|refine qae ?_ GE258.out)|exact HB.out)))  A46.out).mono ?_);rintro e w' ⟨rfl,⟨nd,rfl⟩⟩;refine ⟨_,rfl,?_⟩)|(go_at_call 69;(with_reducible refine (keelsonref2_Digit.calls (bt a0_2 x5_4) true _ (by first|exact hG|exact GL.below hG (by repeat (first|(with_reducible first|exact HB.out|apply qab|apply qaa|apply qac|refine qae ?_ GE258.out)|exact HB.out)))  A49.out).mono ?_);rintro e w' ⟨rfl,⟨nd,rfl⟩⟩))
                go_roundg k4
                case measure => have := HJ1.out;have := HJ14.out;have := HK3.out;have := HK4.out;omega
                case rel => exact ⟨(wrap64 (x5_4 + 1)),(by first|rfl|(simp;done)|(simp [*];done)|(simp [qaj];done)),H',⟨by have := HJ1.out;have := HJ14.out;have := HK3.out;have := HK4.out;omega⟩,⟨by (with_reducible repeat (first|refine qah ?_ _|refine qai ?_|refine qag ?_ _));exact BK258.out⟩,⟨by repeat (first|(with_reducible first|exact HB.out|apply qab|apply qaa|apply qac|refine qae ?_ GE258.out)|exact HB.out)⟩⟩
               ·replace c50 := Bool.eq_false_iff.mpr c50
                subst c50
                have H1 : ((keelsonref2_has.f k4 (⟨#[46,43,126]⟩ : ByteArray) (bt a0_2 x5_4)).bind fun t269 => (if t269 = true then (keelsonref2_Right.l1 k4 (wrap64 (x5_4 + 1)) a0_0 a0_1 a0_2) else (some false))) = some r := by rw [if_neg (show ¬ (false = true) by decide)] at H;exact H
                clear H
                have H := H1
                clear H1
                replace H := Option.bind_eq_some_iff.mp H
                obtain ⟨t269,A520,H⟩ := H
                replace H : (if t269 = true then (keelsonref2_Right.l1 k4 (wrap64 (x5_4 + 1)) a0_0 a0_1 a0_2) else (some false)) = some r := H
                have A52 := Aside0.mk A520
                clear A520
                by_cases c53 : t269 = true
                ·subst c53
                 have H1 : (keelsonref2_Right.l1 k4 (wrap64 (x5_4 + 1)) a0_0 a0_1 a0_2) = some r := by rw [if_pos rfl] at H;exact H
                 clear H
                 have H := H1
                 clear H1
                 have H' := Aside0.mk H
                 clear H
                 have hcz54_0 : wr.cell? ⟨gb258,0,none⟩ = some (.int .i64 a0_0) := (qaf BK258.out 0).trans rfl
                 have hcz54_1 : wr.cell? ⟨gb258,1,none⟩ = some (.string a0_1) := (qaf BK258.out 1).trans rfl
                 have hcz54_2 : wr.cell? ⟨gb258,2,none⟩ = some (.string a0_2) := (qaf BK258.out 2).trans rfl
                 have hfz54_0 := qad BK258.out 0
                 have hfz54_1 := qad BK258.out 1
                 have hfz54_2 := qad BK258.out 2
                 have p45 : 0 ≤ (x5_4 : Int) := of_decide_eq_true (by assumption)
                 have q45 : x5_4 < (a0_2.size : Int) := of_decide_eq_true (by assumption)
                 have hx45 := bt_at a0_2 x5_4
                 replace p45 := eq_true p45
                 replace q45 := eq_true q45
                 go_wp2_with (first|((with_reducible refine qam (f := 117) rfl ?_);refine goesL_ (some 81) rfl rfl Tryz.func117 (by kernel_rfl) rfl #[.int .u8 (bt a0_2 x5_4)] rfl (by first|rfl|(simp only [List.map_toArray,List.map_cons,List.map_nil,List.length_drop,List.length_take];rfl)|simp only [List.map_toArray,List.map_cons,List.map_nil]) ?_;(with_reducible refine (keelsonref2_Letter.calls (bt a0_2 x5_4) false _ (by first|exact hG|exact GL.below hG (by repeat (first|(with_reducible first|exact HB.out|apply qab|apply qaa|apply qac|refine qae ?_ GE258.out)|exact HB.out)))  A46.out).mono ?_);rintro e w' ⟨rfl,⟨nd,rfl⟩⟩;refine ⟨_,rfl,?_⟩)|(go_at_call 69;(with_reducible refine (keelsonref2_Digit.calls (bt a0_2 x5_4) false _ (by first|exact hG|exact GL.below hG (by repeat (first|(with_reducible first|exact HB.out|apply qab|apply qaa|apply qac|refine qae ?_ GE258.out)|exact HB.out)))  A49.out).mono ?_);rintro e w' ⟨rfl,⟨nd,rfl⟩⟩)|(go_at_call 116;(with_reducible refine (keelsonref2_has.calls k4 (⟨#[46,43,126]⟩ : ByteArray) (bt a0_2 x5_4) true _ (by first|exact hG|exact GL.below hG (by repeat (first|(with_reducible first|exact HB.out|apply qab|apply qaa|apply qac|refine qae ?_ GE258.out)|exact HB.out)))  A52.out).mono ?_);rintro e w' ⟨rfl,⟨nd,rfl⟩⟩))
                 go_roundg k4
                 case measure => have := HJ1.out;have := HJ14.out;have := HK3.out;have := HK4.out;omega
                 case rel => exact ⟨(wrap64 (x5_4 + 1)),(by first|rfl|(simp;done)|(simp [*];done)|(simp [qaj];done)),H',⟨by have := HJ1.out;have := HJ14.out;have := HK3.out;have := HK4.out;omega⟩,⟨by (with_reducible repeat (first|refine qah ?_ _|refine qai ?_|refine qag ?_ _));exact BK258.out⟩,⟨by repeat (first|(with_reducible first|exact HB.out|apply qab|apply qaa|apply qac|refine qae ?_ GE258.out)|exact HB.out)⟩⟩
                ·replace c53 := Bool.eq_false_iff.mpr c53
                 subst c53
                 have H1 : (some false) = some r := by rw [if_neg (show ¬ (false = true) by decide)] at H;exact H
                 clear H
                 have H := H1
                 clear H1
                 obtain rfl := Option.some.inj H
                 have hcz55_0 : wr.cell? ⟨gb258,0,none⟩ = some (.int .i64 a0_0) := (qaf BK258.out 0).trans rfl
                 have hcz55_1 : wr.cell? ⟨gb258,1,none⟩ = some (.string a0_1) := (qaf BK258.out 1).trans rfl
                 have hcz55_2 : wr.cell? ⟨gb258,2,none⟩ = some (.string a0_2) := (qaf BK258.out 2).trans rfl
                 have hfz55_0 := qad BK258.out 0
                 have hfz55_1 := qad BK258.out 1
                 have hfz55_2 := qad BK258.out 2
                 have p45 : 0 ≤ (x5_4 : Int) := of_decide_eq_true (by assumption)
                 have q45 : x5_4 < (a0_2.size : Int) := of_decide_eq_true (by assumption)
                 have hx45 := bt_at a0_2 x5_4
                 replace p45 := eq_true p45
                 replace q45 := eq_true q45
                 go_wp2_with (first|((with_reducible refine qam (f := 117) rfl ?_);refine goesL_ (some 81) rfl rfl Tryz.func117 (by kernel_rfl) rfl #[.int .u8 (bt a0_2 x5_4)] rfl (by first|rfl|(simp only [List.map_toArray,List.map_cons,List.map_nil,List.length_drop,List.length_take];rfl)|simp only [List.map_toArray,List.map_cons,List.map_nil]) ?_;(with_reducible refine (keelsonref2_Letter.calls (bt a0_2 x5_4) false _ (by first|exact hG|exact GL.below hG (by repeat (first|(with_reducible first|exact HB.out|apply qab|apply qaa|apply qac|refine qae ?_ GE258.out)|exact HB.out)))  A46.out).mono ?_);rintro e w' ⟨rfl,⟨nd,rfl⟩⟩;refine ⟨_,rfl,?_⟩)|(go_at_call 69;(with_reducible refine (keelsonref2_Digit.calls (bt a0_2 x5_4) false _ (by first|exact hG|exact GL.below hG (by repeat (first|(with_reducible first|exact HB.out|apply qab|apply qaa|apply qac|refine qae ?_ GE258.out)|exact HB.out)))  A49.out).mono ?_);rintro e w' ⟨rfl,⟨nd,rfl⟩⟩)|(go_at_call 116;(with_reducible refine (keelsonref2_has.calls k4 (⟨#[46,43,126]⟩ : ByteArray) (bt a0_2 x5_4) false _ (by first|exact hG|exact GL.below hG (by repeat (first|(with_reducible first|exact HB.out|apply qab|apply qaa|apply qac|refine qae ?_ GE258.out)|exact HB.out)))  A52.out).mono ?_);rintro e w' ⟨rfl,⟨nd,rfl⟩⟩))
                 go_ret
                 exact ⟨by first|rfl|(simp [qak,qal]<;>rfl)|(simp [*,qak,qal]<;>rfl),by repeat (first|(with_reducible first|exact HB.out|apply qab|apply qaa|apply qac|refine qae ?_ GE258.out)|exact HB.out)⟩
             ·rw [if_neg c44] at H
              exact absurd H (by simp)
            ·rw [if_neg c43] at H
             have c43b0 : decide (x5_4 < (a0_2.size : Int)) = false := decide_eq_false c43
             clear c43
             replace H := Option.bind_eq_some_iff.mp H
             obtain ⟨t266,A560,H⟩ := H
             replace H : (some (decide ((t266.size : Int) ≤ 60))) = some r := H
             have A56 := Aside0.mk A560
             clear A560
             obtain rfl := Option.some.inj H
             have hcz57_0 : wr.cell? ⟨gb258,0,none⟩ = some (.int .i64 a0_0) := (qaf BK258.out 0).trans rfl
             have hcz57_1 : wr.cell? ⟨gb258,1,none⟩ = some (.string a0_1) := (qaf BK258.out 1).trans rfl
             have hcz57_2 : wr.cell? ⟨gb258,2,none⟩ = some (.string a0_2) := (qaf BK258.out 2).trans rfl
             have hfz57_0 := qad BK258.out 0
             have hfz57_1 := qad BK258.out 1
             have hfz57_2 := qad BK258.out 2
             go_wp2_with (first|((with_reducible refine qam (f := 95) rfl ?_);refine goesL_ (some 94) rfl rfl Tryz.func95 (by kernel_rfl) rfl #[.agg #[.int .i64 a0_0,.string a0_1,.string a0_2]] rfl (by first|rfl|(simp only [List.map_toArray,List.map_cons,List.map_nil,List.length_drop,List.length_take];rfl)|simp only [List.map_toArray,List.map_cons,List.map_nil]) ?_;(with_reducible refine (keelsonref2_text.calls k4 a0_0 a0_1 a0_2 t266 _ (by first|exact hG|exact GL.below hG (by repeat (first|(with_reducible first|exact HB.out|apply qab|apply qaa|apply qac|refine qae ?_ GE258.out)|exact HB.out)))  A56.out).mono ?_);rintro e w58 ⟨rfl,hb⟩;refine ⟨_,rfl,?_⟩;have n0_ := Aside0.mk (qap (g := gb258) (o := .cells #[.int .i64 a0_0,.string a0_1,.string a0_2] 90 (0,0)) (by (with_reducible repeat (first|refine qah ?_ _|refine qai ?_|refine qag ?_ _));exact BK258.out) hb);have n1_ := Aside0.mk (qan (by repeat (first|(with_reducible first|exact HB.out|apply qab|apply qaa|apply qac|refine qae ?_ GE258.out)|exact HB.out)) hb);clear BK258;clear HB;have BK258 := n0_;have HB := n1_;clear n0_ n1_;(try clear hb);(try clear hb2);(try clear hk);(try clear hi)))
             go_ret
             exact ⟨by first|rfl|(simp [qak,qal]<;>rfl)|(simp [*,qak,qal]<;>rfl),by repeat (first|(with_reducible first|exact HB.out|apply qab|apply qaa|apply qac|refine qae ?_ GE258.out)|exact HB.out)⟩
end Go.Proofs.YtjbbgekkombpnaaGreatDoor.PA
