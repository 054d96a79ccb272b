
import Derived.Test.YtjbbgekkombpnaaGreatDoorPAx0
import Derived.Test.YtjbbgekkombpnaaGreatDoorPAx6
import Derived.Test.YtjbbgekkombpnaaGreatDoorPAx7
import Derived.Test.YtjbbgekkombpnaaGreatDoorPAx8
import Derived.Test.YtjbbgekkombpnaaGreatDoorPAx11
import Derived.Test.YtjbbgekkombpnaaGreatDoorPAx12
import Derived.Test.YtjbbgekkombpnaaGreatDoorPAx15
import Derived.Test.YtjbbgekkombpnaaGreatDoorPAx18
noncomputable section
namespace Go.Proofs.YtjbbgekkombpnaaGreatDoor.PA
open Go.RowKit Go.Proofs.YtjbbgekkombpnaaGreatDoorW.PrintWords Go.Proofs.YtjbbgekkombpnaaGreatDoorW.PrintLast Go.Proofs.YtjbbgekkombpnaaGreatDoorW.PrintMore
attribute [local go_sem] max2_int min2_int max_two min_two max_three min_three max_four min_four
set_option maxHeartbeats 8000000
set_option maxRecDepth 100000
set_option linter.unusedVariables false
set_option linter.unusedSimpArgs false
def keelsonref3_Right.j0 : Nat → Bool → ByteArray → Int → ByteArray → Option (Bool)
 | 0,_,_,_,_ => none
 | k + 1,x18,x375000,x375001,x375002 => if x18 = true then (some false) else (if x375001 = 0 then (some (x375002.toList == ([] : List UInt8))) else ((keelsonref3_plain.f k x375002).bind fun t376 => (some t376)))
def keelsonref3_Right.f (k : Nat) (a0_0 : ByteArray) (a0_1 : Int) (a0_2 : ByteArray) : Option (Bool) := (keelsonref3_Name.f k a0_0).bind fun t375 => (if t375 = true then (if a0_1 < 0 then (keelsonref3_Right.j0 k true a0_0 a0_1 a0_2) else (keelsonref3_Right.j0 k (decide (a0_1 > 5)) a0_0 a0_1 a0_2)) else (keelsonref3_Right.j0 k true a0_0 a0_1 a0_2))
theorem keelsonref3_Right.mono_l : ∀ k,(∀ y0 y1 y2 y3,LeO (keelsonref3_Right.j0 k y0 y1 y2 y3) (keelsonref3_Right.j0 (k + 1) y0 y1 y2 y3))
 | 0 => fun _ _ _ _ r h => by simp [keelsonref3_Right.j0] at h
 | k + 1 => by
  have ih0 := keelsonref3_Right.mono_l k
  ·intro y0 y1 y2 y3
   unfold keelsonref3_Right.j0
   repeat' first
   | (with_reducible exact ih0 _ _ _ _)
   | (with_reducible exact keelsonref3_Name.mono _ _)
   | (with_reducible exact keelsonref3_plain.mono _ _)
   | (with_reducible exact LeO.refl _)
   | (with_reducible exact LeO.none _)
   | (with_reducible refine LeO.ite ?_ ?_)
   | (with_reducible refine LeO.bind ?_ (fun _ => ?_))
   | exact ih0 _ _ _ _
   | exact keelsonref3_Name.mono _ _
   | exact keelsonref3_plain.mono _ _
   | exact LeO.none _
   | refine LeO.ite ?_ ?_
   | refine LeO.bind ?_ (fun _ => ?_)
theorem keelsonref3_Right.mono : ∀ a0 a1 a2 k,LeO (keelsonref3_Right.f k a0 a1 a2) (keelsonref3_Right.f (k + 1) a0 a1 a2) := by
 intro a0 a1 a2 k
 have ih0 := keelsonref3_Right.mono_l k
 unfold keelsonref3_Right.f
 repeat' first
   | (with_reducible exact ih0 _ _ _ _)
   | (with_reducible exact keelsonref3_Name.mono _ _)
   | (with_reducible exact keelsonref3_plain.mono _ _)
   | (with_reducible exact LeO.refl _)
   | (with_reducible exact LeO.none _)
   | (with_reducible refine LeO.ite ?_ ?_)
   | (with_reducible refine LeO.bind ?_ (fun _ => ?_))
   | exact ih0 _ _ _ _
   | exact keelsonref3_Name.mono _ _
   | exact keelsonref3_plain.mono _ _
   | exact LeO.none _
   | refine LeO.ite ?_ ?_
   | refine LeO.bind ?_ (fun _ => ?_)
theorem keelsonref3_Right.calls (k : Nat) (a0_0 : ByteArray) (a0_1 : Int) (a0_2 : ByteArray) (r : Bool) (w : World) (hG : GL w) (h : keelsonref3_Right.f k a0_0 a0_1 a0_2 = some r) :
  Calls Tryz.prog 20 #[.agg #[.string a0_0,.int .i64 a0_1,.string a0_2]] w fun e w' => e = .returned (.bool r) ∧ Below w.heap.size w w' := by
 have hu39 := Tryz.underlying39
 have HB := Aside0.mk (Below.refl w.heap.size w)
 have H : ((keelsonref3_Name.f k a0_0).bind fun t375 => (if t375 = true then (if a0_1 < 0 then (keelsonref3_Right.j0 k true a0_0 a0_1 a0_2) else (keelsonref3_Right.j0 k (decide (a0_1 > 5)) a0_0 a0_1 a0_2)) else (keelsonref3_Right.j0 k true a0_0 a0_1 a0_2))) = some r := h
 clear h
 replace H := Option.bind_eq_some_iff.mp H
 obtain ⟨t375,A20,H⟩ := H
 replace H : (if t375 = true then (if a0_1 < 0 then (keelsonref3_Right.j0 k true a0_0 a0_1 a0_2) else (keelsonref3_Right.j0 k (decide (a0_1 > 5)) a0_0 a0_1 a0_2)) else (keelsonref3_Right.j0 k true a0_0 a0_1 a0_2)) = some r := H
 have A2 := Aside0.mk A20
 clear A20
 have HC3 := Aside0.mk H
 clear H
 go_enter Tryz.func20,Tryz.ntmps20
 go_upto_region 2 with (first|((with_reducible refine gate_dst (N := 1) rfl ?_);refine box_event ?hg (N := 1) ?hd (cs := #[.string a0_0,.int .i64 a0_1,.string a0_2]) (t := 39) ?hr ?_;(case hd => rfl);(case hg => rfl);(case hr => first|(go_simp;done)|(go_simp;rfl));intro gb374 hg w4 hbox hb;have n0_ := Aside0.mk (qan (by repeat (with_reducible first|exact HB.out|apply qab|apply qaa|apply qac)) hb);have n1_ := Aside0.mk (hbox);have n2_ := Aside0.mk ((by rw [hg];exact (qao (by repeat (with_reducible first|exact HB.out|apply qab|apply qaa|apply qac))) : w.heap.size ≤ gb374));have n3_ := Aside0.mk ((by rw [hg];exact (qao (by repeat (with_reducible first|exact HB.out|apply qab|apply qaa|apply qac))) : w.heap.size ≤ gb374));clear HB;have HB := n0_;have BK374 := n1_;have GW374 := n2_;have GE374 := n3_;clear n0_ n1_ n2_ n3_;clear hb hbox hg;have hcz5_0 : w4.cell? ⟨gb374,0,none⟩ = some (.string a0_0) := (qaf BK374.out 0).trans rfl;have hcz5_1 : w4.cell? ⟨gb374,1,none⟩ = some (.int .i64 a0_1) := (qaf BK374.out 1).trans rfl;have hcz5_2 : w4.cell? ⟨gb374,2,none⟩ = some (.string a0_2) := (qaf BK374.out 2).trans rfl;have hfz5_0 := qad BK374.out 0;have hfz5_1 := qad BK374.out 1;have hfz5_2 := qad BK374.out 2)|((with_reducible refine qam (f := 42) rfl ?_);refine goesL_ (some 6) rfl rfl Tryz.func42 (by kernel_rfl) rfl #[.string a0_0] rfl (by first|rfl|(simp only [List.map_toArray,List.map_cons,List.map_nil,List.length_drop,List.length_take];rfl)|simp only [List.map_toArray,List.map_cons,List.map_nil]) ?_;(with_reducible refine (keelsonref3_Name.calls k a0_0 t375 _ (by first|exact hG|exact GL.below hG (by repeat (first|(with_reducible first|exact HB.out|apply qab|apply qaa|apply qac|refine qae ?_ GE374.out)|exact HB.out)))  A2.out).mono ?_);rintro e w' ⟨rfl,⟨nd,rfl⟩⟩;refine ⟨_,rfl,?_⟩))
 (try simp only [Act.put,List.setIfInBounds_toArray,List.set_cons_zero,List.set_cons_succ])
 go_cut [18] (fun v18 wc => ∃ (kq : Nat) (x18_2 : Bool),v18 = .bool x18_2 ∧ Aside0 (keelsonref3_Right.j0 kq x18_2 a0_0 a0_1 a0_2 = some r) ∧ Aside0 (kq ≤ k) ∧ Aside0 (wc.heap[gb374]? = some (.cells #[.string a0_0,.int .i64 a0_1,.string a0_2] 39 (0,0))) ∧ Aside0 (Below w.heap.size w wc))
 case first =>
  have H := HC3.out
  clear HC3
  by_cases c6 : t375 = true
  ·subst c6
   have H1 : (if a0_1 < 0 then (keelsonref3_Right.j0 k true a0_0 a0_1 a0_2) else (keelsonref3_Right.j0 k (decide (a0_1 > 5)) a0_0 a0_1 a0_2)) = some r := by rw [if_pos rfl] at H;exact H
   clear H
   have H := H1
   clear H1
   by_cases c7 : a0_1 < 0
   ·rw [if_pos c7] at H
    have c7b0 : decide (a0_1 < 0) = true := decide_eq_true c7
    clear c7
    (first|rw [c7b0]|(simp only [i64_w,i32_w];rw [c7b0]) | skip)
    have H' := Aside0.mk H
    clear H
    have hcz8_0 : w4.cell? ⟨gb374,0,none⟩ = some (.string a0_0) := (qaf BK374.out 0).trans rfl
    have hcz8_1 : w4.cell? ⟨gb374,1,none⟩ = some (.int .i64 a0_1) := (qaf BK374.out 1).trans rfl
    have hcz8_2 : w4.cell? ⟨gb374,2,none⟩ = some (.string a0_2) := (qaf BK374.out 2).trans rfl
    have hfz8_0 := qad BK374.out 0
    have hfz8_1 := qad BK374.out 1
    have hfz8_2 := qad BK374.out 2
    go_wp2
    go_meet
    case rel => exact ⟨_,(true),(by first|rfl|(simp;done)|(simp [*];done)|(simp [qaj];done)),H',⟨by first|omega|exact Nat.le_refl _⟩,⟨by (with_reducible repeat (first|refine qah ?_ _|refine qai ?_|refine qag ?_ _));exact BK374.out⟩,⟨by repeat (first|(with_reducible first|exact HB.out|apply qab|apply qaa|apply qac|refine qae ?_ GE374.out)|exact HB.out)⟩⟩
   ·rw [if_neg c7] at H
    have c7b0 : decide (a0_1 < 0) = false := decide_eq_false c7
    clear c7
    (first|rw [c7b0]|(simp only [i64_w,i32_w];rw [c7b0]) | skip)
    have H' := Aside0.mk H
    clear H
    have hcz9_0 : w4.cell? ⟨gb374,0,none⟩ = some (.string a0_0) := (qaf BK374.out 0).trans rfl
    have hcz9_1 : w4.cell? ⟨gb374,1,none⟩ = some (.int .i64 a0_1) := (qaf BK374.out 1).trans rfl
    have hcz9_2 : w4.cell? ⟨gb374,2,none⟩ = some (.string a0_2) := (qaf BK374.out 2).trans rfl
    have hfz9_0 := qad BK374.out 0
    have hfz9_1 := qad BK374.out 1
    have hfz9_2 := qad BK374.out 2
    go_wp2
    go_meet
    case rel => exact ⟨_,(decide (a0_1 > 5)),(by first|rfl|(simp;done)|(simp [*];done)|(simp [qaj];done)),H',⟨by first|omega|exact Nat.le_refl _⟩,⟨by (with_reducible repeat (first|refine qah ?_ _|refine qai ?_|refine qag ?_ _));exact BK374.out⟩,⟨by repeat (first|(with_reducible first|exact HB.out|apply qab|apply qaa|apply qac|refine qae ?_ GE374.out)|exact HB.out)⟩⟩
  ·replace c6 := Bool.eq_false_iff.mpr c6
   subst c6
   have H1 : (keelsonref3_Right.j0 k true a0_0 a0_1 a0_2) = some r := by rw [if_neg (show ¬ (false = true) by decide)] at H;exact H
   clear H
   have H := H1
   clear H1
   have H' := Aside0.mk H
   clear H
   go_wp2
   go_meet
   case rel => exact ⟨_,(true),(by first|rfl|(simp;done)|(simp [*];done)|(simp [qaj];done)),H',⟨by first|omega|exact Nat.le_refl _⟩,⟨by (with_reducible repeat (first|refine qah ?_ _|refine qai ?_|refine qag ?_ _));exact BK374.out⟩,⟨by repeat (first|(with_reducible first|exact HB.out|apply qab|apply qaa|apply qac|refine qae ?_ GE374.out)|exact HB.out)⟩⟩
 case rest =>
  clear HC3
  try clear c2
  try clear p2
  try clear c4
  try clear c6
  try clear c7
  try clear c7b0
  try clear hcz5_0
  try clear hcz5_1
  try clear hcz5_2
  try clear hcz8_0
  try clear hcz8_1
  try clear hcz8_2
  try clear hcz9_0
  try clear hcz9_1
  try clear hcz9_2
  try clear hfz5_0
  try clear hfz5_1
  try clear hfz5_2
  try clear hfz8_0
  try clear hfz8_1
  try clear hfz8_2
  try clear hfz9_0
  try clear hfz9_1
  try clear hfz9_2
  obtain ⟨kq,x18_2,rfl,HA,HJ2,BK374,HB⟩ := hcut
  cases kq with
  | zero => exact absurd HA.out (by simp [keelsonref3_Right.j0])
  | succ kj2 =>
   have H := HA.out
   clear HA
   simp only [keelsonref3_Right.j0] at H
   by_cases c10 : x18_2 = true
   ·subst c10
    have H1 : (some false) = some r := by rw [if_pos rfl] at H;exact H
    clear H
    have H := H1
    clear H1
    obtain rfl := Option.some.inj H
    go_wp2
    go_ret
    exact ⟨by first|rfl|(simp [qak,qal]<;>rfl)|(simp [*,qak,qal]<;>rfl),by repeat (first|(with_reducible first|exact HB.out|apply qab|apply qaa|apply qac|refine qae ?_ GE374.out)|exact HB.out)⟩
   ·replace c10 := Bool.eq_false_iff.mpr c10
    subst c10
    have H1 : (if a0_1 = 0 then (some (a0_2.toList == ([] : List UInt8))) else ((keelsonref3_plain.f kj2 a0_2).bind fun t376 => (some t376))) = some r := by rw [if_neg (show ¬ (false = true) by decide)] at H;exact H
    clear H
    have H := H1
    clear H1
    by_cases c11 : a0_1 = 0
    ·rw [if_pos c11] at H
     have c11b0 : (a0_1 == 0) = true := beq_iff_eq.mpr c11
     have c11b1 : (a0_1 != 0) = false := bne_eq_false_iff_eq.mpr c11
     clear c11
     obtain rfl := Option.some.inj H
     have hcz12_0 : wc.cell? ⟨gb374,0,none⟩ = some (.string a0_0) := (qaf BK374.out 0).trans rfl
     have hcz12_1 : wc.cell? ⟨gb374,1,none⟩ = some (.int .i64 a0_1) := (qaf BK374.out 1).trans rfl
     have hcz12_2 : wc.cell? ⟨gb374,2,none⟩ = some (.string a0_2) := (qaf BK374.out 2).trans rfl
     have hfz12_0 := qad BK374.out 0
     have hfz12_1 := qad BK374.out 1
     have hfz12_2 := qad BK374.out 2
     go_wp2
     go_ret
     exact ⟨by first|rfl|(simp [qak,qal]<;>rfl)|(simp [*,qak,qal]<;>rfl),by repeat (first|(with_reducible first|exact HB.out|apply qab|apply qaa|apply qac|refine qae ?_ GE374.out)|exact HB.out)⟩
    ·rw [if_neg c11] at H
     have c11b0 : (a0_1 == 0) = false := beq_eq_false_iff_ne.mpr c11
     have c11b1 : (a0_1 != 0) = true := bne_iff_ne.mpr c11
     replace H := Option.bind_eq_some_iff.mp H
     obtain ⟨t376,A130,H⟩ := H
     replace H : (some t376) = some r := H
     have A13 := Aside0.mk A130
     clear A130
     obtain rfl := Option.some.inj H
     have hcz14_0 : wc.cell? ⟨gb374,0,none⟩ = some (.string a0_0) := (qaf BK374.out 0).trans rfl
     have hcz14_1 : wc.cell? ⟨gb374,1,none⟩ = some (.int .i64 a0_1) := (qaf BK374.out 1).trans rfl
     have hcz14_2 : wc.cell? ⟨gb374,2,none⟩ = some (.string a0_2) := (qaf BK374.out 2).trans rfl
     have hfz14_0 := qad BK374.out 0
     have hfz14_1 := qad BK374.out 1
     have hfz14_2 := qad BK374.out 2
     go_wp2_with (first|((with_reducible refine qam (f := 43) rfl ?_);refine goesL_ (some 27) rfl rfl Tryz.func43 (by kernel_rfl) rfl #[.string a0_2] rfl (by first|rfl|(simp only [List.map_toArray,List.map_cons,List.map_nil,List.length_drop,List.length_take];rfl)|simp only [List.map_toArray,List.map_cons,List.map_nil]) ?_;(with_reducible refine (keelsonref3_plain.calls kj2 a0_2 t376 _ (by first|exact hG|exact GL.below hG (by repeat (first|(with_reducible first|exact HB.out|apply qab|apply qaa|apply qac|refine qae ?_ GE374.out)|exact HB.out)))  A13.out).mono ?_);rintro e w15 ⟨rfl,hb⟩;refine ⟨_,rfl,?_⟩;have n0_ := Aside0.mk (qap (g := gb374) (o := .cells #[.string a0_0,.int .i64 a0_1,.string a0_2] 39 (0,0)) (by (with_reducible repeat (first|refine qah ?_ _|refine qai ?_|refine qag ?_ _));exact BK374.out) hb);have n1_ := Aside0.mk (qan (by repeat (first|(with_reducible first|exact HB.out|apply qab|apply qaa|apply qac|refine qae ?_ GE374.out)|exact HB.out)) hb);clear BK374;clear HB;have BK374 := n0_;have HB := n1_;clear n0_ n1_;(try clear hb);(try clear hb2);(try clear hk);(try clear hi)))
     go_ret
     exact ⟨by first|rfl|(simp [qak,qal]<;>rfl)|(simp [*,qak,qal]<;>rfl),by repeat (first|(with_reducible first|exact HB.out|apply qab|apply qaa|apply qac|refine qae ?_ GE374.out)|exact HB.out)⟩
end Go.Proofs.YtjbbgekkombpnaaGreatDoor.PA
