
import Derived.Test.YtiidmjmkgjfaeaaGreatDoorPAx0
import Derived.Test.YtiidmjmkgjfaeaaGreatDoorPAx2
namespace Go.Proofs.YtiidmjmkgjfaeaaGreatDoor.PA
open Go.RowKit Go.Proofs.YtiidmjmkgjfaeaaGreatDoorW.PrintWords Go.Proofs.YtiidmjmkgjfaeaaGreatDoorW.PrintLast Go.Proofs.YtiidmjmkgjfaeaaGreatDoorW.PrintMore
attribute [local go_sem] max2_int min2_int max_two min_two max_three min_three max_four min_four
set_option maxHeartbeats 8000000
set_option maxRecDepth 100000
set_option linter.unusedVariables false
set_option linter.unusedSimpArgs false
mutual
def version_Right.j0 : Nat → Bool → Int → ByteArray → ByteArray → Option (Bool)
 | 0,_,_,_,_ => none
 | k + 1,x3,x109000,x109001,x109002 => if x3 = true then (some false) else ((strings_IndexByte.f x109001 45).bind fun t110 => (if t110 ≥ 0 then (version_Right.j1 k (x109002.toList == ([] : List UInt8)) x109000 x109001 x109002) else (version_Right.j1 k false x109000 x109001 x109002)))
def version_Right.j1 : Nat → Bool → Int → ByteArray → ByteArray → Option (Bool)
 | 0,_,_,_,_ => none
 | k + 1,x24,x109000,x109001,x109002 => if x24 = true then (some false) else ((strings_IndexByte.f x109001 58).bind fun t111 => (if t111 ≥ 0 then (version_Right.j2 k (x109000 == 0) x109000 x109001 x109002) else (version_Right.j2 k false x109000 x109001 x109002)))
def version_Right.j2 : Nat → Bool → Int → ByteArray → ByteArray → Option (Bool)
 | 0,_,_,_,_ => none
 | k + 1,x34,x109000,x109001,x109002 => if x34 = true then (some false) else ((version_only.f k x109001 (⟨#[48,49,50,51,52,53,54,55,56,57,97,98,99,100,101,102,103,104,105,106,107,108,109,110,111,112,113,114,115,116,117,118,119,120,121,122,65,66,67,68,69,70,71,72,73,74,75,76,77,78,79,80,81,82,83,84,85,86,87,88,89,90,46,43,126,45,58]⟩ : ByteArray)).bind fun t112 => (if t112 = true then ((version_only.f k x109002 (⟨#[48,49,50,51,52,53,54,55,56,57,97,98,99,100,101,102,103,104,105,106,107,108,109,110,111,112,113,114,115,116,117,118,119,120,121,122,65,66,67,68,69,70,71,72,73,74,75,76,77,78,79,80,81,82,83,84,85,86,87,88,89,90,46,43,126]⟩ : ByteArray)).bind fun t113 => (if t113 = true then ((version_text.f x109000 x109001 x109002).bind fun t114 => (some (decide ((t114.size : Int) ≤ 60)))) else (some false))) else (some false)))
end
def version_Right.f (k : Nat) (a0_0 : Int) (a0_1 : ByteArray) (a0_2 : ByteArray) : Option (Bool) := if a0_0 < 0 then (version_Right.j0 k true a0_0 a0_1 a0_2) else (if a0_0 > 999999999 then (version_Right.j0 k true a0_0 a0_1 a0_2) else (if a0_1.toList = ([] : List UInt8) then (version_Right.j0 k true a0_0 a0_1 a0_2) else (if 0 < (a0_1.size : Int) then ((version_digit.f (bt a0_1 0)).bind fun t109 => (version_Right.j0 k (!t109) a0_0 a0_1 a0_2)) else (none))))
theorem version_Right.mono_l : ∀ k,(∀ y0 y1 y2 y3,LeO (version_Right.j0 k y0 y1 y2 y3) (version_Right.j0 (k + 1) y0 y1 y2 y3)) ∧ (∀ y0 y1 y2 y3,LeO (version_Right.j1 k y0 y1 y2 y3) (version_Right.j1 (k + 1) y0 y1 y2 y3)) ∧ (∀ y0 y1 y2 y3,LeO (version_Right.j2 k y0 y1 y2 y3) (version_Right.j2 (k + 1) y0 y1 y2 y3))
 | 0 => ⟨fun _ _ _ _ r h => by simp [version_Right.j0] at h,fun _ _ _ _ r h => by simp [version_Right.j1] at h,fun _ _ _ _ r h => by simp [version_Right.j2] at h⟩
 | k + 1 => by
  obtain ⟨ih0,ih1,ih2⟩ := version_Right.mono_l k
  refine ⟨?_,?_,?_⟩
  ·intro y0 y1 y2 y3
   unfold version_Right.j0
   repeat' first
   | (with_reducible exact ih0 _ _ _ _)
   | (with_reducible exact ih1 _ _ _ _)
   | (with_reducible exact ih2 _ _ _ _)
   | (with_reducible exact version_only.mono _ _ _)
   | (with_reducible exact LeO.refl _)
   | (with_reducible exact LeO.none _)
   | (with_reducible refine LeO.ite ?_ ?_)
   | (with_reducible refine LeO.bind ?_ (fun _ => ?_))
  ·intro y0 y1 y2 y3
   unfold version_Right.j1
   repeat' first
   | (with_reducible exact ih0 _ _ _ _)
   | (with_reducible exact ih1 _ _ _ _)
   | (with_reducible exact ih2 _ _ _ _)
   | (with_reducible exact version_only.mono _ _ _)
   | (with_reducible exact LeO.refl _)
   | (with_reducible exact LeO.none _)
   | (with_reducible refine LeO.ite ?_ ?_)
   | (with_reducible refine LeO.bind ?_ (fun _ => ?_))
  ·intro y0 y1 y2 y3
   unfold version_Right.j2
   repeat' first
   | (with_reducible exact ih0 _ _ _ _)
   | (with_reducible exact ih1 _ _ _ _)
   | (with_reducible exact ih2 _ _ _ _)
   | (with_reducible exact version_only.mono _ _ _)
   | (with_reducible exact LeO.refl _)
   | (with_reducible exact LeO.none _)
   | (with_reducible refine LeO.ite ?_ ?_)
   | (with_reducible refine LeO.bind ?_ (fun _ => ?_))
theorem version_Right.mono : ∀ a0 a1 a2 k,LeO (version_Right.f k a0 a1 a2) (version_Right.f (k + 1) a0 a1 a2) := by
 intro a0 a1 a2 k
 obtain ⟨ih0,ih1,ih2⟩ := version_Right.mono_l k
 unfold version_Right.f
 repeat' first
   | (with_reducible exact ih0 _ _ _ _)
   | (with_reducible exact ih1 _ _ _ _)
   | (with_reducible exact ih2 _ _ _ _)
   | (with_reducible exact version_only.mono _ _ _)
   | (with_reducible exact LeO.refl _)
   | (with_reducible exact LeO.none _)
   | (with_reducible refine LeO.ite ?_ ?_)
   | (with_reducible refine LeO.bind ?_ (fun _ => ?_))
theorem version_Right.calls (k : Nat) (a0_0 : Int) (a0_1 : ByteArray) (a0_2 : ByteArray) (r : Bool) (w : World) (hG : GL w) (h : version_Right.f k a0_0 a0_1 a0_2 = some r) :
  Calls Tryz.prog 127 #[.agg #[.int .i64 a0_0,.string a0_1,.string a0_2]] w fun e w' => e = .returned (.bool r) ∧ Below w.heap.size w w' := by
 have hu106 := Tryz.underlying106
 have HB := Aside0.mk (Below.refl w.heap.size w)
 have H : (if a0_0 < 0 then (version_Right.j0 k true a0_0 a0_1 a0_2) else (if a0_0 > 999999999 then (version_Right.j0 k true a0_0 a0_1 a0_2) else (if a0_1.toList = ([] : List UInt8) then (version_Right.j0 k true a0_0 a0_1 a0_2) else (if 0 < (a0_1.size : Int) then ((version_digit.f (bt a0_1 0)).bind fun t109 => (version_Right.j0 k (!t109) a0_0 a0_1 a0_2)) else (none))))) = some r := h
 clear h
 have HC2 := Aside0.mk H
 clear H
 go_enter Tryz.func127,Tryz.ntmps127
 go_upto_region 1 with (first|((with_reducible refine gate_dst (N := 1) rfl ?_);(try (refine gate_guard (by rfl) ?_;dsimp only));refine box_event ?hg (N := 1) ?hd (cs := #[.int .i64 a0_0,.string a0_1,.string a0_2]) (t := 106) ?hr ?_;(case hd => rfl);(case hg => rfl);(case hr => first|(go_simp;done)|(go_simp;rfl));intro gb108 hg w3 hbox hb;have n0_ := Aside0.mk (qan (by repeat (with_reducible first|exact HB.out|apply qab|apply qaa|apply qac)) hb);have n1_ := Aside0.mk (hbox);have n2_ := Aside0.mk ((by rw [hg];exact (qao (by repeat (with_reducible first|exact HB.out|apply qab|apply qaa|apply qac))) : w.heap.size ≤ gb108));have n3_ := Aside0.mk ((by rw [hg];exact (qao (by repeat (with_reducible first|exact HB.out|apply qab|apply qaa|apply qac))) : w.heap.size ≤ gb108));clear HB;have HB := n0_;have BK108 := n1_;have GW108 := n2_;have GE108 := n3_;clear n0_ n1_ n2_ n3_;clear hb hbox hg))
 (try simp only [Act.put,List.setIfInBounds_toArray,List.set_cons_zero,List.set_cons_succ])
 go_cut [3] (fun v3 wc => ∃ (kq : Nat) (x3_1 : Bool),v3 = .bool x3_1 ∧ Aside0 (version_Right.j0 kq x3_1 a0_0 a0_1 a0_2 = some r) ∧ Aside0 (kq ≤ k) ∧ Aside0 (wc.heap[gb108]? = some (.cells #[.int .i64 a0_0,.string a0_1,.string a0_2] 106 (0,0))) ∧ Aside0 (Below w.heap.size w wc))
 case first =>
  have H := HC2.out
  clear HC2
  by_cases c4 : a0_0 < 0
  ·rw [if_pos c4] at H
   have c4b0 : decide (a0_0 < 0) = true := decide_eq_true c4
   clear c4
   (first|rw [c4b0]|(simp only [i64_w,i32_w];rw [c4b0]) | skip)
   have H' := Aside0.mk H
   clear H
   have hcz5_0 : w3.cell? ⟨gb108,0,none⟩ = some (.int .i64 a0_0) := (qae BK108.out 0).trans rfl
   have hcz5_1 : w3.cell? ⟨gb108,1,none⟩ = some (.string a0_1) := (qae BK108.out 1).trans rfl
   have hcz5_2 : w3.cell? ⟨gb108,2,none⟩ = some (.string a0_2) := (qae BK108.out 2).trans rfl
   have hfz5_0 := qad BK108.out 0
   have hfz5_1 := qad BK108.out 1
   have hfz5_2 := qad BK108.out 2
   go_wp2
   go_meet
   case rel => exact ⟨_,(true),(by first|rfl|(simp;done)|(simp [*];done)|(simp [qam];done)),H',⟨by first|omega|exact Nat.le_refl _⟩,⟨by (with_reducible repeat (first|refine qah ?_ _|refine qai ?_|refine qag ?_ _));exact BK108.out⟩,⟨by repeat (first|(with_reducible first|exact HB.out|apply qab|apply qaa|apply qac|refine qaf ?_ GE108.out)|exact HB.out)⟩⟩
  ·rw [if_neg c4] at H
   have c4b0 : decide (a0_0 < 0) = false := decide_eq_false c4
   clear c4
   (first|rw [c4b0]|(simp only [i64_w,i32_w];rw [c4b0]) | skip)
   by_cases c6 : a0_0 > 999999999
   ·rw [if_pos c6] at H
    have c6b0 : decide (999999999 < a0_0) = true := decide_eq_true c6
    clear c6
    have H' := Aside0.mk H
    clear H
    have hcz7_0 : w3.cell? ⟨gb108,0,none⟩ = some (.int .i64 a0_0) := (qae BK108.out 0).trans rfl
    have hcz7_1 : w3.cell? ⟨gb108,1,none⟩ = some (.string a0_1) := (qae BK108.out 1).trans rfl
    have hcz7_2 : w3.cell? ⟨gb108,2,none⟩ = some (.string a0_2) := (qae BK108.out 2).trans rfl
    have hfz7_0 := qad BK108.out 0
    have hfz7_1 := qad BK108.out 1
    have hfz7_2 := qad BK108.out 2
    go_wp2
    go_meet
    case rel => exact ⟨_,(true),(by first|rfl|(simp;done)|(simp [*];done)|(simp [qam];done)),H',⟨by first|omega|exact Nat.le_refl _⟩,⟨by (with_reducible repeat (first|refine qah ?_ _|refine qai ?_|refine qag ?_ _));exact BK108.out⟩,⟨by repeat (first|(with_reducible first|exact HB.out|apply qab|apply qaa|apply qac|refine qaf ?_ GE108.out)|exact HB.out)⟩⟩
   ·rw [if_neg c6] at H
    have c6b0 : decide (999999999 < a0_0) = false := decide_eq_false c6
    clear c6
    by_cases c8 : a0_1.toList = ([] : List UInt8)
    ·rw [if_pos c8] at H
     have c8b0 : (a0_1.toList == ([] : List UInt8)) = true := beq_iff_eq.mpr c8
     have c8b1 : (a0_1.toList != ([] : List UInt8)) = false := bne_eq_false_iff_eq.mpr c8
     clear c8
     have H' := Aside0.mk H
     clear H
     have hcz9_0 : w3.cell? ⟨gb108,0,none⟩ = some (.int .i64 a0_0) := (qae BK108.out 0).trans rfl
     have hcz9_1 : w3.cell? ⟨gb108,1,none⟩ = some (.string a0_1) := (qae BK108.out 1).trans rfl
     have hcz9_2 : w3.cell? ⟨gb108,2,none⟩ = some (.string a0_2) := (qae BK108.out 2).trans rfl
     have hfz9_0 := qad BK108.out 0
     have hfz9_1 := qad BK108.out 1
     have hfz9_2 := qad BK108.out 2
     go_wp2
     go_meet
     case rel => exact ⟨_,(true),(by first|rfl|(simp;done)|(simp [*];done)|(simp [qam];done)),H',⟨by first|omega|exact Nat.le_refl _⟩,⟨by (with_reducible repeat (first|refine qah ?_ _|refine qai ?_|refine qag ?_ _));exact BK108.out⟩,⟨by repeat (first|(with_reducible first|exact HB.out|apply qab|apply qaa|apply qac|refine qaf ?_ GE108.out)|exact HB.out)⟩⟩
    ·rw [if_neg c8] at H
     have c8b0 : (a0_1.toList == ([] : List UInt8)) = false := beq_eq_false_iff_ne.mpr c8
     have c8b1 : (a0_1.toList != ([] : List UInt8)) = true := bne_iff_ne.mpr c8
     by_cases c10 : 0 < (a0_1.size : Int)
     ·rw [if_pos c10] at H
      have c10b0 : decide (0 < (a0_1.size : Int)) = true := decide_eq_true c10
      have c10b1 : decide (0 < a0_1.size) = true := decide_eq_true (by omega)
      clear c10
      replace H := Option.bind_eq_some_iff.mp H
      obtain ⟨t109,A120,H⟩ := H
      replace H : (version_Right.j0 k (!t109) a0_0 a0_1 a0_2) = some r := H
      have A12 := Aside0.mk A120
      clear A120
      have H' := Aside0.mk H
      clear H
      have hcz13_0 : w3.cell? ⟨gb108,0,none⟩ = some (.int .i64 a0_0) := (qae BK108.out 0).trans rfl
      have hcz13_1 : w3.cell? ⟨gb108,1,none⟩ = some (.string a0_1) := (qae BK108.out 1).trans rfl
      have hcz13_2 : w3.cell? ⟨gb108,2,none⟩ = some (.string a0_2) := (qae BK108.out 2).trans rfl
      have hfz13_0 := qad BK108.out 0
      have hfz13_1 := qad BK108.out 1
      have hfz13_2 := qad BK108.out 2
      have p11 : 0 ≤ (0 : Int) := (by omega)
      have q11 : 0 < a0_1.size := (by have : (0 : Int) < (a0_1.size : Int) := of_decide_eq_true (by assumption);omega)
      have hx11 : ∀ h : 0 < a0_1.size,((a0_1[0]'h).toNat : Int) = bt a0_1 0 := bt_at a0_1 0
      clear p11
      have qi11 : (0 < (a0_1.size : Int)) = True := eq_true (of_decide_eq_true (by assumption))
      replace q11 := eq_true q11
      go_wp2_with (first|(go_at_call 156;(with_reducible refine (version_digit.calls (bt a0_1 0) t109 _ (by first|exact hG|exact GL.below hG (by repeat (first|(with_reducible first|exact HB.out|apply qab|apply qaa|apply qac|refine qaf ?_ GE108.out)|exact HB.out)))  A12.out).mono ?_);rintro e w' ⟨rfl,⟨nd,rfl⟩⟩))
      go_meet
      case rel => exact ⟨_,(!t109),(by first|rfl|(simp;done)|(simp [*];done)|(simp [qam];done)),H',⟨by first|omega|exact Nat.le_refl _⟩,⟨by (with_reducible repeat (first|refine qah ?_ _|refine qai ?_|refine qag ?_ _));exact BK108.out⟩,⟨by repeat (first|(with_reducible first|exact HB.out|apply qab|apply qaa|apply qac|refine qaf ?_ GE108.out)|exact HB.out)⟩⟩
     ·rw [if_neg c10] at H
      exact absurd H (by simp)
 case rest =>
  clear HC2
  try clear c1
  try clear p1
  try clear q1
  try clear hx1
  try clear qi1
  try clear p2
  try clear c4
  try clear c4b0
  try clear c6
  try clear c6b0
  try clear c8
  try clear c8b0
  try clear c8b1
  try clear c10
  try clear c10b0
  try clear c10b1
  try clear p11
  try clear q11
  try clear hx11
  try clear qi11
  try clear c12
  try clear hcz13_0
  try clear hcz13_1
  try clear hcz13_2
  try clear hcz5_0
  try clear hcz5_1
  try clear hcz5_2
  try clear hcz7_0
  try clear hcz7_1
  try clear hcz7_2
  try clear hcz9_0
  try clear hcz9_1
  try clear hcz9_2
  try clear hfz13_0
  try clear hfz13_1
  try clear hfz13_2
  try clear hfz5_0
  try clear hfz5_1
  try clear hfz5_2
  try clear hfz7_0
  try clear hfz7_1
  try clear hfz7_2
  try clear hfz9_0
  try clear hfz9_1
  try clear hfz9_2
  try clear p11
  try clear q11
  obtain ⟨kq,x3_1,rfl,HA,HJ1,BK108,HB⟩ := hcut
  cases kq with
  | zero => exact absurd HA.out (by simp [version_Right.j0])
  | succ kj1 =>
   have H := HA.out
   clear HA
   simp only [version_Right.j0] at H
   by_cases c14 : x3_1 = true
   ·subst c14
    have H1 : (some false) = some r := by rw [if_pos rfl] at H;exact H
    clear H
    have H := H1
    clear H1
    obtain rfl := Option.some.inj H
    go_wp2
    go_ret
    exact ⟨by first|rfl|(simp [qaj,qak]<;>rfl)|(simp [*,qaj,qak]<;>rfl),by repeat (first|(with_reducible first|exact HB.out|apply qab|apply qaa|apply qac|refine qaf ?_ GE108.out)|exact HB.out)⟩
   ·replace c14 := Bool.eq_false_iff.mpr c14
    subst c14
    have H1 : ((strings_IndexByte.f a0_1 45).bind fun t110 => (if t110 ≥ 0 then (version_Right.j1 kj1 (a0_2.toList == ([] : List UInt8)) a0_0 a0_1 a0_2) else (version_Right.j1 kj1 false a0_0 a0_1 a0_2))) = some r := by rw [if_neg (show ¬ (false = true) by decide)] at H;exact H
    clear H
    have H := H1
    clear H1
    have HC15 := Aside0.mk H
    clear H
    go_upto_region 3 with (fail)
    go_cut [24] (fun v24 wc => ∃ (kq : Nat) (x24_14 : Bool),v24 = .bool x24_14 ∧ Aside0 (version_Right.j1 kq x24_14 a0_0 a0_1 a0_2 = some r) ∧ Aside0 (kq ≤ kj1) ∧ Aside0 (wc.heap[gb108]? = some (.cells #[.int .i64 a0_0,.string a0_1,.string a0_2] 106 (0,0))) ∧ Aside0 (Below w.heap.size w wc))
    case first =>
     have H := HC15.out
     clear HC15
     replace H := Option.bind_eq_some_iff.mp H
     obtain ⟨t110,A160,H⟩ := H
     replace H : (if t110 ≥ 0 then (version_Right.j1 kj1 (a0_2.toList == ([] : List UInt8)) a0_0 a0_1 a0_2) else (version_Right.j1 kj1 false a0_0 a0_1 a0_2)) = some r := H
     have A16 := Aside0.mk A160
     clear A160
     by_cases c17 : t110 ≥ 0
     ·rw [if_pos c17] at H
      have c17b0 : decide (0 ≤ t110) = true := decide_eq_true c17
      clear c17
      (first|rw [c17b0]|(simp only [i64_w,i32_w];rw [c17b0]) | skip)
      have H' := Aside0.mk H
      clear H
      have hcz18_0 : wc.cell? ⟨gb108,0,none⟩ = some (.int .i64 a0_0) := (qae BK108.out 0).trans rfl
      have hcz18_1 : wc.cell? ⟨gb108,1,none⟩ = some (.string a0_1) := (qae BK108.out 1).trans rfl
      have hcz18_2 : wc.cell? ⟨gb108,2,none⟩ = some (.string a0_2) := (qae BK108.out 2).trans rfl
      have hfz18_0 := qad BK108.out 0
      have hfz18_1 := qad BK108.out 1
      have hfz18_2 := qad BK108.out 2
      go_wp2_with (first|((with_reducible refine qal (f := 105) rfl ?_);refine goesL_ (some 27) rfl rfl Tryz.func105 (by kernel_rfl) rfl #[.string a0_1,.int .u8 45] rfl (by first|rfl|(simp only [List.map_toArray,List.map_cons,List.map_nil,List.length_drop,List.length_take];rfl)|simp only [List.map_toArray,List.map_cons,List.map_nil]) ?_;(with_reducible refine (strings_IndexByte.calls a0_1 45 t110 _ (by first|exact hG|exact GL.below hG (by repeat (first|(with_reducible first|exact HB.out|apply qab|apply qaa|apply qac|refine qaf ?_ GE108.out)|exact HB.out)))  A16.out).mono ?_);rintro e w' ⟨rfl,⟨nd,rfl⟩⟩;refine ⟨_,rfl,?_⟩))
      go_meet
      case rel => exact ⟨_,((a0_2.toList == ([] : List UInt8))),(by first|rfl|(simp;done)|(simp [*];done)|(simp [qam];done)),H',⟨by have := HJ1.out;first|omega|exact Nat.le_refl _⟩,⟨by (with_reducible repeat (first|refine qah ?_ _|refine qai ?_|refine qag ?_ _));exact BK108.out⟩,⟨by repeat (first|(with_reducible first|exact HB.out|apply qab|apply qaa|apply qac|refine qaf ?_ GE108.out)|exact HB.out)⟩⟩
     ·rw [if_neg c17] at H
      have c17b0 : decide (0 ≤ t110) = false := decide_eq_false c17
      clear c17
      (first|rw [c17b0]|(simp only [i64_w,i32_w];rw [c17b0]) | skip)
      have H' := Aside0.mk H
      clear H
      have hcz19_0 : wc.cell? ⟨gb108,0,none⟩ = some (.int .i64 a0_0) := (qae BK108.out 0).trans rfl
      have hcz19_1 : wc.cell? ⟨gb108,1,none⟩ = some (.string a0_1) := (qae BK108.out 1).trans rfl
      have hcz19_2 : wc.cell? ⟨gb108,2,none⟩ = some (.string a0_2) := (qae BK108.out 2).trans rfl
      have hfz19_0 := qad BK108.out 0
      have hfz19_1 := qad BK108.out 1
      have hfz19_2 := qad BK108.out 2
      go_wp2_with (first|((with_reducible refine qal (f := 105) rfl ?_);refine goesL_ (some 27) rfl rfl Tryz.func105 (by kernel_rfl) rfl #[.string a0_1,.int .u8 45] rfl (by first|rfl|(simp only [List.map_toArray,List.map_cons,List.map_nil,List.length_drop,List.length_take];rfl)|simp only [List.map_toArray,List.map_cons,List.map_nil]) ?_;(with_reducible refine (strings_IndexByte.calls a0_1 45 t110 _ (by first|exact hG|exact GL.below hG (by repeat (first|(with_reducible first|exact HB.out|apply qab|apply qaa|apply qac|refine qaf ?_ GE108.out)|exact HB.out)))  A16.out).mono ?_);rintro e w' ⟨rfl,⟨nd,rfl⟩⟩;refine ⟨_,rfl,?_⟩))
      go_meet
      case rel => exact ⟨_,(false),(by first|rfl|(simp;done)|(simp [*];done)|(simp [qam];done)),H',⟨by have := HJ1.out;first|omega|exact Nat.le_refl _⟩,⟨by (with_reducible repeat (first|refine qah ?_ _|refine qai ?_|refine qag ?_ _));exact BK108.out⟩,⟨by repeat (first|(with_reducible first|exact HB.out|apply qab|apply qaa|apply qac|refine qaf ?_ GE108.out)|exact HB.out)⟩⟩
    case rest =>
     clear HC15
     try clear c1
     try clear p1
     try clear q1
     try clear hx1
     try clear qi1
     try clear p2
     try clear c4
     try clear c4b0
     try clear c6
     try clear c6b0
     try clear c8
     try clear c8b0
     try clear c8b1
     try clear c10
     try clear c10b0
     try clear c10b1
     try clear p11
     try clear q11
     try clear hx11
     try clear qi11
     try clear c12
     try clear c14
     try clear c17
     try clear c17b0
     try clear hcz13_0
     try clear hcz13_1
     try clear hcz13_2
     try clear hcz18_0
     try clear hcz18_1
     try clear hcz18_2
     try clear hcz19_0
     try clear hcz19_1
     try clear hcz19_2
     try clear hcz5_0
     try clear hcz5_1
     try clear hcz5_2
     try clear hcz7_0
     try clear hcz7_1
     try clear hcz7_2
     try clear hcz9_0
     try clear hcz9_1
     try clear hcz9_2
     try clear hfz13_0
     try clear hfz13_1
     try clear hfz13_2
     try clear hfz18_0
     try clear hfz18_1
     try clear hfz18_2
     try clear hfz19_0
     try clear hfz19_1
     try clear hfz19_2
     try clear hfz5_0
     try clear hfz5_1
     try clear hfz5_2
     try clear hfz7_0
     try clear hfz7_1
     try clear hfz7_2
     try clear hfz9_0
     try clear hfz9_1
     try clear hfz9_2
     try clear p1
     try clear p11
     try clear p2
     try clear q1
     try clear q11
     obtain ⟨kq,x24_14,rfl,HA,HJ14,BK108,HB⟩ := hcut
     cases kq with
     | zero => exact absurd HA.out (by simp [version_Right.j1])
     | succ kj14 =>
      have H := HA.out
      clear HA
      simp only [version_Right.j1] at H
      by_cases c20 : x24_14 = true
      ·subst c20
       have H1 : (some false) = some r := by rw [if_pos rfl] at H;exact H
       clear H
       have H := H1
       clear H1
       obtain rfl := Option.some.inj H
       go_wp2
       go_ret
       exact ⟨by first|rfl|(simp [qaj,qak]<;>rfl)|(simp [*,qaj,qak]<;>rfl),by repeat (first|(with_reducible first|exact HB.out|apply qab|apply qaa|apply qac|refine qaf ?_ GE108.out)|exact HB.out)⟩
      ·replace c20 := Bool.eq_false_iff.mpr c20
       subst c20
       have H1 : ((strings_IndexByte.f a0_1 58).bind fun t111 => (if t111 ≥ 0 then (version_Right.j2 kj14 (a0_0 == 0) a0_0 a0_1 a0_2) else (version_Right.j2 kj14 false a0_0 a0_1 a0_2))) = some r := by rw [if_neg (show ¬ (false = true) by decide)] at H;exact H
       clear H
       have H := H1
       clear H1
       have HC21 := Aside0.mk H
       clear H
       go_upto_region 5 with (fail)
       go_cut [34] (fun v34 wc => ∃ (kq : Nat) (x34_20 : Bool),v34 = .bool x34_20 ∧ Aside0 (version_Right.j2 kq x34_20 a0_0 a0_1 a0_2 = some r) ∧ Aside0 (kq ≤ kj14) ∧ Aside0 (wc.heap[gb108]? = some (.cells #[.int .i64 a0_0,.string a0_1,.string a0_2] 106 (0,0))) ∧ Aside0 (Below w.heap.size w wc))
       case first =>
        have H := HC21.out
        clear HC21
        replace H := Option.bind_eq_some_iff.mp H
        obtain ⟨t111,A220,H⟩ := H
        replace H : (if t111 ≥ 0 then (version_Right.j2 kj14 (a0_0 == 0) a0_0 a0_1 a0_2) else (version_Right.j2 kj14 false a0_0 a0_1 a0_2)) = some r := H
        have A22 := Aside0.mk A220
        clear A220
        by_cases c23 : t111 ≥ 0
        ·rw [if_pos c23] at H
         have c23b0 : decide (0 ≤ t111) = true := decide_eq_true c23
         clear c23
         (first|rw [c23b0]|(simp only [i64_w,i32_w];rw [c23b0]) | skip)
         have H' := Aside0.mk H
         clear H
         have hcz24_0 : wc.cell? ⟨gb108,0,none⟩ = some (.int .i64 a0_0) := (qae BK108.out 0).trans rfl
         have hcz24_1 : wc.cell? ⟨gb108,1,none⟩ = some (.string a0_1) := (qae BK108.out 1).trans rfl
         have hcz24_2 : wc.cell? ⟨gb108,2,none⟩ = some (.string a0_2) := (qae BK108.out 2).trans rfl
         have hfz24_0 := qad BK108.out 0
         have hfz24_1 := qad BK108.out 1
         have hfz24_2 := qad BK108.out 2
         go_wp2_with (first|((with_reducible refine qal (f := 105) rfl ?_);refine goesL_ (some 37) rfl rfl Tryz.func105 (by kernel_rfl) rfl #[.string a0_1,.int .u8 58] rfl (by first|rfl|(simp only [List.map_toArray,List.map_cons,List.map_nil,List.length_drop,List.length_take];rfl)|simp only [List.map_toArray,List.map_cons,List.map_nil]) ?_;(with_reducible refine (strings_IndexByte.calls a0_1 58 t111 _ (by first|exact hG|exact GL.below hG (by repeat (first|(with_reducible first|exact HB.out|apply qab|apply qaa|apply qac|refine qaf ?_ GE108.out)|exact HB.out)))  A22.out).mono ?_);rintro e w' ⟨rfl,⟨nd,rfl⟩⟩;refine ⟨_,rfl,?_⟩))
         go_meet
         case rel => exact ⟨_,((a0_0 == 0)),(by first|rfl|(simp;done)|(simp [*];done)|(simp [qam];done)),H',⟨by have := HJ1.out;have := HJ14.out;first|omega|exact Nat.le_refl _⟩,⟨by (with_reducible repeat (first|refine qah ?_ _|refine qai ?_|refine qag ?_ _));exact BK108.out⟩,⟨by repeat (first|(with_reducible first|exact HB.out|apply qab|apply qaa|apply qac|refine qaf ?_ GE108.out)|exact HB.out)⟩⟩
        ·rw [if_neg c23] at H
         have c23b0 : decide (0 ≤ t111) = false := decide_eq_false c23
         clear c23
         (first|rw [c23b0]|(simp only [i64_w,i32_w];rw [c23b0]) | skip)
         have H' := Aside0.mk H
         clear H
         have hcz25_0 : wc.cell? ⟨gb108,0,none⟩ = some (.int .i64 a0_0) := (qae BK108.out 0).trans rfl
         have hcz25_1 : wc.cell? ⟨gb108,1,none⟩ = some (.string a0_1) := (qae BK108.out 1).trans rfl
         have hcz25_2 : wc.cell? ⟨gb108,2,none⟩ = some (.string a0_2) := (qae BK108.out 2).trans rfl
         have hfz25_0 := qad BK108.out 0
         have hfz25_1 := qad BK108.out 1
         have hfz25_2 := qad BK108.out 2
         go_wp2_with (first|((with_reducible refine qal (f := 105) rfl ?_);refine goesL_ (some 37) rfl rfl Tryz.func105 (by kernel_rfl) rfl #[.string a0_1,.int .u8 58] rfl (by first|rfl|(simp only [List.map_toArray,List.map_cons,List.map_nil,List.length_drop,List.length_take];rfl)|simp only [List.map_toArray,List.map_cons,List.map_nil]) ?_;(with_reducible refine (strings_IndexByte.calls a0_1 58 t111 _ (by first|exact hG|exact GL.below hG (by repeat (first|(with_reducible first|exact HB.out|apply qab|apply qaa|apply qac|refine qaf ?_ GE108.out)|exact HB.out)))  A22.out).mono ?_);rintro e w' ⟨rfl,⟨nd,rfl⟩⟩;refine ⟨_,rfl,?_⟩))
         go_meet
         case rel => exact ⟨_,(false),(by first|rfl|(simp;done)|(simp [*];done)|(simp [qam];done)),H',⟨by have := HJ1.out;have := HJ14.out;first|omega|exact Nat.le_refl _⟩,⟨by (with_reducible repeat (first|refine qah ?_ _|refine qai ?_|refine qag ?_ _));exact BK108.out⟩,⟨by repeat (first|(with_reducible first|exact HB.out|apply qab|apply qaa|apply qac|refine qaf ?_ GE108.out)|exact HB.out)⟩⟩
       case rest =>
        clear HC21
        try clear c1
        try clear p1
        try clear q1
        try clear hx1
        try clear qi1
        try clear c2
        try clear p2
        try clear c4
        try clear c4b0
        try clear c6
        try clear c6b0
        try clear c8
        try clear c8b0
        try clear c8b1
        try clear c10
        try clear c10b0
        try clear c10b1
        try clear p11
        try clear q11
        try clear hx11
        try clear qi11
        try clear c12
        try clear c14
        try clear c17
        try clear c17b0
        try clear c20
        try clear c23
        try clear c23b0
        try clear hcz13_0
        try clear hcz13_1
        try clear hcz13_2
        try clear hcz18_0
        try clear hcz18_1
        try clear hcz18_2
        try clear hcz19_0
        try clear hcz19_1
        try clear hcz19_2
        try clear hcz24_0
        try clear hcz24_1
        try clear hcz24_2
        try clear hcz25_0
        try clear hcz25_1
        try clear hcz25_2
        try clear hcz5_0
        try clear hcz5_1
        try clear hcz5_2
        try clear hcz7_0
        try clear hcz7_1
        try clear hcz7_2
        try clear hcz9_0
        try clear hcz9_1
        try clear hcz9_2
        try clear hfz13_0
        try clear hfz13_1
        try clear hfz13_2
        try clear hfz18_0
        try clear hfz18_1
        try clear hfz18_2
        try clear hfz19_0
        try clear hfz19_1
        try clear hfz19_2
        try clear hfz24_0
        try clear hfz24_1
        try clear hfz24_2
        try clear hfz25_0
        try clear hfz25_1
        try clear hfz25_2
        try clear hfz5_0
        try clear hfz5_1
        try clear hfz5_2
        try clear hfz7_0
        try clear hfz7_1
        try clear hfz7_2
        try clear hfz9_0
        try clear hfz9_1
        try clear hfz9_2
        try clear p1
        try clear p11
        try clear p2
        try clear q1
        try clear q11
        obtain ⟨kq,x34_20,rfl,HA,HJ20,BK108,HB⟩ := hcut
        cases kq with
        | zero => exact absurd HA.out (by simp [version_Right.j2])
        | succ kj20 =>
         have H := HA.out
         clear HA
         simp only [version_Right.j2] at H
         by_cases c26 : x34_20 = true
         ·subst c26
          have H1 : (some false) = some r := by rw [if_pos rfl] at H;exact H
          clear H
          have H := H1
          clear H1
          obtain rfl := Option.some.inj H
          go_wp2
          go_ret
          exact ⟨by first|rfl|(simp [qaj,qak]<;>rfl)|(simp [*,qaj,qak]<;>rfl),by repeat (first|(with_reducible first|exact HB.out|apply qab|apply qaa|apply qac|refine qaf ?_ GE108.out)|exact HB.out)⟩
         ·replace c26 := Bool.eq_false_iff.mpr c26
          subst c26
          have H1 : ((version_only.f kj20 a0_1 (⟨#[48,49,50,51,52,53,54,55,56,57,97,98,99,100,101,102,103,104,105,106,107,108,109,110,111,112,113,114,115,116,117,118,119,120,121,122,65,66,67,68,69,70,71,72,73,74,75,76,77,78,79,80,81,82,83,84,85,86,87,88,89,90,46,43,126,45,58]⟩ : ByteArray)).bind fun t112 => (if t112 = true then ((version_only.f kj20 a0_2 (⟨#[48,49,50,51,52,53,54,55,56,57,97,98,99,100,101,102,103,104,105,106,107,108,109,110,111,112,113,114,115,116,117,118,119,120,121,122,65,66,67,68,69,70,71,72,73,74,75,76,77,78,79,80,81,82,83,84,85,86,87,88,89,90,46,43,126]⟩ : ByteArray)).bind fun t113 => (if t113 = true then ((version_text.f a0_0 a0_1 a0_2).bind fun t114 => (some (decide ((t114.size : Int) ≤ 60)))) else (some false))) else (some false))) = some r := by rw [if_neg (show ¬ (false = true) by decide)] at H;exact H
          clear H
          have H := H1
          clear H1
          replace H := Option.bind_eq_some_iff.mp H
          obtain ⟨t112,A270,H⟩ := H
          replace H : (if t112 = true then ((version_only.f kj20 a0_2 (⟨#[48,49,50,51,52,53,54,55,56,57,97,98,99,100,101,102,103,104,105,106,107,108,109,110,111,112,113,114,115,116,117,118,119,120,121,122,65,66,67,68,69,70,71,72,73,74,75,76,77,78,79,80,81,82,83,84,85,86,87,88,89,90,46,43,126]⟩ : ByteArray)).bind fun t113 => (if t113 = true then ((version_text.f a0_0 a0_1 a0_2).bind fun t114 => (some (decide ((t114.size : Int) ≤ 60)))) else (some false))) else (some false)) = some r := H
          have A27 := Aside0.mk A270
          clear A270
          by_cases c28 : t112 = true
          ·subst c28
           have H1 : ((version_only.f kj20 a0_2 (⟨#[48,49,50,51,52,53,54,55,56,57,97,98,99,100,101,102,103,104,105,106,107,108,109,110,111,112,113,114,115,116,117,118,119,120,121,122,65,66,67,68,69,70,71,72,73,74,75,76,77,78,79,80,81,82,83,84,85,86,87,88,89,90,46,43,126]⟩ : ByteArray)).bind fun t113 => (if t113 = true then ((version_text.f a0_0 a0_1 a0_2).bind fun t114 => (some (decide ((t114.size : Int) ≤ 60)))) else (some false))) = some r := by rw [if_pos rfl] at H;exact H
           clear H
           have H := H1
           clear H1
           replace H := Option.bind_eq_some_iff.mp H
           obtain ⟨t113,A290,H⟩ := H
           replace H : (if t113 = true then ((version_text.f a0_0 a0_1 a0_2).bind fun t114 => (some (decide ((t114.size : Int) ≤ 60)))) else (some false)) = some r := H
           have A29 := Aside0.mk A290
           clear A290
           by_cases c30 : t113 = true
           ·subst c30
            have H1 : ((version_text.f a0_0 a0_1 a0_2).bind fun t114 => (some (decide ((t114.size : Int) ≤ 60)))) = some r := by rw [if_pos rfl] at H;exact H
            clear H
            have H := H1
            clear H1
            replace H := Option.bind_eq_some_iff.mp H
            obtain ⟨t114,A310,H⟩ := H
            replace H : (some (decide ((t114.size : Int) ≤ 60))) = some r := H
            have A31 := Aside0.mk A310
            clear A310
            obtain rfl := Option.some.inj H
            have hcz32_0 : wc.cell? ⟨gb108,0,none⟩ = some (.int .i64 a0_0) := (qae BK108.out 0).trans rfl
            have hcz32_1 : wc.cell? ⟨gb108,1,none⟩ = some (.string a0_1) := (qae BK108.out 1).trans rfl
            have hcz32_2 : wc.cell? ⟨gb108,2,none⟩ = some (.string a0_2) := (qae BK108.out 2).trans rfl
            have hfz32_0 := qad BK108.out 0
            have hfz32_1 := qad BK108.out 1
            have hfz32_2 := qad BK108.out 2
            go_wp2_with (first|((with_reducible refine qal (f := 157) rfl ?_);refine goesL_ (some 46) rfl rfl Tryz.func157 (by kernel_rfl) rfl #[.string a0_1,.string (⟨#[48,49,50,51,52,53,54,55,56,57,97,98,99,100,101,102,103,104,105,106,107,108,109,110,111,112,113,114,115,116,117,118,119,120,121,122,65,66,67,68,69,70,71,72,73,74,75,76,77,78,79,80,81,82,83,84,85,86,87,88,89,90,46,43,126,45,58]⟩ : ByteArray)] rfl (by first|rfl|(simp only [List.map_toArray,List.map_cons,List.map_nil,List.length_drop,List.length_take];rfl)|simp only [List.map_toArray,List.map_cons,List.map_nil]) ?_;(with_reducible refine (version_only.calls kj20 a0_1 (⟨#[48,49,50,51,52,53,54,55,56,57,97,98,99,100,101,102,103,104,105,106,107,108,109,110,111,112,113,114,115,116,117,118,119,120,121,122,65,66,67,68,69,70,71,72,73,74,75,76,77,78,79,80,81,82,83,84,85,86,87,88,89,90,46,43,126,45,58]⟩ : ByteArray) true _ (by first|exact hG|exact GL.below hG (by repeat (first|(with_reducible first|exact HB.out|apply qab|apply qaa|apply qac|refine qaf ?_ GE108.out)|exact HB.out)))  A27.out).mono ?_);rintro e w' ⟨rfl,⟨nd,rfl⟩⟩;refine ⟨_,rfl,?_⟩)|(go_at_call 157;(with_reducible refine (version_only.calls kj20 a0_2 (⟨#[48,49,50,51,52,53,54,55,56,57,97,98,99,100,101,102,103,104,105,106,107,108,109,110,111,112,113,114,115,116,117,118,119,120,121,122,65,66,67,68,69,70,71,72,73,74,75,76,77,78,79,80,81,82,83,84,85,86,87,88,89,90,46,43,126]⟩ : ByteArray) true _ (by first|exact hG|exact GL.below hG (by repeat (first|(with_reducible first|exact HB.out|apply qab|apply qaa|apply qac|refine qaf ?_ GE108.out)|exact HB.out)))  A29.out).mono ?_);rintro e w' ⟨rfl,⟨nd,rfl⟩⟩)|(go_at_call 142;(with_reducible refine (version_text.calls a0_0 a0_1 a0_2 t114 _ (by first|exact hG|exact GL.below hG (by repeat (first|(with_reducible first|exact HB.out|apply qab|apply qaa|apply qac|refine qaf ?_ GE108.out)|exact HB.out)))  A31.out).mono ?_);rintro e w33 ⟨rfl,hb⟩;have n0_ := Aside0.mk (qap (g := gb108) (o := .cells #[.int .i64 a0_0,.string a0_1,.string a0_2] 106 (0,0)) (by (with_reducible repeat (first|refine qah ?_ _|refine qai ?_|refine qag ?_ _));exact BK108.out) hb);have n1_ := Aside0.mk (qan (by repeat (first|(with_reducible first|exact HB.out|apply qab|apply qaa|apply qac|refine qaf ?_ GE108.out)|exact HB.out)) hb);clear BK108;clear HB;have BK108 := n0_;have HB := n1_;clear n0_ n1_;(try clear hb);(try clear hb2);(try clear hk);(try clear hi)))
            go_ret
            exact ⟨by first|rfl|(simp [qaj,qak]<;>rfl)|(simp [*,qaj,qak]<;>rfl),by repeat (first|(with_reducible first|exact HB.out|apply qab|apply qaa|apply qac|refine qaf ?_ GE108.out)|exact HB.out)⟩
           ·replace c30 := Bool.eq_false_iff.mpr c30
            subst c30
            have H1 : (some false) = some r := by rw [if_neg (show ¬ (false = true) by decide)] at H;exact H
            clear H
            have H := H1
            clear H1
            obtain rfl := Option.some.inj H
            have hcz34_0 : wc.cell? ⟨gb108,0,none⟩ = some (.int .i64 a0_0) := (qae BK108.out 0).trans rfl
            have hcz34_1 : wc.cell? ⟨gb108,1,none⟩ = some (.string a0_1) := (qae BK108.out 1).trans rfl
            have hcz34_2 : wc.cell? ⟨gb108,2,none⟩ = some (.string a0_2) := (qae BK108.out 2).trans rfl
            have hfz34_0 := qad BK108.out 0
            have hfz34_1 := qad BK108.out 1
            have hfz34_2 := qad BK108.out 2
            go_wp2_with (first|((with_reducible refine qal (f := 157) rfl ?_);refine goesL_ (some 46) rfl rfl Tryz.func157 (by kernel_rfl) rfl #[.string a0_1,.string (⟨#[48,49,50,51,52,53,54,55,56,57,97,98,99,100,101,102,103,104,105,106,107,108,109,110,111,112,113,114,115,116,117,118,119,120,121,122,65,66,67,68,69,70,71,72,73,74,75,76,77,78,79,80,81,82,83,84,85,86,87,88,89,90,46,43,126,45,58]⟩ : ByteArray)] rfl (by first|rfl|(simp only [List.map_toArray,List.map_cons,List.map_nil,List.length_drop,List.length_take];rfl)|simp only [List.map_toArray,List.map_cons,List.map_nil]) ?_;(with_reducible refine (version_only.calls kj20 a0_1 (⟨#[48,49,50,51,52,53,54,55,56,57,97,98,99,100,101,102,103,104,105,106,107,108,109,110,111,112,113,114,115,116,117,118,119,120,121,122,65,66,67,68,69,70,71,72,73,74,75,76,77,78,79,80,81,82,83,84,85,86,87,88,89,90,46,43,126,45,58]⟩ : ByteArray) true _ (by first|exact hG|exact GL.below hG (by repeat (first|(with_reducible first|exact HB.out|apply qab|apply qaa|apply qac|refine qaf ?_ GE108.out)|exact HB.out)))  A27.out).mono ?_);rintro e w' ⟨rfl,⟨nd,rfl⟩⟩;refine ⟨_,rfl,?_⟩)|(go_at_call 157;(with_reducible refine (version_only.calls kj20 a0_2 (⟨#[48,49,50,51,52,53,54,55,56,57,97,98,99,100,101,102,103,104,105,106,107,108,109,110,111,112,113,114,115,116,117,118,119,120,121,122,65,66,67,68,69,70,71,72,73,74,75,76,77,78,79,80,81,82,83,84,85,86,87,88,89,90,46,43,126]⟩ : ByteArray) false _ (by first|exact hG|exact GL.below hG (by repeat (first|(with_reducible first|exact HB.out|apply qab|apply qaa|apply qac|refine qaf ?_ GE108.out)|exact HB.out)))  A29.out).mono ?_);rintro e w' ⟨rfl,⟨nd,rfl⟩⟩))
            go_ret
            exact ⟨by first|rfl|(simp [qaj,qak]<;>rfl)|(simp [*,qaj,qak]<;>rfl),by repeat (first|(with_reducible first|exact HB.out|apply qab|apply qaa|apply qac|refine qaf ?_ GE108.out)|exact HB.out)⟩
          ·replace c28 := Bool.eq_false_iff.mpr c28
           subst c28
           have H1 : (some false) = some r := by rw [if_neg (show ¬ (false = true) by decide)] at H;exact H
           clear H
           have H := H1
           clear H1
           obtain rfl := Option.some.inj H
           have hcz35_0 : wc.cell? ⟨gb108,0,none⟩ = some (.int .i64 a0_0) := (qae BK108.out 0).trans rfl
           have hcz35_1 : wc.cell? ⟨gb108,1,none⟩ = some (.string a0_1) := (qae BK108.out 1).trans rfl
           have hcz35_2 : wc.cell? ⟨gb108,2,none⟩ = some (.string a0_2) := (qae BK108.out 2).trans rfl
           have hfz35_0 := qad BK108.out 0
           have hfz35_1 := qad BK108.out 1
           have hfz35_2 := qad BK108.out 2
           go_wp2_with (first|((with_reducible refine qal (f := 157) rfl ?_);refine goesL_ (some 46) rfl rfl Tryz.func157 (by kernel_rfl) rfl #[.string a0_1,.string (⟨#[48,49,50,51,52,53,54,55,56,57,97,98,99,100,101,102,103,104,105,106,107,108,109,110,111,112,113,114,115,116,117,118,119,120,121,122,65,66,67,68,69,70,71,72,73,74,75,76,77,78,79,80,81,82,83,84,85,86,87,88,89,90,46,43,126,45,58]⟩ : ByteArray)] rfl (by first|rfl|(simp only [List.map_toArray,List.map_cons,List.map_nil,List.length_drop,List.length_take];rfl)|simp only [List.map_toArray,List.map_cons,List.map_nil]) ?_;(with_reducible refine (version_only.calls kj20 a0_1 (⟨#[48,49,50,51,52,53,54,55,56,57,97,98,99,100,101,102,103,104,105,106,107,108,109,110,111,112,113,114,115,116,117,118,119,120,121,122,65,66,67,68,69,70,71,72,73,74,75,76,77,78,79,80,81,82,83,84,85,86,87,88,89,90,46,43,126,45,58]⟩ : ByteArray) false _ (by first|exact hG|exact GL.below hG (by repeat (first|(with_reducible first|exact HB.out|apply qab|apply qaa|apply qac|refine qaf ?_ GE108.out)|exact HB.out)))  A27.out).mono ?_);rintro e w' ⟨rfl,⟨nd,rfl⟩⟩;refine ⟨_,rfl,?_⟩))
           go_ret
           exact ⟨by first|rfl|(simp [qaj,qak]<;>rfl)|(simp [*,qaj,qak]<;>rfl),by repeat (first|(with_reducible first|exact HB.out|apply qab|apply qaa|apply qac|refine qaf ?_ GE108.out)|exact HB.out)⟩
end Go.Proofs.YtiidmjmkgjfaeaaGreatDoor.PA
