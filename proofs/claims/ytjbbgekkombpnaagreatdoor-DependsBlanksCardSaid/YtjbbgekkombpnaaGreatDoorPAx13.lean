
import Derived.Test.YtjbbgekkombpnaaGreatDoorPAx0
import Derived.Test.YtjbbgekkombpnaaGreatDoorPAx12
namespace Go.Proofs.YtjbbgekkombpnaaGreatDoor.PA
open Go.RowKit Go.Proofs.YtjbbgekkombpnaaGreatDoorW.PrintWords Go.Proofs.YtjbbgekkombpnaaGreatDoorW.PrintLast Go.Proofs.YtjbbgekkombpnaaGreatDoorW.PrintMore
attribute [local go_sem] max2_int min2_int max_two min_two max_three min_three max_four min_four
set_option maxHeartbeats 8000000
set_option maxRecDepth 100000
set_option linter.unusedVariables false
set_option linter.unusedSimpArgs false
def keelsonref2_text.f (k : Nat) (a0_0 : Int) (a0_1 : ByteArray) (a0_2 : ByteArray) : Option (ByteArray) := if a0_0 = 0 then (if a0_2.toList = ([] : List UInt8) then (some a0_1) else (if a0_1.size + 1 ≤ 9223372036854775807 then (if (a0_1 ++ (⟨#[45]⟩ : ByteArray)).size + a0_2.size ≤ 9223372036854775807 then (some ((a0_1 ++ (⟨#[45]⟩ : ByteArray)) ++ a0_2)) else (none)) else (none))) else ((keelsonref2_Decimal.f k a0_0).bind fun t257 => (if t257.size + 1 ≤ 9223372036854775807 then (if (t257 ++ (⟨#[58]⟩ : ByteArray)).size + a0_1.size ≤ 9223372036854775807 then (if a0_2.toList = ([] : List UInt8) then (some ((t257 ++ (⟨#[58]⟩ : ByteArray)) ++ a0_1)) else (if ((t257 ++ (⟨#[58]⟩ : ByteArray)) ++ a0_1).size + 1 ≤ 9223372036854775807 then (if (((t257 ++ (⟨#[58]⟩ : ByteArray)) ++ a0_1) ++ (⟨#[45]⟩ : ByteArray)).size + a0_2.size ≤ 9223372036854775807 then (some ((((t257 ++ (⟨#[58]⟩ : ByteArray)) ++ a0_1) ++ (⟨#[45]⟩ : ByteArray)) ++ a0_2)) else (none)) else (none))) else (none)) else (none)))
theorem keelsonref2_text.mono : ∀ a0 a1 a2 k,LeO (keelsonref2_text.f k a0 a1 a2) (keelsonref2_text.f (k + 1) a0 a1 a2) := by
 intro a0 a1 a2 k
 unfold keelsonref2_text.f
 repeat' first
   | (with_reducible exact keelsonref2_Decimal.mono _ _)
   | (with_reducible exact LeO.refl _)
   | (with_reducible exact LeO.none _)
   | (with_reducible refine LeO.ite ?_ ?_)
   | (with_reducible refine LeO.bind ?_ (fun _ => ?_))
   | exact keelsonref2_Decimal.mono _ _
   | exact LeO.none _
   | refine LeO.ite ?_ ?_
   | refine LeO.bind ?_ (fun _ => ?_)
theorem keelsonref2_text.calls (k : Nat) (a0_0 : Int) (a0_1 : ByteArray) (a0_2 : ByteArray) (r : ByteArray) (w : World) (hG : GL w) (h : keelsonref2_text.f k a0_0 a0_1 a0_2 = some r) :
  Calls Tryz.prog 95 #[.agg #[.int .i64 a0_0,.string a0_1,.string a0_2]] w fun e w' => e = .returned (.string r) ∧ Below w.heap.size w w' := by
 have hu90 := Tryz.underlying90
 have HB := Aside0.mk (Below.refl w.heap.size w)
 have H : (if a0_0 = 0 then (if a0_2.toList = ([] : List UInt8) then (some a0_1) else (if a0_1.size + 1 ≤ 9223372036854775807 then (if (a0_1 ++ (⟨#[45]⟩ : ByteArray)).size + a0_2.size ≤ 9223372036854775807 then (some ((a0_1 ++ (⟨#[45]⟩ : ByteArray)) ++ a0_2)) else (none)) else (none))) else ((keelsonref2_Decimal.f k a0_0).bind fun t257 => (if t257.size + 1 ≤ 9223372036854775807 then (if (t257 ++ (⟨#[58]⟩ : ByteArray)).size + a0_1.size ≤ 9223372036854775807 then (if a0_2.toList = ([] : List UInt8) then (some ((t257 ++ (⟨#[58]⟩ : ByteArray)) ++ a0_1)) else (if ((t257 ++ (⟨#[58]⟩ : ByteArray)) ++ a0_1).size + 1 ≤ 9223372036854775807 then (if (((t257 ++ (⟨#[58]⟩ : ByteArray)) ++ a0_1) ++ (⟨#[45]⟩ : ByteArray)).size + a0_2.size ≤ 9223372036854775807 then (some ((((t257 ++ (⟨#[58]⟩ : ByteArray)) ++ a0_1) ++ (⟨#[45]⟩ : ByteArray)) ++ a0_2)) else (none)) else (none))) else (none)) else (none)))) = some r := h
 clear h
 by_cases c2 : a0_0 = 0
 ·rw [if_pos c2] at H
  have c2b0 : (a0_0 == 0) = true := beq_iff_eq.mpr c2
  have c2b1 : (a0_0 != 0) = false := bne_eq_false_iff_eq.mpr c2
  clear c2
  by_cases c3 : a0_2.toList = ([] : List UInt8)
  ·rw [if_pos c3] at H
   have c3b0 : (a0_2.toList == ([] : List UInt8)) = true := beq_iff_eq.mpr c3
   have c3b1 : (a0_2.toList != ([] : List UInt8)) = false := bne_eq_false_iff_eq.mpr c3
   clear c3
   obtain rfl := Option.some.inj H
   go_enter Tryz.func95,Tryz.ntmps95
   go_wp2_with (first|((with_reducible refine gate_dst (N := 1) rfl ?_);refine box_event ?hg (N := 1) ?hd (cs := #[.int .i64 a0_0,.string a0_1,.string a0_2]) (t := 90) ?hr ?_;(case hd => rfl);(case hg => rfl);(case hr => first|(go_simp;done)|(go_simp;rfl));intro gb256 hg w4 hbox hb;have n0_ := Aside0.mk (qan (by repeat (with_reducible first|exact HB.out|apply qab|apply qaa|apply qac)) hb);have n1_ := Aside0.mk (hbox);have n2_ := Aside0.mk ((by rw [hg];exact (qao (by repeat (with_reducible first|exact HB.out|apply qab|apply qaa|apply qac))) : w.heap.size ≤ gb256));have n3_ := Aside0.mk ((by rw [hg];exact (qao (by repeat (with_reducible first|exact HB.out|apply qab|apply qaa|apply qac))) : w.heap.size ≤ gb256));clear HB;have HB := n0_;have BK256 := n1_;have GW256 := n2_;have GE256 := n3_;clear n0_ n1_ n2_ n3_;clear hb hbox hg;have hcz5_0 : w4.cell? ⟨gb256,0,none⟩ = some (.int .i64 a0_0) := (qaf BK256.out 0).trans rfl;have hcz5_1 : w4.cell? ⟨gb256,1,none⟩ = some (.string a0_1) := (qaf BK256.out 1).trans rfl;have hcz5_2 : w4.cell? ⟨gb256,2,none⟩ = some (.string a0_2) := (qaf BK256.out 2).trans rfl;have hfz5_0 := qad BK256.out 0;have hfz5_1 := qad BK256.out 1;have hfz5_2 := qad BK256.out 2))
   go_ret
   exact ⟨by first|rfl|(simp [qak,qal]<;>rfl)|(simp [*,qak,qal]<;>rfl),by repeat (first|(with_reducible first|exact HB.out|apply qab|apply qaa|apply qac|refine qae ?_ GE256.out)|exact HB.out)⟩
  ·rw [if_neg c3] at H
   have c3b0 : (a0_2.toList == ([] : List UInt8)) = false := beq_eq_false_iff_ne.mpr c3
   have c3b1 : (a0_2.toList != ([] : List UInt8)) = true := bne_iff_ne.mpr c3
   by_cases c6 : a0_1.size + 1 ≤ 9223372036854775807
   ·rw [if_pos c6] at H
    have c6b0 := eq_true c6
    have c6b1 : decide (a0_1.size + 1 ≤ 9223372036854775807) = true := decide_eq_true c6
    try have c6b2 : (9223372036854775807 < a0_1.size + 1) = False := eq_false (Nat.not_lt.2 c6)
    by_cases c7 : (a0_1 ++ (⟨#[45]⟩ : ByteArray)).size + a0_2.size ≤ 9223372036854775807
    ·rw [if_pos c7] at H
     have c7b0 := eq_true c7
     have c7b1 : decide ((a0_1 ++ (⟨#[45]⟩ : ByteArray)).size + a0_2.size ≤ 9223372036854775807) = true := decide_eq_true c7
     try have c7b2 : (9223372036854775807 < (a0_1 ++ (⟨#[45]⟩ : ByteArray)).size + a0_2.size) = False := eq_false (Nat.not_lt.2 c7)
     (try (have c7n := c7;simp only [ByteArray.size_append,size_of_lit,List.size_toArray,List.length_cons,List.length_nil,Nat.zero_add,Nat.reduceAdd] at c7n;have c7n1 := eq_false (Nat.not_lt.2 c7n)))
     obtain rfl := Option.some.inj H
     go_enter Tryz.func95,Tryz.ntmps95
     go_wp2_with (first|((with_reducible refine gate_dst (N := 1) rfl ?_);refine box_event ?hg (N := 1) ?hd (cs := #[.int .i64 a0_0,.string a0_1,.string a0_2]) (t := 90) ?hr ?_;(case hd => rfl);(case hg => rfl);(case hr => first|(go_simp;done)|(go_simp;rfl));intro gb256 hg w8 hbox hb;have n0_ := Aside0.mk (qan (by repeat (with_reducible first|exact HB.out|apply qab|apply qaa|apply qac)) hb);have n1_ := Aside0.mk (hbox);have n2_ := Aside0.mk ((by rw [hg];exact (qao (by repeat (with_reducible first|exact HB.out|apply qab|apply qaa|apply qac))) : w.heap.size ≤ gb256));have n3_ := Aside0.mk ((by rw [hg];exact (qao (by repeat (with_reducible first|exact HB.out|apply qab|apply qaa|apply qac))) : w.heap.size ≤ gb256));clear HB;have HB := n0_;have BK256 := n1_;have GW256 := n2_;have GE256 := n3_;clear n0_ n1_ n2_ n3_;clear hb hbox hg;have hcz9_0 : w8.cell? ⟨gb256,0,none⟩ = some (.int .i64 a0_0) := (qaf BK256.out 0).trans rfl;have hcz9_1 : w8.cell? ⟨gb256,1,none⟩ = some (.string a0_1) := (qaf BK256.out 1).trans rfl;have hcz9_2 : w8.cell? ⟨gb256,2,none⟩ = some (.string a0_2) := (qaf BK256.out 2).trans rfl;have hfz9_0 := qad BK256.out 0;have hfz9_1 := qad BK256.out 1;have hfz9_2 := qad BK256.out 2))
     go_ret
     exact ⟨by first|rfl|(simp [qak,qal]<;>rfl)|(simp [*,qak,qal]<;>rfl),by repeat (first|(with_reducible first|exact HB.out|apply qab|apply qaa|apply qac|refine qae ?_ GE256.out)|exact HB.out)⟩
    ·rw [if_neg c7] at H
     exact absurd H (by simp)
   ·rw [if_neg c6] at H
    exact absurd H (by simp)
 ·rw [if_neg c2] at H
  have c2b0 : (a0_0 == 0) = false := beq_eq_false_iff_ne.mpr c2
  have c2b1 : (a0_0 != 0) = true := bne_iff_ne.mpr c2
  replace H := Option.bind_eq_some_iff.mp H
  obtain ⟨t257,A100,H⟩ := H
  replace H : (if t257.size + 1 ≤ 9223372036854775807 then (if (t257 ++ (⟨#[58]⟩ : ByteArray)).size + a0_1.size ≤ 9223372036854775807 then (if a0_2.toList = ([] : List UInt8) then (some ((t257 ++ (⟨#[58]⟩ : ByteArray)) ++ a0_1)) else (if ((t257 ++ (⟨#[58]⟩ : ByteArray)) ++ a0_1).size + 1 ≤ 9223372036854775807 then (if (((t257 ++ (⟨#[58]⟩ : ByteArray)) ++ a0_1) ++ (⟨#[45]⟩ : ByteArray)).size + a0_2.size ≤ 9223372036854775807 then (some ((((t257 ++ (⟨#[58]⟩ : ByteArray)) ++ a0_1) ++ (⟨#[45]⟩ : ByteArray)) ++ a0_2)) else (none)) else (none))) else (none)) else (none)) = some r := H
  have A10 := Aside0.mk A100
  clear A100
  by_cases c11 : t257.size + 1 ≤ 9223372036854775807
  ·rw [if_pos c11] at H
   have c11b0 := eq_true c11
   have c11b1 : decide (t257.size + 1 ≤ 9223372036854775807) = true := decide_eq_true c11
   try have c11b2 : (9223372036854775807 < t257.size + 1) = False := eq_false (Nat.not_lt.2 c11)
   by_cases c12 : (t257 ++ (⟨#[58]⟩ : ByteArray)).size + a0_1.size ≤ 9223372036854775807
   ·rw [if_pos c12] at H
    have c12b0 := eq_true c12
    have c12b1 : decide ((t257 ++ (⟨#[58]⟩ : ByteArray)).size + a0_1.size ≤ 9223372036854775807) = true := decide_eq_true c12
    try have c12b2 : (9223372036854775807 < (t257 ++ (⟨#[58]⟩ : ByteArray)).size + a0_1.size) = False := eq_false (Nat.not_lt.2 c12)
    (try (have c12n := c12;simp only [ByteArray.size_append,size_of_lit,List.size_toArray,List.length_cons,List.length_nil,Nat.zero_add,Nat.reduceAdd] at c12n;have c12n1 := eq_false (Nat.not_lt.2 c12n)))
    by_cases c13 : a0_2.toList = ([] : List UInt8)
    ·rw [if_pos c13] at H
     have c13b0 : (a0_2.toList == ([] : List UInt8)) = true := beq_iff_eq.mpr c13
     have c13b1 : (a0_2.toList != ([] : List UInt8)) = false := bne_eq_false_iff_eq.mpr c13
     clear c13
     obtain rfl := Option.some.inj H
     go_enter Tryz.func95,Tryz.ntmps95
     go_wp2_with (first|((with_reducible refine gate_dst (N := 1) rfl ?_);refine box_event ?hg (N := 1) ?hd (cs := #[.int .i64 a0_0,.string a0_1,.string a0_2]) (t := 90) ?hr ?_;(case hd => rfl);(case hg => rfl);(case hr => first|(go_simp;done)|(go_simp;rfl));intro gb256 hg w14 hbox hb;have n0_ := Aside0.mk (qan (by repeat (with_reducible first|exact HB.out|apply qab|apply qaa|apply qac)) hb);have n1_ := Aside0.mk (hbox);have n2_ := Aside0.mk ((by rw [hg];exact (qao (by repeat (with_reducible first|exact HB.out|apply qab|apply qaa|apply qac))) : w.heap.size ≤ gb256));have n3_ := Aside0.mk ((by rw [hg];exact (qao (by repeat (with_reducible first|exact HB.out|apply qab|apply qaa|apply qac))) : w.heap.size ≤ gb256));clear HB;have HB := n0_;have BK256 := n1_;have GW256 := n2_;have GE256 := n3_;clear n0_ n1_ n2_ n3_;clear hb hbox hg;have hcz15_0 : w14.cell? ⟨gb256,0,none⟩ = some (.int .i64 a0_0) := (qaf BK256.out 0).trans rfl;have hcz15_1 : w14.cell? ⟨gb256,1,none⟩ = some (.string a0_1) := (qaf BK256.out 1).trans rfl;have hcz15_2 : w14.cell? ⟨gb256,2,none⟩ = some (.string a0_2) := (qaf BK256.out 2).trans rfl;have hfz15_0 := qad BK256.out 0;have hfz15_1 := qad BK256.out 1;have hfz15_2 := qad BK256.out 2)|((with_reducible refine qam (f := 115) rfl ?_);refine goesL_ (some 11) rfl rfl Tryz.func115 (by kernel_rfl) rfl #[.int .i64 a0_0] rfl (by first|rfl|(simp only [List.map_toArray,List.map_cons,List.map_nil,List.length_drop,List.length_take];rfl)|simp only [List.map_toArray,List.map_cons,List.map_nil]) ?_;(with_reducible refine (keelsonref2_Decimal.calls k a0_0 t257 _ (by first|exact hG|exact GL.below hG (by repeat (first|(with_reducible first|exact HB.out|apply qab|apply qaa|apply qac|refine qae ?_ GE256.out)|exact HB.out)))  A10.out).mono ?_);rintro e w' ⟨rfl,⟨nd,rfl⟩⟩;refine ⟨_,rfl,?_⟩))
     go_ret
     exact ⟨by first|rfl|(simp [qak,qal]<;>rfl)|(simp [*,qak,qal]<;>rfl),by repeat (first|(with_reducible first|exact HB.out|apply qab|apply qaa|apply qac|refine qae ?_ GE256.out)|exact HB.out)⟩
    ·rw [if_neg c13] at H
     have c13b0 : (a0_2.toList == ([] : List UInt8)) = false := beq_eq_false_iff_ne.mpr c13
     have c13b1 : (a0_2.toList != ([] : List UInt8)) = true := bne_iff_ne.mpr c13
     by_cases c16 : ((t257 ++ (⟨#[58]⟩ : ByteArray)) ++ a0_1).size + 1 ≤ 9223372036854775807
     ·rw [if_pos c16] at H
      have c16b0 := eq_true c16
      have c16b1 : decide (((t257 ++ (⟨#[58]⟩ : ByteArray)) ++ a0_1).size + 1 ≤ 9223372036854775807) = true := decide_eq_true c16
      try have c16b2 : (9223372036854775807 < ((t257 ++ (⟨#[58]⟩ : ByteArray)) ++ a0_1).size + 1) = False := eq_false (Nat.not_lt.2 c16)
      (try (have c16n := c16;simp only [ByteArray.size_append,size_of_lit,List.size_toArray,List.length_cons,List.length_nil,Nat.zero_add,Nat.reduceAdd] at c16n;have c16n1 := eq_false (Nat.not_lt.2 c16n)))
      by_cases c17 : (((t257 ++ (⟨#[58]⟩ : ByteArray)) ++ a0_1) ++ (⟨#[45]⟩ : ByteArray)).size + a0_2.size ≤ 9223372036854775807
      ·rw [if_pos c17] at H
       have c17b0 := eq_true c17
       have c17b1 : decide ((((t257 ++ (⟨#[58]⟩ : ByteArray)) ++ a0_1) ++ (⟨#[45]⟩ : ByteArray)).size + a0_2.size ≤ 9223372036854775807) = true := decide_eq_true c17
       try have c17b2 : (9223372036854775807 < (((t257 ++ (⟨#[58]⟩ : ByteArray)) ++ a0_1) ++ (⟨#[45]⟩ : ByteArray)).size + a0_2.size) = False := eq_false (Nat.not_lt.2 c17)
       (try (have c17n := c17;simp only [ByteArray.size_append,size_of_lit,List.size_toArray,List.length_cons,List.length_nil,Nat.zero_add,Nat.reduceAdd] at c17n;have c17n1 := eq_false (Nat.not_lt.2 c17n)))
       obtain rfl := Option.some.inj H
       go_enter Tryz.func95,Tryz.ntmps95
       go_wp2_with (first|((with_reducible refine gate_dst (N := 1) rfl ?_);refine box_event ?hg (N := 1) ?hd (cs := #[.int .i64 a0_0,.string a0_1,.string a0_2]) (t := 90) ?hr ?_;(case hd => rfl);(case hg => rfl);(case hr => first|(go_simp;done)|(go_simp;rfl));intro gb256 hg w18 hbox hb;have n0_ := Aside0.mk (qan (by repeat (with_reducible first|exact HB.out|apply qab|apply qaa|apply qac)) hb);have n1_ := Aside0.mk (hbox);have n2_ := Aside0.mk ((by rw [hg];exact (qao (by repeat (with_reducible first|exact HB.out|apply qab|apply qaa|apply qac))) : w.heap.size ≤ gb256));have n3_ := Aside0.mk ((by rw [hg];exact (qao (by repeat (with_reducible first|exact HB.out|apply qab|apply qaa|apply qac))) : w.heap.size ≤ gb256));clear HB;have HB := n0_;have BK256 := n1_;have GW256 := n2_;have GE256 := n3_;clear n0_ n1_ n2_ n3_;clear hb hbox hg;have hcz19_0 : w18.cell? ⟨gb256,0,none⟩ = some (.int .i64 a0_0) := (qaf BK256.out 0).trans rfl;have hcz19_1 : w18.cell? ⟨gb256,1,none⟩ = some (.string a0_1) := (qaf BK256.out 1).trans rfl;have hcz19_2 : w18.cell? ⟨gb256,2,none⟩ = some (.string a0_2) := (qaf BK256.out 2).trans rfl;have hfz19_0 := qad BK256.out 0;have hfz19_1 := qad BK256.out 1;have hfz19_2 := qad BK256.out 2)|((with_reducible refine qam (f := 115) rfl ?_);refine goesL_ (some 11) rfl rfl Tryz.func115 (by kernel_rfl) rfl #[.int .i64 a0_0] rfl (by first|rfl|(simp only [List.map_toArray,List.map_cons,List.map_nil,List.length_drop,List.length_take];rfl)|simp only [List.map_toArray,List.map_cons,List.map_nil]) ?_;(with_reducible refine (keelsonref2_Decimal.calls k a0_0 t257 _ (by first|exact hG|exact GL.below hG (by repeat (first|(with_reducible first|exact HB.out|apply qab|apply qaa|apply qac|refine qae ?_ GE256.out)|exact HB.out)))  A10.out).mono ?_);rintro e w' ⟨rfl,⟨nd,rfl⟩⟩;refine ⟨_,rfl,?_⟩))
       go_ret
       exact ⟨by first|rfl|(simp [qak,qal]<;>rfl)|(simp [*,qak,qal]<;>rfl),by repeat (first|(with_reducible first|exact HB.out|apply qab|apply qaa|apply qac|refine qae ?_ GE256.out)|exact HB.out)⟩
      ·rw [if_neg c17] at H
       exact absurd H (by simp)
     ·rw [if_neg c16] at H
      exact absurd H (by simp)
   ·rw [if_neg c12] at H
    exact absurd H (by simp)
  ·rw [if_neg c11] at H
   exact absurd H (by simp)
def keelsonref2_has.l0 : Nat → ByteArray → Int → Int → Option (Bool)
 | 0,_,_,_ => none
 | k + 1,x0,x1,x5 => if x5 < (x0.size : Int) then (if 0 ≤ x5 then (if (bt x0 x5) = x1 then (some true) else (keelsonref2_has.l0 k x0 x1 (wrap64 (x5 + 1)))) else (none)) else (some false)
def keelsonref2_has.f (k : Nat) (a0 : ByteArray) (a1 : Int) : Option (Bool) := keelsonref2_has.l0 k a0 a1 0
theorem keelsonref2_has.mono_l : ∀ k,(∀ y0 y1 y2,LeO (keelsonref2_has.l0 k y0 y1 y2) (keelsonref2_has.l0 (k + 1) y0 y1 y2))
 | 0 => fun _ _ _ r h => by simp [keelsonref2_has.l0] at h
 | k + 1 => by
  have ih0 := keelsonref2_has.mono_l k
  ·intro y0 y1 y2
   unfold keelsonref2_has.l0
   repeat' first
   | (with_reducible exact ih0 _ _ _)
   | (with_reducible exact LeO.refl _)
   | (with_reducible exact LeO.none _)
   | (with_reducible refine LeO.ite ?_ ?_)
   | (with_reducible refine LeO.bind ?_ (fun _ => ?_))
   | exact ih0 _ _ _
   | exact LeO.none _
   | refine LeO.ite ?_ ?_
   | refine LeO.bind ?_ (fun _ => ?_)
theorem keelsonref2_has.mono : ∀ a0 a1 k,LeO (keelsonref2_has.f k a0 a1) (keelsonref2_has.f (k + 1) a0 a1) := by
 intro a0 a1 k
 have ih0 := keelsonref2_has.mono_l k
 unfold keelsonref2_has.f
 repeat' first
   | (with_reducible exact ih0 _ _ _)
   | (with_reducible exact LeO.refl _)
   | (with_reducible exact LeO.none _)
   | (with_reducible refine LeO.ite ?_ ?_)
   | (with_reducible refine LeO.bind ?_ (fun _ => ?_))
   | exact ih0 _ _ _
   | exact LeO.none _
   | refine LeO.ite ?_ ?_
   | refine LeO.bind ?_ (fun _ => ?_)
theorem keelsonref2_has.calls (k : Nat) (a0 : ByteArray) (a1 : Int) (r : Bool) (w : World) (hG : GL w) (h : keelsonref2_has.f k a0 a1 = some r) :
  Calls Tryz.prog 116 #[.string a0,.int .u8 a1] w fun e w' => e = .returned (.bool r) ∧ Drawn0 w w' := by
 have H : (keelsonref2_has.l0 k a0 a1 0) = some r := h
 clear h
 have H' := Aside0.mk H
 clear H
 go_enter Tryz.func116,Tryz.ntmps116
 go_wp2
 go_loopg [5] k (fun kq v5 w' => ∃ (x5_1 : Int),v5 = .int .i64 x5_1 ∧ Aside0 (keelsonref2_has.l0 kq a0 a1 x5_1 = some r) ∧ Aside0 (kq ≤ k) ∧ Drawn0 w w')
 case atStart => exact ⟨(0),(by first|rfl|(simp;done)|(simp [*];done)|(simp [qaj];done)),H',⟨Nat.le_refl _⟩,by repeat (first|exact Drawn0.refl _|apply Drawn0.step)⟩
 case round =>
  clear H'
  try clear c1
  try clear p2
  obtain ⟨x5_1,rfl,HA,HK1,⟨m1,rfl⟩⟩ := hrel
  cases gk with
  | zero => exact absurd HA.out (by simp [keelsonref2_has.l0])
  | succ k1 =>
   have H := HA.out
   clear HA
   simp only [keelsonref2_has.l0] at H
   by_cases c3 : x5_1 < (a0.size : Int)
   ·rw [if_pos c3] at H
    have c3b0 : decide (x5_1 < (a0.size : Int)) = true := decide_eq_true c3
    clear c3
    by_cases c4 : 0 ≤ x5_1
    ·rw [if_pos c4] at H
     have c4b0 : decide (0 ≤ x5_1) = true := decide_eq_true c4
     clear c4
     by_cases c6 : (bt a0 x5_1) = a1
     ·rw [if_pos c6] at H
      have c6b0 : ((bt a0 x5_1) == a1) = true := beq_iff_eq.mpr c6
      have c6b1 : ((bt a0 x5_1) != a1) = false := bne_eq_false_iff_eq.mpr c6
      clear c6
      obtain rfl := Option.some.inj H
      have p5 : 0 ≤ (x5_1 : Int) := of_decide_eq_true (by assumption)
      have q5 : x5_1 < (a0.size : Int) := of_decide_eq_true (by assumption)
      have hx5 := bt_at a0 x5_1
      replace p5 := eq_true p5
      replace q5 := eq_true q5
      go_wp2
      go_ret
      exact ⟨by first|rfl|(simp;done)|(simp [*];done)|(simp [qaj];done),by repeat (first|exact Drawn0.refl _|apply Drawn0.step)⟩
     ·rw [if_neg c6] at H
      have c6b0 : ((bt a0 x5_1) == a1) = false := beq_eq_false_iff_ne.mpr c6
      have c6b1 : ((bt a0 x5_1) != a1) = true := bne_iff_ne.mpr c6
      have H' := Aside0.mk H
      clear H
      have p5 : 0 ≤ (x5_1 : Int) := of_decide_eq_true (by assumption)
      have q5 : x5_1 < (a0.size : Int) := of_decide_eq_true (by assumption)
      have hx5 := bt_at a0 x5_1
      replace p5 := eq_true p5
      replace q5 := eq_true q5
      go_wp2
      go_roundg k1
      case measure => have := HK1.out;omega
      case rel => exact ⟨(wrap64 (x5_1 + 1)),(by first|rfl|(simp;done)|(simp [*];done)|(simp [qaj];done)),H',⟨by have := HK1.out;omega⟩,by repeat (first|exact Drawn0.refl _|apply Drawn0.step)⟩
    ·rw [if_neg c4] at H
     exact absurd H (by simp)
   ·rw [if_neg c3] at H
    have c3b0 : decide (x5_1 < (a0.size : Int)) = false := decide_eq_false c3
    clear c3
    obtain rfl := Option.some.inj H
    go_wp2
    go_ret
    exact ⟨by first|rfl|(simp;done)|(simp [*];done)|(simp [qaj];done),by repeat (first|exact Drawn0.refl _|apply Drawn0.step)⟩
def keelsonref2_Letter.f (a0 : Int) : Option (Bool) := if a0 ≥ 97 then (if a0 ≤ 122 then (some true) else (if a0 ≥ 65 then (some (decide (a0 ≤ 90))) else (some false))) else (if a0 ≥ 65 then (some (decide (a0 ≤ 90))) else (some false))
theorem keelsonref2_Letter.calls (a0 : Int) (r : Bool) (w : World) (hG : GL w) (h : keelsonref2_Letter.f a0 = some r) :
  Calls Tryz.prog 117 #[.int .u8 a0] w fun e w' => e = .returned (.bool r) ∧ Drawn0 w w' := by
 have H : (if a0 ≥ 97 then (if a0 ≤ 122 then (some true) else (if a0 ≥ 65 then (some (decide (a0 ≤ 90))) else (some false))) else (if a0 ≥ 65 then (some (decide (a0 ≤ 90))) else (some false))) = some r := h
 clear h
 by_cases c2 : a0 ≥ 97
 ·rw [if_pos c2] at H
  have c2b0 : decide (97 ≤ a0) = true := decide_eq_true c2
  clear c2
  by_cases c3 : a0 ≤ 122
  ·rw [if_pos c3] at H
   have c3b0 : decide (a0 ≤ 122) = true := decide_eq_true c3
   clear c3
   obtain rfl := Option.some.inj H
   go_enter Tryz.func117,Tryz.ntmps117
   go_wp2
   go_ret
   exact ⟨by first|rfl|(simp;done)|(simp [*];done)|(simp [qaj];done),by repeat (first|exact Drawn0.refl _|apply Drawn0.step)⟩
  ·rw [if_neg c3] at H
   have c3b0 : decide (a0 ≤ 122) = false := decide_eq_false c3
   clear c3
   by_cases c4 : a0 ≥ 65
   ·rw [if_pos c4] at H
    have c4b0 : decide (65 ≤ a0) = true := decide_eq_true c4
    clear c4
    obtain rfl := Option.some.inj H
    go_enter Tryz.func117,Tryz.ntmps117
    go_wp2
    go_ret
    exact ⟨by first|rfl|(simp;done)|(simp [*];done)|(simp [qaj];done),by repeat (first|exact Drawn0.refl _|apply Drawn0.step)⟩
   ·rw [if_neg c4] at H
    have c4b0 : decide (65 ≤ a0) = false := decide_eq_false c4
    clear c4
    obtain rfl := Option.some.inj H
    go_enter Tryz.func117,Tryz.ntmps117
    go_wp2
    go_ret
    exact ⟨by first|rfl|(simp;done)|(simp [*];done)|(simp [qaj];done),by repeat (first|exact Drawn0.refl _|apply Drawn0.step)⟩
 ·rw [if_neg c2] at H
  have c2b0 : decide (97 ≤ a0) = false := decide_eq_false c2
  clear c2
  by_cases c5 : a0 ≥ 65
  ·rw [if_pos c5] at H
   have c5b0 : decide (65 ≤ a0) = true := decide_eq_true c5
   clear c5
   obtain rfl := Option.some.inj H
   go_enter Tryz.func117,Tryz.ntmps117
   go_wp2
   go_ret
   exact ⟨by first|rfl|(simp;done)|(simp [*];done)|(simp [qaj];done),by repeat (first|exact Drawn0.refl _|apply Drawn0.step)⟩
  ·rw [if_neg c5] at H
   have c5b0 : decide (65 ≤ a0) = false := decide_eq_false c5
   clear c5
   obtain rfl := Option.some.inj H
   go_enter Tryz.func117,Tryz.ntmps117
   go_wp2
   go_ret
   exact ⟨by first|rfl|(simp;done)|(simp [*];done)|(simp [qaj];done),by repeat (first|exact Drawn0.refl _|apply Drawn0.step)⟩
end Go.Proofs.YtjbbgekkombpnaaGreatDoor.PA
