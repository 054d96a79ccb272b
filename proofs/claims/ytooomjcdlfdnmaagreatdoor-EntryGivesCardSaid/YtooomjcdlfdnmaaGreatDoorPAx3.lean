
import Derived.Test.YtooomjcdlfdnmaaGreatDoorPAx0
namespace Go.Proofs.YtooomjcdlfdnmaaGreatDoor.PA
open Go.RowKit Go.Proofs.YtooomjcdlfdnmaaGreatDoorW.PrintWords Go.Proofs.YtooomjcdlfdnmaaGreatDoorW.PrintLast Go.Proofs.YtooomjcdlfdnmaaGreatDoorW.PrintMore
attribute [local go_sem] max2_int min2_int max_two min_two max_three min_three max_four min_four
set_option maxHeartbeats 8000000
set_option maxRecDepth 100000
set_option linter.unusedVariables false
set_option linter.unusedSimpArgs false
def version_text.f (a0_0 : Int) (a0_1 : ByteArray) (a0_2 : ByteArray) : Option (ByteArray) := if a0_0 = 0 then (if a0_2.toList = ([] : List UInt8) then (some a0_1) else (if 1 + a0_2.size ≤ 9223372036854775807 then (if a0_1.size + ((⟨#[45]⟩ : ByteArray) ++ a0_2).size ≤ 9223372036854775807 then (some (a0_1 ++ ((⟨#[45]⟩ : ByteArray) ++ a0_2))) else (none)) else (none))) else ((strconv_Itoa.f a0_0).bind fun t110 => (if t110.size + 1 ≤ 9223372036854775807 then (if (t110 ++ (⟨#[58]⟩ : ByteArray)).size + a0_1.size ≤ 9223372036854775807 then (if a0_2.toList = ([] : List UInt8) then (some ((t110 ++ (⟨#[58]⟩ : ByteArray)) ++ a0_1)) else (if 1 + a0_2.size ≤ 9223372036854775807 then (if ((t110 ++ (⟨#[58]⟩ : ByteArray)) ++ a0_1).size + ((⟨#[45]⟩ : ByteArray) ++ a0_2).size ≤ 9223372036854775807 then (some (((t110 ++ (⟨#[58]⟩ : ByteArray)) ++ a0_1) ++ ((⟨#[45]⟩ : ByteArray) ++ a0_2))) else (none)) else (none))) else (none)) else (none)))
theorem version_text.calls (a0_0 : Int) (a0_1 : ByteArray) (a0_2 : ByteArray) (r : ByteArray) (w : World) (hG : GL w) (h : version_text.f a0_0 a0_1 a0_2 = some r) :
  Calls Tryz.prog 178 #[.agg #[.int .i64 a0_0,.string a0_1,.string a0_2]] w fun e w' => e = .returned (.string r) ∧ Below w.heap.size w w' := by
 have hu128 := Tryz.underlying128
 have HB := Aside0.mk (Below.refl w.heap.size w)
 have H : (if a0_0 = 0 then (if a0_2.toList = ([] : List UInt8) then (some a0_1) else (if 1 + a0_2.size ≤ 9223372036854775807 then (if a0_1.size + ((⟨#[45]⟩ : ByteArray) ++ a0_2).size ≤ 9223372036854775807 then (some (a0_1 ++ ((⟨#[45]⟩ : ByteArray) ++ a0_2))) else (none)) else (none))) else ((strconv_Itoa.f a0_0).bind fun t110 => (if t110.size + 1 ≤ 9223372036854775807 then (if (t110 ++ (⟨#[58]⟩ : ByteArray)).size + a0_1.size ≤ 9223372036854775807 then (if a0_2.toList = ([] : List UInt8) then (some ((t110 ++ (⟨#[58]⟩ : ByteArray)) ++ a0_1)) else (if 1 + a0_2.size ≤ 9223372036854775807 then (if ((t110 ++ (⟨#[58]⟩ : ByteArray)) ++ a0_1).size + ((⟨#[45]⟩ : ByteArray) ++ a0_2).size ≤ 9223372036854775807 then (some (((t110 ++ (⟨#[58]⟩ : ByteArray)) ++ a0_1) ++ ((⟨#[45]⟩ : ByteArray) ++ a0_2))) else (none)) else (none))) else (none)) else (none)))) = some r := h
 clear h
 by_cases c2 : a0_0 = 0
 ·rw [if_pos c2] at H
  have c2b0 : (a0_0 == 0) = true := beq_iff_eq.mpr c2
  have c2b1 : (a0_0 != 0) = false := bne_eq_false_iff_eq.mpr c2
  clear c2
  by_cases c3 : a0_2.toList = ([] : List UInt8)
  ·rw [if_pos c3] at H
   have c3b0 : (a0_2.toList == ([] : List UInt8)) = true := beq_iff_eq.mpr c3
   have c3b1 : (a0_2.toList != ([] : List UInt8)) = false := bne_eq_false_iff_eq.mpr c3
   clear c3
   obtain rfl := Option.some.inj H
   go_enter Tryz.func178,Tryz.ntmps178
   go_wp2_with (first|((with_reducible refine gate_dst (N := 1) rfl ?_);refine box_event ?hg (N := 1) ?hd (cs := #[.int .i64 a0_0,.string a0_1,.string a0_2]) (t := 128) ?hr ?_;(case hd => rfl);(case hg => rfl);(case hr => first|(go_simp;done)|(go_simp;rfl));intro gb109 hg w4 hbox hb;have n0_ := Aside0.mk (qan (by repeat (with_reducible first|exact HB.out|apply qab|apply qaa|apply qac)) hb);have n1_ := Aside0.mk (hbox);have n2_ := Aside0.mk ((by rw [hg];exact (qao (by repeat (with_reducible first|exact HB.out|apply qab|apply qaa|apply qac))) : w.heap.size ≤ gb109));have n3_ := Aside0.mk ((by rw [hg];exact (qao (by repeat (with_reducible first|exact HB.out|apply qab|apply qaa|apply qac))) : w.heap.size ≤ gb109));clear HB;have HB := n0_;have BK109 := n1_;have GW109 := n2_;have GE109 := n3_;clear n0_ n1_ n2_ n3_;clear hb hbox hg;have hcz5_0 : w4.cell? ⟨gb109,0,none⟩ = some (.int .i64 a0_0) := (qae BK109.out 0).trans rfl;have hcz5_1 : w4.cell? ⟨gb109,1,none⟩ = some (.string a0_1) := (qae BK109.out 1).trans rfl;have hcz5_2 : w4.cell? ⟨gb109,2,none⟩ = some (.string a0_2) := (qae BK109.out 2).trans rfl;have hfz5_0 := qad BK109.out 0;have hfz5_1 := qad BK109.out 1;have hfz5_2 := qad BK109.out 2))
   go_ret
   exact ⟨by first|rfl|(simp [qaj,qak]<;>rfl)|(simp [*,qaj,qak]<;>rfl),by repeat (first|(with_reducible first|exact HB.out|apply qab|apply qaa|apply qac|refine qaf ?_ GE109.out)|exact HB.out)⟩
  ·rw [if_neg c3] at H
   have c3b0 : (a0_2.toList == ([] : List UInt8)) = false := beq_eq_false_iff_ne.mpr c3
   have c3b1 : (a0_2.toList != ([] : List UInt8)) = true := bne_iff_ne.mpr c3
   by_cases c6 : 1 + a0_2.size ≤ 9223372036854775807
   ·rw [if_pos c6] at H
    have c6b0 := eq_true c6
    have c6b1 : decide (1 + a0_2.size ≤ 9223372036854775807) = true := decide_eq_true c6
    try have c6b2 : (9223372036854775807 < 1 + a0_2.size) = False := eq_false (Nat.not_lt.2 c6)
    by_cases c7 : a0_1.size + ((⟨#[45]⟩ : ByteArray) ++ a0_2).size ≤ 9223372036854775807
    ·rw [if_pos c7] at H
     have c7b0 := eq_true c7
     have c7b1 : decide (a0_1.size + ((⟨#[45]⟩ : ByteArray) ++ a0_2).size ≤ 9223372036854775807) = true := decide_eq_true c7
     try have c7b2 : (9223372036854775807 < a0_1.size + ((⟨#[45]⟩ : ByteArray) ++ a0_2).size) = False := eq_false (Nat.not_lt.2 c7)
     (try (have c7n := c7;simp only [ByteArray.size_append,size_of_lit,List.size_toArray,List.length_cons,List.length_nil,Nat.zero_add,Nat.reduceAdd] at c7n;have c7n1 := eq_false (Nat.not_lt.2 c7n)))
     obtain rfl := Option.some.inj H
     go_enter Tryz.func178,Tryz.ntmps178
     go_wp2_with (first|((with_reducible refine gate_dst (N := 1) rfl ?_);refine box_event ?hg (N := 1) ?hd (cs := #[.int .i64 a0_0,.string a0_1,.string a0_2]) (t := 128) ?hr ?_;(case hd => rfl);(case hg => rfl);(case hr => first|(go_simp;done)|(go_simp;rfl));intro gb109 hg w8 hbox hb;have n0_ := Aside0.mk (qan (by repeat (with_reducible first|exact HB.out|apply qab|apply qaa|apply qac)) hb);have n1_ := Aside0.mk (hbox);have n2_ := Aside0.mk ((by rw [hg];exact (qao (by repeat (with_reducible first|exact HB.out|apply qab|apply qaa|apply qac))) : w.heap.size ≤ gb109));have n3_ := Aside0.mk ((by rw [hg];exact (qao (by repeat (with_reducible first|exact HB.out|apply qab|apply qaa|apply qac))) : w.heap.size ≤ gb109));clear HB;have HB := n0_;have BK109 := n1_;have GW109 := n2_;have GE109 := n3_;clear n0_ n1_ n2_ n3_;clear hb hbox hg;have hcz9_0 : w8.cell? ⟨gb109,0,none⟩ = some (.int .i64 a0_0) := (qae BK109.out 0).trans rfl;have hcz9_1 : w8.cell? ⟨gb109,1,none⟩ = some (.string a0_1) := (qae BK109.out 1).trans rfl;have hcz9_2 : w8.cell? ⟨gb109,2,none⟩ = some (.string a0_2) := (qae BK109.out 2).trans rfl;have hfz9_0 := qad BK109.out 0;have hfz9_1 := qad BK109.out 1;have hfz9_2 := qad BK109.out 2))
     go_ret
     exact ⟨by first|rfl|(simp [qaj,qak]<;>rfl)|(simp [*,qaj,qak]<;>rfl),by repeat (first|(with_reducible first|exact HB.out|apply qab|apply qaa|apply qac|refine qaf ?_ GE109.out)|exact HB.out)⟩
    ·rw [if_neg c7] at H
     exact absurd H (by simp)
   ·rw [if_neg c6] at H
    exact absurd H (by simp)
 ·rw [if_neg c2] at H
  have c2b0 : (a0_0 == 0) = false := beq_eq_false_iff_ne.mpr c2
  have c2b1 : (a0_0 != 0) = true := bne_iff_ne.mpr c2
  replace H := Option.bind_eq_some_iff.mp H
  obtain ⟨t110,A100,H⟩ := H
  replace H : (if t110.size + 1 ≤ 9223372036854775807 then (if (t110 ++ (⟨#[58]⟩ : ByteArray)).size + a0_1.size ≤ 9223372036854775807 then (if a0_2.toList = ([] : List UInt8) then (some ((t110 ++ (⟨#[58]⟩ : ByteArray)) ++ a0_1)) else (if 1 + a0_2.size ≤ 9223372036854775807 then (if ((t110 ++ (⟨#[58]⟩ : ByteArray)) ++ a0_1).size + ((⟨#[45]⟩ : ByteArray) ++ a0_2).size ≤ 9223372036854775807 then (some (((t110 ++ (⟨#[58]⟩ : ByteArray)) ++ a0_1) ++ ((⟨#[45]⟩ : ByteArray) ++ a0_2))) else (none)) else (none))) else (none)) else (none)) = some r := H
  have A10 := Aside0.mk A100
  clear A100
  by_cases c11 : t110.size + 1 ≤ 9223372036854775807
  ·rw [if_pos c11] at H
   have c11b0 := eq_true c11
   have c11b1 : decide (t110.size + 1 ≤ 9223372036854775807) = true := decide_eq_true c11
   try have c11b2 : (9223372036854775807 < t110.size + 1) = False := eq_false (Nat.not_lt.2 c11)
   by_cases c12 : (t110 ++ (⟨#[58]⟩ : ByteArray)).size + a0_1.size ≤ 9223372036854775807
   ·rw [if_pos c12] at H
    have c12b0 := eq_true c12
    have c12b1 : decide ((t110 ++ (⟨#[58]⟩ : ByteArray)).size + a0_1.size ≤ 9223372036854775807) = true := decide_eq_true c12
    try have c12b2 : (9223372036854775807 < (t110 ++ (⟨#[58]⟩ : ByteArray)).size + a0_1.size) = False := eq_false (Nat.not_lt.2 c12)
    (try (have c12n := c12;simp only [ByteArray.size_append,size_of_lit,List.size_toArray,List.length_cons,List.length_nil,Nat.zero_add,Nat.reduceAdd] at c12n;have c12n1 := eq_false (Nat.not_lt.2 c12n)))
    by_cases c13 : a0_2.toList = ([] : List UInt8)
    ·rw [if_pos c13] at H
     have c13b0 : (a0_2.toList == ([] : List UInt8)) = true := beq_iff_eq.mpr c13
     have c13b1 : (a0_2.toList != ([] : List UInt8)) = false := bne_eq_false_iff_eq.mpr c13
     clear c13
     obtain rfl := Option.some.inj H
     go_enter Tryz.func178,Tryz.ntmps178
     go_wp2_with (first|((with_reducible refine gate_dst (N := 1) rfl ?_);refine box_event ?hg (N := 1) ?hd (cs := #[.int .i64 a0_0,.string a0_1,.string a0_2]) (t := 128) ?hr ?_;(case hd => rfl);(case hg => rfl);(case hr => first|(go_simp;done)|(go_simp;rfl));intro gb109 hg w14 hbox hb;have n0_ := Aside0.mk (qan (by repeat (with_reducible first|exact HB.out|apply qab|apply qaa|apply qac)) hb);have n1_ := Aside0.mk (hbox);have n2_ := Aside0.mk ((by rw [hg];exact (qao (by repeat (with_reducible first|exact HB.out|apply qab|apply qaa|apply qac))) : w.heap.size ≤ gb109));have n3_ := Aside0.mk ((by rw [hg];exact (qao (by repeat (with_reducible first|exact HB.out|apply qab|apply qaa|apply qac))) : w.heap.size ≤ gb109));clear HB;have HB := n0_;have BK109 := n1_;have GW109 := n2_;have GE109 := n3_;clear n0_ n1_ n2_ n3_;clear hb hbox hg;have hcz15_0 : w14.cell? ⟨gb109,0,none⟩ = some (.int .i64 a0_0) := (qae BK109.out 0).trans rfl;have hcz15_1 : w14.cell? ⟨gb109,1,none⟩ = some (.string a0_1) := (qae BK109.out 1).trans rfl;have hcz15_2 : w14.cell? ⟨gb109,2,none⟩ = some (.string a0_2) := (qae BK109.out 2).trans rfl;have hfz15_0 := qad BK109.out 0;have hfz15_1 := qad BK109.out 1;have hfz15_2 := qad BK109.out 2)|((with_reducible refine qal (f := 171) rfl ?_);refine goesL_ (some 11) rfl rfl Tryz.func171 (by kernel_rfl) rfl #[.int .i64 a0_0] rfl (by first|rfl|(simp only [List.map_toArray,List.map_cons,List.map_nil,List.length_drop,List.length_take];rfl)|simp only [List.map_toArray,List.map_cons,List.map_nil]) ?_;(with_reducible refine (strconv_Itoa.calls a0_0 t110 _ (by first|exact hG|exact GL.below hG (by repeat (first|(with_reducible first|exact HB.out|apply qab|apply qaa|apply qac|refine qaf ?_ GE109.out)|exact HB.out)))  A10.out).mono ?_);rintro e w16 ⟨rfl,hb⟩;refine ⟨_,rfl,?_⟩;have n0_ := Aside0.mk (qaq (g := gb109) (o := .cells #[.int .i64 a0_0,.string a0_1,.string a0_2] 128 (0,0)) (by (with_reducible repeat (first|refine qah ?_ _|refine qai ?_|refine qag ?_ _));exact BK109.out) hb);have n1_ := Aside0.mk (qan (by repeat (first|(with_reducible first|exact HB.out|apply qab|apply qaa|apply qac|refine qaf ?_ GE109.out)|exact HB.out)) hb);clear BK109;clear HB;have BK109 := n0_;have HB := n1_;clear n0_ n1_;(try clear hb);(try clear hb2);(try clear hk);(try clear hi);have hcz17_0 : w16.cell? ⟨gb109,0,none⟩ = some (.int .i64 a0_0) := (qae BK109.out 0).trans rfl;have hcz17_1 : w16.cell? ⟨gb109,1,none⟩ = some (.string a0_1) := (qae BK109.out 1).trans rfl;have hcz17_2 : w16.cell? ⟨gb109,2,none⟩ = some (.string a0_2) := (qae BK109.out 2).trans rfl;have hfz17_0 := qad BK109.out 0;have hfz17_1 := qad BK109.out 1;have hfz17_2 := qad BK109.out 2))
     go_ret
     exact ⟨by first|rfl|(simp [qaj,qak]<;>rfl)|(simp [*,qaj,qak]<;>rfl),by repeat (first|(with_reducible first|exact HB.out|apply qab|apply qaa|apply qac|refine qaf ?_ GE109.out)|exact HB.out)⟩
    ·rw [if_neg c13] at H
     have c13b0 : (a0_2.toList == ([] : List UInt8)) = false := beq_eq_false_iff_ne.mpr c13
     have c13b1 : (a0_2.toList != ([] : List UInt8)) = true := bne_iff_ne.mpr c13
     by_cases c18 : 1 + a0_2.size ≤ 9223372036854775807
     ·rw [if_pos c18] at H
      have c18b0 := eq_true c18
      have c18b1 : decide (1 + a0_2.size ≤ 9223372036854775807) = true := decide_eq_true c18
      try have c18b2 : (9223372036854775807 < 1 + a0_2.size) = False := eq_false (Nat.not_lt.2 c18)
      by_cases c19 : ((t110 ++ (⟨#[58]⟩ : ByteArray)) ++ a0_1).size + ((⟨#[45]⟩ : ByteArray) ++ a0_2).size ≤ 9223372036854775807
      ·rw [if_pos c19] at H
       have c19b0 := eq_true c19
       have c19b1 : decide (((t110 ++ (⟨#[58]⟩ : ByteArray)) ++ a0_1).size + ((⟨#[45]⟩ : ByteArray) ++ a0_2).size ≤ 9223372036854775807) = true := decide_eq_true c19
       try have c19b2 : (9223372036854775807 < ((t110 ++ (⟨#[58]⟩ : ByteArray)) ++ a0_1).size + ((⟨#[45]⟩ : ByteArray) ++ a0_2).size) = False := eq_false (Nat.not_lt.2 c19)
       (try (have c19n := c19;simp only [ByteArray.size_append,size_of_lit,List.size_toArray,List.length_cons,List.length_nil,Nat.zero_add,Nat.reduceAdd] at c19n;have c19n1 := eq_false (Nat.not_lt.2 c19n)))
       obtain rfl := Option.some.inj H
       go_enter Tryz.func178,Tryz.ntmps178
       go_wp2_with (first|((with_reducible refine gate_dst (N := 1) rfl ?_);refine box_event ?hg (N := 1) ?hd (cs := #[.int .i64 a0_0,.string a0_1,.string a0_2]) (t := 128) ?hr ?_;(case hd => rfl);(case hg => rfl);(case hr => first|(go_simp;done)|(go_simp;rfl));intro gb109 hg w20 hbox hb;have n0_ := Aside0.mk (qan (by repeat (with_reducible first|exact HB.out|apply qab|apply qaa|apply qac)) hb);have n1_ := Aside0.mk (hbox);have n2_ := Aside0.mk ((by rw [hg];exact (qao (by repeat (with_reducible first|exact HB.out|apply qab|apply qaa|apply qac))) : w.heap.size ≤ gb109));have n3_ := Aside0.mk ((by rw [hg];exact (qao (by repeat (with_reducible first|exact HB.out|apply qab|apply qaa|apply qac))) : w.heap.size ≤ gb109));clear HB;have HB := n0_;have BK109 := n1_;have GW109 := n2_;have GE109 := n3_;clear n0_ n1_ n2_ n3_;clear hb hbox hg;have hcz21_0 : w20.cell? ⟨gb109,0,none⟩ = some (.int .i64 a0_0) := (qae BK109.out 0).trans rfl;have hcz21_1 : w20.cell? ⟨gb109,1,none⟩ = some (.string a0_1) := (qae BK109.out 1).trans rfl;have hcz21_2 : w20.cell? ⟨gb109,2,none⟩ = some (.string a0_2) := (qae BK109.out 2).trans rfl;have hfz21_0 := qad BK109.out 0;have hfz21_1 := qad BK109.out 1;have hfz21_2 := qad BK109.out 2)|((with_reducible refine qal (f := 171) rfl ?_);refine goesL_ (some 11) rfl rfl Tryz.func171 (by kernel_rfl) rfl #[.int .i64 a0_0] rfl (by first|rfl|(simp only [List.map_toArray,List.map_cons,List.map_nil,List.length_drop,List.length_take];rfl)|simp only [List.map_toArray,List.map_cons,List.map_nil]) ?_;(with_reducible refine (strconv_Itoa.calls a0_0 t110 _ (by first|exact hG|exact GL.below hG (by repeat (first|(with_reducible first|exact HB.out|apply qab|apply qaa|apply qac|refine qaf ?_ GE109.out)|exact HB.out)))  A10.out).mono ?_);rintro e w22 ⟨rfl,hb⟩;refine ⟨_,rfl,?_⟩;have n0_ := Aside0.mk (qaq (g := gb109) (o := .cells #[.int .i64 a0_0,.string a0_1,.string a0_2] 128 (0,0)) (by (with_reducible repeat (first|refine qah ?_ _|refine qai ?_|refine qag ?_ _));exact BK109.out) hb);have n1_ := Aside0.mk (qan (by repeat (first|(with_reducible first|exact HB.out|apply qab|apply qaa|apply qac|refine qaf ?_ GE109.out)|exact HB.out)) hb);clear BK109;clear HB;have BK109 := n0_;have HB := n1_;clear n0_ n1_;(try clear hb);(try clear hb2);(try clear hk);(try clear hi);have hcz23_0 : w22.cell? ⟨gb109,0,none⟩ = some (.int .i64 a0_0) := (qae BK109.out 0).trans rfl;have hcz23_1 : w22.cell? ⟨gb109,1,none⟩ = some (.string a0_1) := (qae BK109.out 1).trans rfl;have hcz23_2 : w22.cell? ⟨gb109,2,none⟩ = some (.string a0_2) := (qae BK109.out 2).trans rfl;have hfz23_0 := qad BK109.out 0;have hfz23_1 := qad BK109.out 1;have hfz23_2 := qad BK109.out 2))
       go_ret
       exact ⟨by first|rfl|(simp [qaj,qak]<;>rfl)|(simp [*,qaj,qak]<;>rfl),by repeat (first|(with_reducible first|exact HB.out|apply qab|apply qaa|apply qac|refine qaf ?_ GE109.out)|exact HB.out)⟩
      ·rw [if_neg c19] at H
       exact absurd H (by simp)
     ·rw [if_neg c18] at H
      exact absurd H (by simp)
   ·rw [if_neg c12] at H
    exact absurd H (by simp)
  ·rw [if_neg c11] at H
   exact absurd H (by simp)
def version_digit.f (a0 : Int) : Option (Bool) := if a0 ≥ 48 then (some (decide (a0 ≤ 57))) else (some false)
theorem version_digit.calls (a0 : Int) (r : Bool) (w : World) (hG : GL w) (h : version_digit.f a0 = some r) :
  Calls Tryz.prog 237 #[.int .u8 a0] w fun e w' => e = .returned (.bool r) ∧ Drawn0 w w' := by
 have H : (if a0 ≥ 48 then (some (decide (a0 ≤ 57))) else (some false)) = some r := h
 clear h
 by_cases c2 : a0 ≥ 48
 ·rw [if_pos c2] at H
  have c2b0 : decide (48 ≤ a0) = true := decide_eq_true c2
  clear c2
  obtain rfl := Option.some.inj H
  go_enter Tryz.func237,Tryz.ntmps237
  go_wp2
  go_ret
  exact ⟨by first|rfl|(simp;done)|(simp [*];done)|(simp [qam];done),by repeat (first|exact Drawn0.refl _|apply Drawn0.step)⟩
 ·rw [if_neg c2] at H
  have c2b0 : decide (48 ≤ a0) = false := decide_eq_false c2
  clear c2
  obtain rfl := Option.some.inj H
  go_enter Tryz.func237,Tryz.ntmps237
  go_wp2
  go_ret
  exact ⟨by first|rfl|(simp;done)|(simp [*];done)|(simp [qam];done),by repeat (first|exact Drawn0.refl _|apply Drawn0.step)⟩
def version_only.l0 : Nat → ByteArray → ByteArray → Int → Int → Option (Bool)
 | 0,_,_,_,_ => none
 | k + 1,x0,x1,x7,x8 => if x8 < x7 then (if 0 ≤ x8 then (if x8 < (x0.size : Int) then ((strings_IndexByte.f x1 (bt x0 x8)).bind fun t111 => (if t111 < 0 then (some false) else (version_only.l0 k x0 x1 x7 (wrap64 (x8 + 1))))) else (none)) else (none)) else (some true)
def version_only.f (k : Nat) (a0 : ByteArray) (a1 : ByteArray) : Option (Bool) := version_only.l0 k a0 a1 (a0.size : Int) 0
theorem version_only.mono_l : ∀ k,(∀ y0 y1 y2 y3,LeO (version_only.l0 k y0 y1 y2 y3) (version_only.l0 (k + 1) y0 y1 y2 y3))
 | 0 => fun _ _ _ _ r h => by simp [version_only.l0] at h
 | k + 1 => by
  have ih0 := version_only.mono_l k
  ·intro y0 y1 y2 y3
   unfold version_only.l0
   repeat' first
   | (with_reducible exact ih0 _ _ _ _)
   | (with_reducible exact LeO.refl _)
   | (with_reducible exact LeO.none _)
   | (with_reducible refine LeO.ite ?_ ?_)
   | (with_reducible refine LeO.bind ?_ (fun _ => ?_))
   | exact ih0 _ _ _ _
   | exact LeO.none _
   | refine LeO.ite ?_ ?_
   | refine LeO.bind ?_ (fun _ => ?_)
theorem version_only.mono : ∀ a0 a1 k,LeO (version_only.f k a0 a1) (version_only.f (k + 1) a0 a1) := by
 intro a0 a1 k
 have ih0 := version_only.mono_l k
 unfold version_only.f
 repeat' first
   | (with_reducible exact ih0 _ _ _ _)
   | (with_reducible exact LeO.refl _)
   | (with_reducible exact LeO.none _)
   | (with_reducible refine LeO.ite ?_ ?_)
   | (with_reducible refine LeO.bind ?_ (fun _ => ?_))
   | exact ih0 _ _ _ _
   | exact LeO.none _
   | refine LeO.ite ?_ ?_
   | refine LeO.bind ?_ (fun _ => ?_)
theorem version_only.calls (k : Nat) (a0 : ByteArray) (a1 : ByteArray) (r : Bool) (w : World) (hG : GL w) (h : version_only.f k a0 a1 = some r) :
  Calls Tryz.prog 238 #[.string a0,.string a1] w fun e w' => e = .returned (.bool r) ∧ Drawn0 w w' := by
 have H : (version_only.l0 k a0 a1 (a0.size : Int) 0) = some r := h
 clear h
 have H' := Aside0.mk H
 clear H
 go_enter Tryz.func238,Tryz.ntmps238
 go_wp2
 go_loopg [8] k (fun kq v8 w' => ∃ (x8_1 : Int),v8 = .int .i64 x8_1 ∧ Aside0 (version_only.l0 kq a0 a1 (a0.size : Int) x8_1 = some r) ∧ Aside0 (kq ≤ k) ∧ Drawn0 w w')
 case atStart => exact ⟨(0),(by first|rfl|(simp;done)|(simp [*];done)|(simp [qam];done)),H',⟨Nat.le_refl _⟩,by repeat (first|exact Drawn0.refl _|apply Drawn0.step)⟩
 case round =>
  clear H'
  try clear c2
  try clear p2
  obtain ⟨x8_1,rfl,HA,HK1,⟨m1,rfl⟩⟩ := hrel
  cases gk with
  | zero => exact absurd HA.out (by simp [version_only.l0])
  | succ k1 =>
   have H := HA.out
   clear HA
   simp only [version_only.l0] at H
   by_cases c3 : x8_1 < (a0.size : Int)
   ·rw [if_pos c3] at H
    have c3b0 : decide (x8_1 < (a0.size : Int)) = true := decide_eq_true c3
    clear c3
    by_cases c4 : 0 ≤ x8_1
    ·rw [if_pos c4] at H
     have c4b0 : decide (0 ≤ x8_1) = true := decide_eq_true c4
     clear c4
     by_cases c5 : x8_1 < (a0.size : Int)
     ·rw [if_pos c5] at H
      have c5b0 : decide (x8_1 < (a0.size : Int)) = true := decide_eq_true c5
      clear c5
      replace H := Option.bind_eq_some_iff.mp H
      obtain ⟨t111,A70,H⟩ := H
      replace H : (if t111 < 0 then (some false) else (version_only.l0 k1 a0 a1 (a0.size : Int) (wrap64 (x8_1 + 1)))) = some r := H
      have A7 := Aside0.mk A70
      clear A70
      by_cases c8 : t111 < 0
      ·rw [if_pos c8] at H
       have c8b0 : decide (t111 < 0) = true := decide_eq_true c8
       clear c8
       obtain rfl := Option.some.inj H
       have p6 : 0 ≤ (x8_1 : Int) := of_decide_eq_true (by assumption)
       have q6 : x8_1 < (a0.size : Int) := of_decide_eq_true (by assumption)
       have hx6 := bt_at a0 x8_1
       replace p6 := eq_true p6
       replace q6 := eq_true q6
       go_wp2_with (first|((with_reducible refine qal (f := 117) rfl ?_);refine goesL_ (some 15) rfl rfl Tryz.func117 (by kernel_rfl) rfl #[.string a1,.int .u8 (bt a0 x8_1)] rfl (by first|rfl|(simp only [List.map_toArray,List.map_cons,List.map_nil,List.length_drop,List.length_take];rfl)|simp only [List.map_toArray,List.map_cons,List.map_nil]) ?_;(with_reducible refine (strings_IndexByte.calls a1 (bt a0 x8_1) t111 _ (by first|exact hG|(repeat (first|exact hG|apply GL.drewN|apply GL.drew)))  A7.out).mono ?_);rintro e w' ⟨rfl,⟨nd,rfl⟩⟩;refine ⟨_,rfl,?_⟩))
       go_ret
       exact ⟨by first|rfl|(simp;done)|(simp [*];done)|(simp [qam];done),by repeat (first|exact Drawn0.refl _|apply Drawn0.step)⟩
      ·rw [if_neg c8] at H
       have c8b0 : decide (t111 < 0) = false := decide_eq_false c8
       clear c8
       have H' := Aside0.mk H
       clear H
       have p6 : 0 ≤ (x8_1 : Int) := of_decide_eq_true (by assumption)
       have q6 : x8_1 < (a0.size : Int) := of_decide_eq_true (by assumption)
       have hx6 := bt_at a0 x8_1
       replace p6 := eq_true p6
       replace q6 := eq_true q6
       go_wp2_with (first|((with_reducible refine qal (f := 117) rfl ?_);refine goesL_ (some 15) rfl rfl Tryz.func117 (by kernel_rfl) rfl #[.string a1,.int .u8 (bt a0 x8_1)] rfl (by first|rfl|(simp only [List.map_toArray,List.map_cons,List.map_nil,List.length_drop,List.length_take];rfl)|simp only [List.map_toArray,List.map_cons,List.map_nil]) ?_;(with_reducible refine (strings_IndexByte.calls a1 (bt a0 x8_1) t111 _ (by first|exact hG|(repeat (first|exact hG|apply GL.drewN|apply GL.drew)))  A7.out).mono ?_);rintro e w' ⟨rfl,⟨nd,rfl⟩⟩;refine ⟨_,rfl,?_⟩))
       go_roundg k1
       case measure => have := HK1.out;omega
       case rel => exact ⟨(wrap64 (x8_1 + 1)),(by first|rfl|(simp;done)|(simp [*];done)|(simp [qam];done)),H',⟨by have := HK1.out;omega⟩,by repeat (first|exact Drawn0.refl _|apply Drawn0.step)⟩
     ·rw [if_neg c5] at H
      exact absurd H (by simp)
    ·rw [if_neg c4] at H
     exact absurd H (by simp)
   ·rw [if_neg c3] at H
    have c3b0 : decide (x8_1 < (a0.size : Int)) = false := decide_eq_false c3
    clear c3
    obtain rfl := Option.some.inj H
    go_wp2
    go_ret
    exact ⟨by first|rfl|(simp;done)|(simp [*];done)|(simp [qam];done),by repeat (first|exact Drawn0.refl _|apply Drawn0.step)⟩
mutual
def version_Right.j0 : Nat → Bool → Int → ByteArray → ByteArray → Option (Bool)
 | 0,_,_,_,_ => none
 | k + 1,x3,x113000,x113001,x113002 => if x3 = true then (some false) else ((strings_IndexByte.f x113001 45).bind fun t114 => (if t114 ≥ 0 then (version_Right.j1 k (x113002.toList == ([] : List UInt8)) x113000 x113001 x113002) else (version_Right.j1 k false x113000 x113001 x113002)))
def version_Right.j1 : Nat → Bool → Int → ByteArray → ByteArray → Option (Bool)
 | 0,_,_,_,_ => none
 | k + 1,x24,x113000,x113001,x113002 => if x24 = true then (some false) else ((strings_IndexByte.f x113001 58).bind fun t115 => (if t115 ≥ 0 then (version_Right.j2 k (x113000 == 0) x113000 x113001 x113002) else (version_Right.j2 k false x113000 x113001 x113002)))
def version_Right.j2 : Nat → Bool → Int → ByteArray → ByteArray → Option (Bool)
 | 0,_,_,_,_ => none
 | k + 1,x34,x113000,x113001,x113002 => if x34 = true then (some false) else ((version_only.f k x113001 (⟨#[48,49,50,51,52,53,54,55,56,57,97,98,99,100,101,102,103,104,105,106,107,108,109,110,111,112,113,114,115,116,117,118,119,120,121,122,65,66,67,68,69,70,71,72,73,74,75,76,77,78,79,80,81,82,83,84,85,86,87,88,89,90,46,43,126,45,58]⟩ : ByteArray)).bind fun t116 => (if t116 = true then ((version_only.f k x113002 (⟨#[48,49,50,51,52,53,54,55,56,57,97,98,99,100,101,102,103,104,105,106,107,108,109,110,111,112,113,114,115,116,117,118,119,120,121,122,65,66,67,68,69,70,71,72,73,74,75,76,77,78,79,80,81,82,83,84,85,86,87,88,89,90,46,43,126]⟩ : ByteArray)).bind fun t117 => (if t117 = true then ((version_text.f x113000 x113001 x113002).bind fun t118 => (some (decide ((t118.size : Int) ≤ 60)))) else (some false))) else (some false)))
end
def version_Right.f (k : Nat) (a0_0 : Int) (a0_1 : ByteArray) (a0_2 : ByteArray) : Option (Bool) := if a0_0 < 0 then (version_Right.j0 k true a0_0 a0_1 a0_2) else (if a0_0 > 999999999 then (version_Right.j0 k true a0_0 a0_1 a0_2) else (if a0_1.toList = ([] : List UInt8) then (version_Right.j0 k true a0_0 a0_1 a0_2) else (if 0 < (a0_1.size : Int) then ((version_digit.f (bt a0_1 0)).bind fun t113 => (version_Right.j0 k (!t113) a0_0 a0_1 a0_2)) else (none))))
theorem version_Right.mono_l : ∀ k,(∀ y0 y1 y2 y3,LeO (version_Right.j0 k y0 y1 y2 y3) (version_Right.j0 (k + 1) y0 y1 y2 y3)) ∧ (∀ y0 y1 y2 y3,LeO (version_Right.j1 k y0 y1 y2 y3) (version_Right.j1 (k + 1) y0 y1 y2 y3)) ∧ (∀ y0 y1 y2 y3,LeO (version_Right.j2 k y0 y1 y2 y3) (version_Right.j2 (k + 1) y0 y1 y2 y3))
 | 0 => ⟨fun _ _ _ _ r h => by simp [version_Right.j0] at h,fun _ _ _ _ r h => by simp [version_Right.j1] at h,fun _ _ _ _ r h => by simp [version_Right.j2] at h⟩
 | k + 1 => by
  obtain ⟨ih0,ih1,ih2⟩ := version_Right.mono_l k
  refine ⟨?_,?_,?_⟩
  ·intro y0 y1 y2 y3
   unfold version_Right.j0
   repeat' first
   | (with_reducible exact ih0 _ _ _ _)
   | (with_reducible exact ih1 _ _ _ _)
   | (with_reducible exact ih2 _ _ _ _)
   | (with_reducible exact version_only.mono _ _ _)
   | (with_reducible exact LeO.refl _)
   | (with_reducible exact LeO.none _)
   | (with_reducible refine LeO.ite ?_ ?_)
   | (with_reducible refine LeO.bind ?_ (fun _ => ?_))
   | exact ih0 _ _ _ _
   | exact ih1 _ _ _ _
   | exact ih2 _ _ _ _
   | exact version_only.mono _ _ _
   | exact LeO.none _
   | refine LeO.ite ?_ ?_
   | refine LeO.bind ?_ (fun _ => ?_)
  ·intro y0 y1 y2 y3
   unfold version_Right.j1
   repeat' first
   | (with_reducible exact ih0 _ _ _ _)
   | (with_reducible exact ih1 _ _ _ _)
   | (with_reducible exact ih2 _ _ _ _)
   | (with_reducible exact version_only.mono _ _ _)
   | (with_reducible exact LeO.refl _)
   | (with_reducible exact LeO.none _)
   | (with_reducible refine LeO.ite ?_ ?_)
   | (with_reducible refine LeO.bind ?_ (fun _ => ?_))
   | exact ih0 _ _ _ _
   | exact ih1 _ _ _ _
   | exact ih2 _ _ _ _
   | exact version_only.mono _ _ _
   | exact LeO.none _
   | refine LeO.ite ?_ ?_
   | refine LeO.bind ?_ (fun _ => ?_)
  ·intro y0 y1 y2 y3
   unfold version_Right.j2
   repeat' first
   | (with_reducible exact ih0 _ _ _ _)
   | (with_reducible exact ih1 _ _ _ _)
   | (with_reducible exact ih2 _ _ _ _)
   | (with_reducible exact version_only.mono _ _ _)
   | (with_reducible exact LeO.refl _)
   | (with_reducible exact LeO.none _)
   | (with_reducible refine LeO.ite ?_ ?_)
   | (with_reducible refine LeO.bind ?_ (fun _ => ?_))
   | exact ih0 _ _ _ _
   | exact ih1 _ _ _ _
   | exact ih2 _ _ _ _
   | exact version_only.mono _ _ _
   | exact LeO.none _
   | refine LeO.ite ?_ ?_
   | refine LeO.bind ?_ (fun _ => ?_)
theorem version_Right.mono : ∀ a0 a1 a2 k,LeO (version_Right.f k a0 a1 a2) (version_Right.f (k + 1) a0 a1 a2) := by
 intro a0 a1 a2 k
 obtain ⟨ih0,ih1,ih2⟩ := version_Right.mono_l k
 unfold version_Right.f
 repeat' first
   | (with_reducible exact ih0 _ _ _ _)
   | (with_reducible exact ih1 _ _ _ _)
   | (with_reducible exact ih2 _ _ _ _)
   | (with_reducible exact version_only.mono _ _ _)
   | (with_reducible exact LeO.refl _)
   | (with_reducible exact LeO.none _)
   | (with_reducible refine LeO.ite ?_ ?_)
   | (with_reducible refine LeO.bind ?_ (fun _ => ?_))
   | exact ih0 _ _ _ _
   | exact ih1 _ _ _ _
   | exact ih2 _ _ _ _
   | exact version_only.mono _ _ _
   | exact LeO.none _
   | refine LeO.ite ?_ ?_
   | refine LeO.bind ?_ (fun _ => ?_)
theorem version_Right.calls (k : Nat) (a0_0 : Int) (a0_1 : ByteArray) (a0_2 : ByteArray) (r : Bool) (w : World) (hG : GL w) (h : version_Right.f k a0_0 a0_1 a0_2 = some r) :
  Calls Tryz.prog 173 #[.agg #[.int .i64 a0_0,.string a0_1,.string a0_2]] w fun e w' => e = .returned (.bool r) ∧ Below w.heap.size w w' := by
 have hu128 := Tryz.underlying128
 have HB := Aside0.mk (Below.refl w.heap.size w)
 have H : (if a0_0 < 0 then (version_Right.j0 k true a0_0 a0_1 a0_2) else (if a0_0 > 999999999 then (version_Right.j0 k true a0_0 a0_1 a0_2) else (if a0_1.toList = ([] : List UInt8) then (version_Right.j0 k true a0_0 a0_1 a0_2) else (if 0 < (a0_1.size : Int) then ((version_digit.f (bt a0_1 0)).bind fun t113 => (version_Right.j0 k (!t113) a0_0 a0_1 a0_2)) else (none))))) = some r := h
 clear h
 have HC2 := Aside0.mk H
 clear H
 go_enter Tryz.func173,Tryz.ntmps173
 go_upto_region 1 with (first|((with_reducible refine gate_dst (N := 1) rfl ?_);(try (refine gate_guard (by rfl) ?_;dsimp only));refine box_event ?hg (N := 1) ?hd (cs := #[.int .i64 a0_0,.string a0_1,.string a0_2]) (t := 128) ?hr ?_;(case hd => rfl);(case hg => rfl);(case hr => first|(go_simp;done)|(go_simp;rfl));intro gb112 hg w3 hbox hb;have n0_ := Aside0.mk (qan (by repeat (with_reducible first|exact HB.out|apply qab|apply qaa|apply qac)) hb);have n1_ := Aside0.mk (hbox);have n2_ := Aside0.mk ((by rw [hg];exact (qao (by repeat (with_reducible first|exact HB.out|apply qab|apply qaa|apply qac))) : w.heap.size ≤ gb112));have n3_ := Aside0.mk ((by rw [hg];exact (qao (by repeat (with_reducible first|exact HB.out|apply qab|apply qaa|apply qac))) : w.heap.size ≤ gb112));clear HB;have HB := n0_;have BK112 := n1_;have GW112 := n2_;have GE112 := n3_;clear n0_ n1_ n2_ n3_;clear hb hbox hg))
 (try simp only [Act.put,List.setIfInBounds_toArray,List.set_cons_zero,List.set_cons_succ])
 go_cut [3] (fun v3 wc => ∃ (kq : Nat) (x3_1 : Bool),v3 = .bool x3_1 ∧ Aside0 (version_Right.j0 kq x3_1 a0_0 a0_1 a0_2 = some r) ∧ Aside0 (kq ≤ k) ∧ Aside0 (wc.heap[gb112]? = some (.cells #[.int .i64 a0_0,.string a0_1,.string a0_2] 128 (0,0))) ∧ Aside0 (Below w.heap.size w wc))
 case first =>
  have H := HC2.out
  clear HC2
  by_cases c4 : a0_0 < 0
  ·rw [if_pos c4] at H
   have c4b0 : decide (a0_0 < 0) = true := decide_eq_true c4
   clear c4
   (first|rw [c4b0]|(simp only [i64_w,i32_w];rw [c4b0]) | skip)
   have H' := Aside0.mk H
   clear H
   have hcz5_0 : w3.cell? ⟨gb112,0,none⟩ = some (.int .i64 a0_0) := (qae BK112.out 0).trans rfl
   have hcz5_1 : w3.cell? ⟨gb112,1,none⟩ = some (.string a0_1) := (qae BK112.out 1).trans rfl
   have hcz5_2 : w3.cell? ⟨gb112,2,none⟩ = some (.string a0_2) := (qae BK112.out 2).trans rfl
   have hfz5_0 := qad BK112.out 0
   have hfz5_1 := qad BK112.out 1
   have hfz5_2 := qad BK112.out 2
   go_wp2
   go_meet
   case rel => exact ⟨_,(true),(by first|rfl|(simp;done)|(simp [*];done)|(simp [qam];done)),H',⟨by first|omega|exact Nat.le_refl _⟩,⟨by (with_reducible repeat (first|refine qah ?_ _|refine qai ?_|refine qag ?_ _));exact BK112.out⟩,⟨by repeat (first|(with_reducible first|exact HB.out|apply qab|apply qaa|apply qac|refine qaf ?_ GE112.out)|exact HB.out)⟩⟩
  ·rw [if_neg c4] at H
   have c4b0 : decide (a0_0 < 0) = false := decide_eq_false c4
   clear c4
   (first|rw [c4b0]|(simp only [i64_w,i32_w];rw [c4b0]) | skip)
   by_cases c6 : a0_0 > 999999999
   ·rw [if_pos c6] at H
    have c6b0 : decide (999999999 < a0_0) = true := decide_eq_true c6
    clear c6
    have H' := Aside0.mk H
    clear H
    have hcz7_0 : w3.cell? ⟨gb112,0,none⟩ = some (.int .i64 a0_0) := (qae BK112.out 0).trans rfl
    have hcz7_1 : w3.cell? ⟨gb112,1,none⟩ = some (.string a0_1) := (qae BK112.out 1).trans rfl
    have hcz7_2 : w3.cell? ⟨gb112,2,none⟩ = some (.string a0_2) := (qae BK112.out 2).trans rfl
    have hfz7_0 := qad BK112.out 0
    have hfz7_1 := qad BK112.out 1
    have hfz7_2 := qad BK112.out 2
    go_wp2
    go_meet
    case rel => exact ⟨_,(true),(by first|rfl|(simp;done)|(simp [*];done)|(simp [qam];done)),H',⟨by first|omega|exact Nat.le_refl _⟩,⟨by (with_reducible repeat (first|refine qah ?_ _|refine qai ?_|refine qag ?_ _));exact BK112.out⟩,⟨by repeat (first|(with_reducible first|exact HB.out|apply qab|apply qaa|apply qac|refine qaf ?_ GE112.out)|exact HB.out)⟩⟩
   ·rw [if_neg c6] at H
    have c6b0 : decide (999999999 < a0_0) = false := decide_eq_false c6
    clear c6
    by_cases c8 : a0_1.toList = ([] : List UInt8)
    ·rw [if_pos c8] at H
     have c8b0 : (a0_1.toList == ([] : List UInt8)) = true := beq_iff_eq.mpr c8
     have c8b1 : (a0_1.toList != ([] : List UInt8)) = false := bne_eq_false_iff_eq.mpr c8
     clear c8
     have H' := Aside0.mk H
     clear H
     have hcz9_0 : w3.cell? ⟨gb112,0,none⟩ = some (.int .i64 a0_0) := (qae BK112.out 0).trans rfl
     have hcz9_1 : w3.cell? ⟨gb112,1,none⟩ = some (.string a0_1) := (qae BK112.out 1).trans rfl
     have hcz9_2 : w3.cell? ⟨gb112,2,none⟩ = some (.string a0_2) := (qae BK112.out 2).trans rfl
     have hfz9_0 := qad BK112.out 0
     have hfz9_1 := qad BK112.out 1
     have hfz9_2 := qad BK112.out 2
     go_wp2
     go_meet
     case rel => exact ⟨_,(true),(by first|rfl|(simp;done)|(simp [*];done)|(simp [qam];done)),H',⟨by first|omega|exact Nat.le_refl _⟩,⟨by (with_reducible repeat (first|refine qah ?_ _|refine qai ?_|refine qag ?_ _));exact BK112.out⟩,⟨by repeat (first|(with_reducible first|exact HB.out|apply qab|apply qaa|apply qac|refine qaf ?_ GE112.out)|exact HB.out)⟩⟩
    ·rw [if_neg c8] at H
     have c8b0 : (a0_1.toList == ([] : List UInt8)) = false := beq_eq_false_iff_ne.mpr c8
     have c8b1 : (a0_1.toList != ([] : List UInt8)) = true := bne_iff_ne.mpr c8
     by_cases c10 : 0 < (a0_1.size : Int)
     ·rw [if_pos c10] at H
      have c10b0 : decide (0 < (a0_1.size : Int)) = true := decide_eq_true c10
      have c10b1 : decide (0 < a0_1.size) = true := decide_eq_true (by omega)
      clear c10
      replace H := Option.bind_eq_some_iff.mp H
      obtain ⟨t113,A120,H⟩ := H
      replace H : (version_Right.j0 k (!t113) a0_0 a0_1 a0_2) = some r := H
      have A12 := Aside0.mk A120
      clear A120
      have H' := Aside0.mk H
      clear H
      have hcz13_0 : w3.cell? ⟨gb112,0,none⟩ = some (.int .i64 a0_0) := (qae BK112.out 0).trans rfl
      have hcz13_1 : w3.cell? ⟨gb112,1,none⟩ = some (.string a0_1) := (qae BK112.out 1).trans rfl
      have hcz13_2 : w3.cell? ⟨gb112,2,none⟩ = some (.string a0_2) := (qae BK112.out 2).trans rfl
      have hfz13_0 := qad BK112.out 0
      have hfz13_1 := qad BK112.out 1
      have hfz13_2 := qad BK112.out 2
      have p11 : 0 ≤ (0 : Int) := (by omega)
      have q11 : 0 < a0_1.size := (by have : (0 : Int) < (a0_1.size : Int) := of_decide_eq_true (by assumption);omega)
      have hx11 : ∀ h : 0 < a0_1.size,((a0_1[0]'h).toNat : Int) = bt a0_1 0 := bt_at a0_1 0
      clear p11
      have qi11 : (0 < (a0_1.size : Int)) = True := eq_true (of_decide_eq_true (by assumption))
      replace q11 := eq_true q11
      go_wp2_with (first|(go_at_call 237;(with_reducible refine (version_digit.calls (bt a0_1 0) t113 _ (by first|exact hG|exact GL.below hG (by repeat (first|(with_reducible first|exact HB.out|apply qab|apply qaa|apply qac|refine qaf ?_ GE112.out)|exact HB.out)))  A12.out).mono ?_);rintro e w' ⟨rfl,⟨nd,rfl⟩⟩))
      go_meet
      case rel => exact ⟨_,(!t113),(by first|rfl|(simp;done)|(simp [*];done)|(simp [qam];done)),H',⟨by first|omega|exact Nat.le_refl _⟩,⟨by (with_reducible repeat (first|refine qah ?_ _|refine qai ?_|refine qag ?_ _));exact BK112.out⟩,⟨by repeat (first|(with_reducible first|exact HB.out|apply qab|apply qaa|apply qac|refine qaf ?_ GE112.out)|exact HB.out)⟩⟩
     ·rw [if_neg c10] at H
      exact absurd H (by simp)
 case rest =>
  clear HC2
  try clear c1
  try clear p1
  try clear q1
  try clear hx1
  try clear qi1
  try clear p2
  try clear c4
  try clear c4b0
  try clear c6
  try clear c6b0
  try clear c8
  try clear c8b0
  try clear c8b1
  try clear c10
  try clear c10b0
  try clear c10b1
  try clear p11
  try clear q11
  try clear hx11
  try clear qi11
  try clear hcz13_0
  try clear hcz13_1
  try clear hcz13_2
  try clear hcz5_0
  try clear hcz5_1
  try clear hcz5_2
  try clear hcz7_0
  try clear hcz7_1
  try clear hcz7_2
  try clear hcz9_0
  try clear hcz9_1
  try clear hcz9_2
  try clear hfz13_0
  try clear hfz13_1
  try clear hfz13_2
  try clear hfz5_0
  try clear hfz5_1
  try clear hfz5_2
  try clear hfz7_0
  try clear hfz7_1
  try clear hfz7_2
  try clear hfz9_0
  try clear hfz9_1
  try clear hfz9_2
  try clear p11
  try clear q11
  obtain ⟨kq,x3_1,rfl,HA,HJ1,BK112,HB⟩ := hcut
  cases kq with
  | zero => exact absurd HA.out (by simp [version_Right.j0])
  | succ kj1 =>
   have H := HA.out
   clear HA
   simp only [version_Right.j0] at H
   by_cases c14 : x3_1 = true
   ·subst c14
    have H1 : (some false) = some r := by rw [if_pos rfl] at H;exact H
    clear H
    have H := H1
    clear H1
    obtain rfl := Option.some.inj H
    go_wp2
    go_ret
    exact ⟨by first|rfl|(simp [qaj,qak]<;>rfl)|(simp [*,qaj,qak]<;>rfl),by repeat (first|(with_reducible first|exact HB.out|apply qab|apply qaa|apply qac|refine qaf ?_ GE112.out)|exact HB.out)⟩
   ·replace c14 := Bool.eq_false_iff.mpr c14
    subst c14
    have H1 : ((strings_IndexByte.f a0_1 45).bind fun t114 => (if t114 ≥ 0 then (version_Right.j1 kj1 (a0_2.toList == ([] : List UInt8)) a0_0 a0_1 a0_2) else (version_Right.j1 kj1 false a0_0 a0_1 a0_2))) = some r := by rw [if_neg (show ¬ (false = true) by decide)] at H;exact H
    clear H
    have H := H1
    clear H1
    have HC15 := Aside0.mk H
    clear H
    go_upto_region 3 with (fail)
    go_cut [24] (fun v24 wc => ∃ (kq : Nat) (x24_14 : Bool),v24 = .bool x24_14 ∧ Aside0 (version_Right.j1 kq x24_14 a0_0 a0_1 a0_2 = some r) ∧ Aside0 (kq ≤ kj1) ∧ Aside0 (wc.heap[gb112]? = some (.cells #[.int .i64 a0_0,.string a0_1,.string a0_2] 128 (0,0))) ∧ Aside0 (Below w.heap.size w wc))
    case first =>
     have H := HC15.out
     clear HC15
     replace H := Option.bind_eq_some_iff.mp H
     obtain ⟨t114,A160,H⟩ := H
     replace H : (if t114 ≥ 0 then (version_Right.j1 kj1 (a0_2.toList == ([] : List UInt8)) a0_0 a0_1 a0_2) else (version_Right.j1 kj1 false a0_0 a0_1 a0_2)) = some r := H
     have A16 := Aside0.mk A160
     clear A160
     by_cases c17 : t114 ≥ 0
     ·rw [if_pos c17] at H
      have c17b0 : decide (0 ≤ t114) = true := decide_eq_true c17
      clear c17
      (first|rw [c17b0]|(simp only [i64_w,i32_w];rw [c17b0]) | skip)
      have H' := Aside0.mk H
      clear H
      have hcz18_0 : wc.cell? ⟨gb112,0,none⟩ = some (.int .i64 a0_0) := (qae BK112.out 0).trans rfl
      have hcz18_1 : wc.cell? ⟨gb112,1,none⟩ = some (.string a0_1) := (qae BK112.out 1).trans rfl
      have hcz18_2 : wc.cell? ⟨gb112,2,none⟩ = some (.string a0_2) := (qae BK112.out 2).trans rfl
      have hfz18_0 := qad BK112.out 0
      have hfz18_1 := qad BK112.out 1
      have hfz18_2 := qad BK112.out 2
      go_wp2_with (first|((with_reducible refine qal (f := 117) rfl ?_);refine goesL_ (some 27) rfl rfl Tryz.func117 (by kernel_rfl) rfl #[.string a0_1,.int .u8 45] rfl (by first|rfl|(simp only [List.map_toArray,List.map_cons,List.map_nil,List.length_drop,List.length_take];rfl)|simp only [List.map_toArray,List.map_cons,List.map_nil]) ?_;(with_reducible refine (strings_IndexByte.calls a0_1 45 t114 _ (by first|exact hG|exact GL.below hG (by repeat (first|(with_reducible first|exact HB.out|apply qab|apply qaa|apply qac|refine qaf ?_ GE112.out)|exact HB.out)))  A16.out).mono ?_);rintro e w' ⟨rfl,⟨nd,rfl⟩⟩;refine ⟨_,rfl,?_⟩))
      go_meet
      case rel => exact ⟨_,((a0_2.toList == ([] : List UInt8))),(by first|rfl|(simp;done)|(simp [*];done)|(simp [qam];done)),H',⟨by have := HJ1.out;first|omega|exact Nat.le_refl _⟩,⟨by (with_reducible repeat (first|refine qah ?_ _|refine qai ?_|refine qag ?_ _));exact BK112.out⟩,⟨by repeat (first|(with_reducible first|exact HB.out|apply qab|apply qaa|apply qac|refine qaf ?_ GE112.out)|exact HB.out)⟩⟩
     ·rw [if_neg c17] at H
      have c17b0 : decide (0 ≤ t114) = false := decide_eq_false c17
      clear c17
      (first|rw [c17b0]|(simp only [i64_w,i32_w];rw [c17b0]) | skip)
      have H' := Aside0.mk H
      clear H
      have hcz19_0 : wc.cell? ⟨gb112,0,none⟩ = some (.int .i64 a0_0) := (qae BK112.out 0).trans rfl
      have hcz19_1 : wc.cell? ⟨gb112,1,none⟩ = some (.string a0_1) := (qae BK112.out 1).trans rfl
      have hcz19_2 : wc.cell? ⟨gb112,2,none⟩ = some (.string a0_2) := (qae BK112.out 2).trans rfl
      have hfz19_0 := qad BK112.out 0
      have hfz19_1 := qad BK112.out 1
      have hfz19_2 := qad BK112.out 2
      go_wp2_with (first|((with_reducible refine qal (f := 117) rfl ?_);refine goesL_ (some 27) rfl rfl Tryz.func117 (by kernel_rfl) rfl #[.string a0_1,.int .u8 45] rfl (by first|rfl|(simp only [List.map_toArray,List.map_cons,List.map_nil,List.length_drop,List.length_take];rfl)|simp only [List.map_toArray,List.map_cons,List.map_nil]) ?_;(with_reducible refine (strings_IndexByte.calls a0_1 45 t114 _ (by first|exact hG|exact GL.below hG (by repeat (first|(with_reducible first|exact HB.out|apply qab|apply qaa|apply qac|refine qaf ?_ GE112.out)|exact HB.out)))  A16.out).mono ?_);rintro e w' ⟨rfl,⟨nd,rfl⟩⟩;refine ⟨_,rfl,?_⟩))
      go_meet
      case rel => exact ⟨_,(false),(by first|rfl|(simp;done)|(simp [*];done)|(simp [qam];done)),H',⟨by have := HJ1.out;first|omega|exact Nat.le_refl _⟩,⟨by (with_reducible repeat (first|refine qah ?_ _|refine qai ?_|refine qag ?_ _));exact BK112.out⟩,⟨by repeat (first|(with_reducible first|exact HB.out|apply qab|apply qaa|apply qac|refine qaf ?_ GE112.out)|exact HB.out)⟩⟩
    case rest =>
     clear HC15
     try clear c1
     try clear p1
     try clear q1
     try clear hx1
     try clear qi1
     try clear p2
     try clear c4
     try clear c4b0
     try clear c6
     try clear c6b0
     try clear c8
     try clear c8b0
     try clear c8b1
     try clear c10
     try clear c10b0
     try clear c10b1
     try clear c11
     try clear p11
     try clear q11
     try clear hx11
     try clear qi11
     try clear c14
     try clear c17
     try clear c17b0
     try clear hcz13_0
     try clear hcz13_1
     try clear hcz13_2
     try clear hcz18_0
     try clear hcz18_1
     try clear hcz18_2
     try clear hcz19_0
     try clear hcz19_1
     try clear hcz19_2
     try clear hcz5_0
     try clear hcz5_1
     try clear hcz5_2
     try clear hcz7_0
     try clear hcz7_1
     try clear hcz7_2
     try clear hcz9_0
     try clear hcz9_1
     try clear hcz9_2
     try clear hfz13_0
     try clear hfz13_1
     try clear hfz13_2
     try clear hfz18_0
     try clear hfz18_1
     try clear hfz18_2
     try clear hfz19_0
     try clear hfz19_1
     try clear hfz19_2
     try clear hfz5_0
     try clear hfz5_1
     try clear hfz5_2
     try clear hfz7_0
     try clear hfz7_1
     try clear hfz7_2
     try clear hfz9_0
     try clear hfz9_1
     try clear hfz9_2
     try clear p1
     try clear p11
     try clear p2
     try clear q1
     try clear q11
     obtain ⟨kq,x24_14,rfl,HA,HJ14,BK112,HB⟩ := hcut
     cases kq with
     | zero => exact absurd HA.out (by simp [version_Right.j1])
     | succ kj14 =>
      have H := HA.out
      clear HA
      simp only [version_Right.j1] at H
      by_cases c20 : x24_14 = true
      ·subst c20
       have H1 : (some false) = some r := by rw [if_pos rfl] at H;exact H
       clear H
       have H := H1
       clear H1
       obtain rfl := Option.some.inj H
       go_wp2
       go_ret
       exact ⟨by first|rfl|(simp [qaj,qak]<;>rfl)|(simp [*,qaj,qak]<;>rfl),by repeat (first|(with_reducible first|exact HB.out|apply qab|apply qaa|apply qac|refine qaf ?_ GE112.out)|exact HB.out)⟩
      ·replace c20 := Bool.eq_false_iff.mpr c20
       subst c20
       have H1 : ((strings_IndexByte.f a0_1 58).bind fun t115 => (if t115 ≥ 0 then (version_Right.j2 kj14 (a0_0 == 0) a0_0 a0_1 a0_2) else (version_Right.j2 kj14 false a0_0 a0_1 a0_2))) = some r := by rw [if_neg (show ¬ (false = true) by decide)] at H;exact H
       clear H
       have H := H1
       clear H1
       have HC21 := Aside0.mk H
       clear H
       go_upto_region 5 with (fail)
       go_cut [34] (fun v34 wc => ∃ (kq : Nat) (x34_20 : Bool),v34 = .bool x34_20 ∧ Aside0 (version_Right.j2 kq x34_20 a0_0 a0_1 a0_2 = some r) ∧ Aside0 (kq ≤ kj14) ∧ Aside0 (wc.heap[gb112]? = some (.cells #[.int .i64 a0_0,.string a0_1,.string a0_2] 128 (0,0))) ∧ Aside0 (Below w.heap.size w wc))
       case first =>
        have H := HC21.out
        clear HC21
        replace H := Option.bind_eq_some_iff.mp H
        obtain ⟨t115,A220,H⟩ := H
        replace H : (if t115 ≥ 0 then (version_Right.j2 kj14 (a0_0 == 0) a0_0 a0_1 a0_2) else (version_Right.j2 kj14 false a0_0 a0_1 a0_2)) = some r := H
        have A22 := Aside0.mk A220
        clear A220
        by_cases c23 : t115 ≥ 0
        ·rw [if_pos c23] at H
         have c23b0 : decide (0 ≤ t115) = true := decide_eq_true c23
         clear c23
         (first|rw [c23b0]|(simp only [i64_w,i32_w];rw [c23b0]) | skip)
         have H' := Aside0.mk H
         clear H
         have hcz24_0 : wc.cell? ⟨gb112,0,none⟩ = some (.int .i64 a0_0) := (qae BK112.out 0).trans rfl
         have hcz24_1 : wc.cell? ⟨gb112,1,none⟩ = some (.string a0_1) := (qae BK112.out 1).trans rfl
         have hcz24_2 : wc.cell? ⟨gb112,2,none⟩ = some (.string a0_2) := (qae BK112.out 2).trans rfl
         have hfz24_0 := qad BK112.out 0
         have hfz24_1 := qad BK112.out 1
         have hfz24_2 := qad BK112.out 2
         go_wp2_with (first|((with_reducible refine qal (f := 117) rfl ?_);refine goesL_ (some 37) rfl rfl Tryz.func117 (by kernel_rfl) rfl #[.string a0_1,.int .u8 58] rfl (by first|rfl|(simp only [List.map_toArray,List.map_cons,List.map_nil,List.length_drop,List.length_take];rfl)|simp only [List.map_toArray,List.map_cons,List.map_nil]) ?_;(with_reducible refine (strings_IndexByte.calls a0_1 58 t115 _ (by first|exact hG|exact GL.below hG (by repeat (first|(with_reducible first|exact HB.out|apply qab|apply qaa|apply qac|refine qaf ?_ GE112.out)|exact HB.out)))  A22.out).mono ?_);rintro e w' ⟨rfl,⟨nd,rfl⟩⟩;refine ⟨_,rfl,?_⟩))
         go_meet
         case rel => exact ⟨_,((a0_0 == 0)),(by first|rfl|(simp;done)|(simp [*];done)|(simp [qam];done)),H',⟨by have := HJ1.out;have := HJ14.out;first|omega|exact Nat.le_refl _⟩,⟨by (with_reducible repeat (first|refine qah ?_ _|refine qai ?_|refine qag ?_ _));exact BK112.out⟩,⟨by repeat (first|(with_reducible first|exact HB.out|apply qab|apply qaa|apply qac|refine qaf ?_ GE112.out)|exact HB.out)⟩⟩
        ·rw [if_neg c23] at H
         have c23b0 : decide (0 ≤ t115) = false := decide_eq_false c23
         clear c23
         (first|rw [c23b0]|(simp only [i64_w,i32_w];rw [c23b0]) | skip)
         have H' := Aside0.mk H
         clear H
         have hcz25_0 : wc.cell? ⟨gb112,0,none⟩ = some (.int .i64 a0_0) := (qae BK112.out 0).trans rfl
         have hcz25_1 : wc.cell? ⟨gb112,1,none⟩ = some (.string a0_1) := (qae BK112.out 1).trans rfl
         have hcz25_2 : wc.cell? ⟨gb112,2,none⟩ = some (.string a0_2) := (qae BK112.out 2).trans rfl
         have hfz25_0 := qad BK112.out 0
         have hfz25_1 := qad BK112.out 1
         have hfz25_2 := qad BK112.out 2
         go_wp2_with (first|((with_reducible refine qal (f := 117) rfl ?_);refine goesL_ (some 37) rfl rfl Tryz.func117 (by kernel_rfl) rfl #[.string a0_1,.int .u8 58] rfl (by first|rfl|(simp only [List.map_toArray,List.map_cons,List.map_nil,List.length_drop,List.length_take];rfl)|simp only [List.map_toArray,List.map_cons,List.map_nil]) ?_;(with_reducible refine (strings_IndexByte.calls a0_1 58 t115 _ (by first|exact hG|exact GL.below hG (by repeat (first|(with_reducible first|exact HB.out|apply qab|apply qaa|apply qac|refine qaf ?_ GE112.out)|exact HB.out)))  A22.out).mono ?_);rintro e w' ⟨rfl,⟨nd,rfl⟩⟩;refine ⟨_,rfl,?_⟩))
         go_meet
         case rel => exact ⟨_,(false),(by first|rfl|(simp;done)|(simp [*];done)|(simp [qam];done)),H',⟨by have := HJ1.out;have := HJ14.out;first|omega|exact Nat.le_refl _⟩,⟨by (with_reducible repeat (first|refine qah ?_ _|refine qai ?_|refine qag ?_ _));exact BK112.out⟩,⟨by repeat (first|(with_reducible first|exact HB.out|apply qab|apply qaa|apply qac|refine qaf ?_ GE112.out)|exact HB.out)⟩⟩
       case rest =>
        clear HC21
        try clear c1
        try clear p1
        try clear q1
        try clear hx1
        try clear qi1
        try clear c2
        try clear p2
        try clear c4
        try clear c4b0
        try clear c6
        try clear c6b0
        try clear c8
        try clear c8b0
        try clear c8b1
        try clear c10
        try clear c10b0
        try clear c10b1
        try clear c11
        try clear p11
        try clear q11
        try clear hx11
        try clear qi11
        try clear c14
        try clear c17
        try clear c17b0
        try clear c20
        try clear c23
        try clear c23b0
        try clear hcz13_0
        try clear hcz13_1
        try clear hcz13_2
        try clear hcz18_0
        try clear hcz18_1
        try clear hcz18_2
        try clear hcz19_0
        try clear hcz19_1
        try clear hcz19_2
        try clear hcz24_0
        try clear hcz24_1
        try clear hcz24_2
        try clear hcz25_0
        try clear hcz25_1
        try clear hcz25_2
        try clear hcz5_0
        try clear hcz5_1
        try clear hcz5_2
        try clear hcz7_0
        try clear hcz7_1
        try clear hcz7_2
        try clear hcz9_0
        try clear hcz9_1
        try clear hcz9_2
        try clear hfz13_0
        try clear hfz13_1
        try clear hfz13_2
        try clear hfz18_0
        try clear hfz18_1
        try clear hfz18_2
        try clear hfz19_0
        try clear hfz19_1
        try clear hfz19_2
        try clear hfz24_0
        try clear hfz24_1
        try clear hfz24_2
        try clear hfz25_0
        try clear hfz25_1
        try clear hfz25_2
        try clear hfz5_0
        try clear hfz5_1
        try clear hfz5_2
        try clear hfz7_0
        try clear hfz7_1
        try clear hfz7_2
        try clear hfz9_0
        try clear hfz9_1
        try clear hfz9_2
        try clear p1
        try clear p11
        try clear p2
        try clear q1
        try clear q11
        obtain ⟨kq,x34_20,rfl,HA,HJ20,BK112,HB⟩ := hcut
        cases kq with
        | zero => exact absurd HA.out (by simp [version_Right.j2])
        | succ kj20 =>
         have H := HA.out
         clear HA
         simp only [version_Right.j2] at H
         by_cases c26 : x34_20 = true
         ·subst c26
          have H1 : (some false) = some r := by rw [if_pos rfl] at H;exact H
          clear H
          have H := H1
          clear H1
          obtain rfl := Option.some.inj H
          go_wp2
          go_ret
          exact ⟨by first|rfl|(simp [qaj,qak]<;>rfl)|(simp [*,qaj,qak]<;>rfl),by repeat (first|(with_reducible first|exact HB.out|apply qab|apply qaa|apply qac|refine qaf ?_ GE112.out)|exact HB.out)⟩
         ·replace c26 := Bool.eq_false_iff.mpr c26
          subst c26
          have H1 : ((version_only.f kj20 a0_1 (⟨#[48,49,50,51,52,53,54,55,56,57,97,98,99,100,101,102,103,104,105,106,107,108,109,110,111,112,113,114,115,116,117,118,119,120,121,122,65,66,67,68,69,70,71,72,73,74,75,76,77,78,79,80,81,82,83,84,85,86,87,88,89,90,46,43,126,45,58]⟩ : ByteArray)).bind fun t116 => (if t116 = true then ((version_only.f kj20 a0_2 (⟨#[48,49,50,51,52,53,54,55,56,57,97,98,99,100,101,102,103,104,105,106,107,108,109,110,111,112,113,114,115,116,117,118,119,120,121,122,65,66,67,68,69,70,71,72,73,74,75,76,77,78,79,80,81,82,83,84,85,86,87,88,89,90,46,43,126]⟩ : ByteArray)).bind fun t117 => (if t117 = true then ((version_text.f a0_0 a0_1 a0_2).bind fun t118 => (some (decide ((t118.size : Int) ≤ 60)))) else (some false))) else (some false))) = some r := by rw [if_neg (show ¬ (false = true) by decide)] at H;exact H
          clear H
          have H := H1
          clear H1
          replace H := Option.bind_eq_some_iff.mp H
          obtain ⟨t116,A270,H⟩ := H
          replace H : (if t116 = true then ((version_only.f kj20 a0_2 (⟨#[48,49,50,51,52,53,54,55,56,57,97,98,99,100,101,102,103,104,105,106,107,108,109,110,111,112,113,114,115,116,117,118,119,120,121,122,65,66,67,68,69,70,71,72,73,74,75,76,77,78,79,80,81,82,83,84,85,86,87,88,89,90,46,43,126]⟩ : ByteArray)).bind fun t117 => (if t117 = true then ((version_text.f a0_0 a0_1 a0_2).bind fun t118 => (some (decide ((t118.size : Int) ≤ 60)))) else (some false))) else (some false)) = some r := H
          have A27 := Aside0.mk A270
          clear A270
          by_cases c28 : t116 = true
          ·subst c28
           have H1 : ((version_only.f kj20 a0_2 (⟨#[48,49,50,51,52,53,54,55,56,57,97,98,99,100,101,102,103,104,105,106,107,108,109,110,111,112,113,114,115,116,117,118,119,120,121,122,65,66,67,68,69,70,71,72,73,74,75,76,77,78,79,80,81,82,83,84,85,86,87,88,89,90,46,43,126]⟩ : ByteArray)).bind fun t117 => (if t117 = true then ((version_text.f a0_0 a0_1 a0_2).bind fun t118 => (some (decide ((t118.size : Int) ≤ 60)))) else (some false))) = some r := by rw [if_pos rfl] at H;exact H
           clear H
           have H := H1
           clear H1
           replace H := Option.bind_eq_some_iff.mp H
           obtain ⟨t117,A290,H⟩ := H
           replace H : (if t117 = true then ((version_text.f a0_0 a0_1 a0_2).bind fun t118 => (some (decide ((t118.size : Int) ≤ 60)))) else (some false)) = some r := H
           have A29 := Aside0.mk A290
           clear A290
           by_cases c30 : t117 = true
           ·subst c30
            have H1 : ((version_text.f a0_0 a0_1 a0_2).bind fun t118 => (some (decide ((t118.size : Int) ≤ 60)))) = some r := by rw [if_pos rfl] at H;exact H
            clear H
            have H := H1
            clear H1
            replace H := Option.bind_eq_some_iff.mp H
            obtain ⟨t118,A310,H⟩ := H
            replace H : (some (decide ((t118.size : Int) ≤ 60))) = some r := H
            have A31 := Aside0.mk A310
            clear A310
            obtain rfl := Option.some.inj H
            have hcz32_0 : wc.cell? ⟨gb112,0,none⟩ = some (.int .i64 a0_0) := (qae BK112.out 0).trans rfl
            have hcz32_1 : wc.cell? ⟨gb112,1,none⟩ = some (.string a0_1) := (qae BK112.out 1).trans rfl
            have hcz32_2 : wc.cell? ⟨gb112,2,none⟩ = some (.string a0_2) := (qae BK112.out 2).trans rfl
            have hfz32_0 := qad BK112.out 0
            have hfz32_1 := qad BK112.out 1
            have hfz32_2 := qad BK112.out 2
            go_wp2_with (first|((with_reducible refine qal (f := 238) rfl ?_);refine goesL_ (some 46) rfl rfl Tryz.func238 (by kernel_rfl) rfl #[.string a0_1,.string (⟨#[48,49,50,51,52,53,54,55,56,57,97,98,99,100,101,102,103,104,105,106,107,108,109,110,111,112,113,114,115,116,117,118,119,120,121,122,65,66,67,68,69,70,71,72,73,74,75,76,77,78,79,80,81,82,83,84,85,86,87,88,89,90,46,43,126,45,58]⟩ : ByteArray)] rfl (by first|rfl|(simp only [List.map_toArray,List.map_cons,List.map_nil,List.length_drop,List.length_take];rfl)|simp only [List.map_toArray,List.map_cons,List.map_nil]) ?_;(with_reducible refine (version_only.calls kj20 a0_1 (⟨#[48,49,50,51,52,53,54,55,56,57,97,98,99,100,101,102,103,104,105,106,107,108,109,110,111,112,113,114,115,116,117,118,119,120,121,122,65,66,67,68,69,70,71,72,73,74,75,76,77,78,79,80,81,82,83,84,85,86,87,88,89,90,46,43,126,45,58]⟩ : ByteArray) true _ (by first|exact hG|exact GL.below hG (by repeat (first|(with_reducible first|exact HB.out|apply qab|apply qaa|apply qac|refine qaf ?_ GE112.out)|exact HB.out)))  A27.out).mono ?_);rintro e w' ⟨rfl,⟨nd,rfl⟩⟩;refine ⟨_,rfl,?_⟩)|(go_at_call 238;(with_reducible refine (version_only.calls kj20 a0_2 (⟨#[48,49,50,51,52,53,54,55,56,57,97,98,99,100,101,102,103,104,105,106,107,108,109,110,111,112,113,114,115,116,117,118,119,120,121,122,65,66,67,68,69,70,71,72,73,74,75,76,77,78,79,80,81,82,83,84,85,86,87,88,89,90,46,43,126]⟩ : ByteArray) true _ (by first|exact hG|exact GL.below hG (by repeat (first|(with_reducible first|exact HB.out|apply qab|apply qaa|apply qac|refine qaf ?_ GE112.out)|exact HB.out)))  A29.out).mono ?_);rintro e w' ⟨rfl,⟨nd,rfl⟩⟩)|(go_at_call 178;(with_reducible refine (version_text.calls a0_0 a0_1 a0_2 t118 _ (by first|exact hG|exact GL.below hG (by repeat (first|(with_reducible first|exact HB.out|apply qab|apply qaa|apply qac|refine qaf ?_ GE112.out)|exact HB.out)))  A31.out).mono ?_);rintro e w33 ⟨rfl,hb⟩;have n0_ := Aside0.mk (qaq (g := gb112) (o := .cells #[.int .i64 a0_0,.string a0_1,.string a0_2] 128 (0,0)) (by (with_reducible repeat (first|refine qah ?_ _|refine qai ?_|refine qag ?_ _));exact BK112.out) hb);have n1_ := Aside0.mk (qan (by repeat (first|(with_reducible first|exact HB.out|apply qab|apply qaa|apply qac|refine qaf ?_ GE112.out)|exact HB.out)) hb);clear BK112;clear HB;have BK112 := n0_;have HB := n1_;clear n0_ n1_;(try clear hb);(try clear hb2);(try clear hk);(try clear hi)))
            go_ret
            exact ⟨by first|rfl|(simp [qaj,qak]<;>rfl)|(simp [*,qaj,qak]<;>rfl),by repeat (first|(with_reducible first|exact HB.out|apply qab|apply qaa|apply qac|refine qaf ?_ GE112.out)|exact HB.out)⟩
           ·replace c30 := Bool.eq_false_iff.mpr c30
            subst c30
            have H1 : (some false) = some r := by rw [if_neg (show ¬ (false = true) by decide)] at H;exact H
            clear H
            have H := H1
            clear H1
            obtain rfl := Option.some.inj H
            have hcz34_0 : wc.cell? ⟨gb112,0,none⟩ = some (.int .i64 a0_0) := (qae BK112.out 0).trans rfl
            have hcz34_1 : wc.cell? ⟨gb112,1,none⟩ = some (.string a0_1) := (qae BK112.out 1).trans rfl
            have hcz34_2 : wc.cell? ⟨gb112,2,none⟩ = some (.string a0_2) := (qae BK112.out 2).trans rfl
            have hfz34_0 := qad BK112.out 0
            have hfz34_1 := qad BK112.out 1
            have hfz34_2 := qad BK112.out 2
            go_wp2_with (first|((with_reducible refine qal (f := 238) rfl ?_);refine goesL_ (some 46) rfl rfl Tryz.func238 (by kernel_rfl) rfl #[.string a0_1,.string (⟨#[48,49,50,51,52,53,54,55,56,57,97,98,99,100,101,102,103,104,105,106,107,108,109,110,111,112,113,114,115,116,117,118,119,120,121,122,65,66,67,68,69,70,71,72,73,74,75,76,77,78,79,80,81,82,83,84,85,86,87,88,89,90,46,43,126,45,58]⟩ : ByteArray)] rfl (by first|rfl|(simp only [List.map_toArray,List.map_cons,List.map_nil,List.length_drop,List.length_take];rfl)|simp only [List.map_toArray,List.map_cons,List.map_nil]) ?_;(with_reducible refine (version_only.calls kj20 a0_1 (⟨#[48,49,50,51,52,53,54,55,56,57,97,98,99,100,101,102,103,104,105,106,107,108,109,110,111,112,113,114,115,116,117,118,119,120,121,122,65,66,67,68,69,70,71,72,73,74,75,76,77,78,79,80,81,82,83,84,85,86,87,88,89,90,46,43,126,45,58]⟩ : ByteArray) true _ (by first|exact hG|exact GL.below hG (by repeat (first|(with_reducible first|exact HB.out|apply qab|apply qaa|apply qac|refine qaf ?_ GE112.out)|exact HB.out)))  A27.out).mono ?_);rintro e w' ⟨rfl,⟨nd,rfl⟩⟩;refine ⟨_,rfl,?_⟩)|(go_at_call 238;(with_reducible refine (version_only.calls kj20 a0_2 (⟨#[48,49,50,51,52,53,54,55,56,57,97,98,99,100,101,102,103,104,105,106,107,108,109,110,111,112,113,114,115,116,117,118,119,120,121,122,65,66,67,68,69,70,71,72,73,74,75,76,77,78,79,80,81,82,83,84,85,86,87,88,89,90,46,43,126]⟩ : ByteArray) false _ (by first|exact hG|exact GL.below hG (by repeat (first|(with_reducible first|exact HB.out|apply qab|apply qaa|apply qac|refine qaf ?_ GE112.out)|exact HB.out)))  A29.out).mono ?_);rintro e w' ⟨rfl,⟨nd,rfl⟩⟩))
            go_ret
            exact ⟨by first|rfl|(simp [qaj,qak]<;>rfl)|(simp [*,qaj,qak]<;>rfl),by repeat (first|(with_reducible first|exact HB.out|apply qab|apply qaa|apply qac|refine qaf ?_ GE112.out)|exact HB.out)⟩
          ·replace c28 := Bool.eq_false_iff.mpr c28
           subst c28
           have H1 : (some false) = some r := by rw [if_neg (show ¬ (false = true) by decide)] at H;exact H
           clear H
           have H := H1
           clear H1
           obtain rfl := Option.some.inj H
           have hcz35_0 : wc.cell? ⟨gb112,0,none⟩ = some (.int .i64 a0_0) := (qae BK112.out 0).trans rfl
           have hcz35_1 : wc.cell? ⟨gb112,1,none⟩ = some (.string a0_1) := (qae BK112.out 1).trans rfl
           have hcz35_2 : wc.cell? ⟨gb112,2,none⟩ = some (.string a0_2) := (qae BK112.out 2).trans rfl
           have hfz35_0 := qad BK112.out 0
           have hfz35_1 := qad BK112.out 1
           have hfz35_2 := qad BK112.out 2
           go_wp2_with (first|((with_reducible refine qal (f := 238) rfl ?_);refine goesL_ (some 46) rfl rfl Tryz.func238 (by kernel_rfl) rfl #[.string a0_1,.string (⟨#[48,49,50,51,52,53,54,55,56,57,97,98,99,100,101,102,103,104,105,106,107,108,109,110,111,112,113,114,115,116,117,118,119,120,121,122,65,66,67,68,69,70,71,72,73,74,75,76,77,78,79,80,81,82,83,84,85,86,87,88,89,90,46,43,126,45,58]⟩ : ByteArray)] rfl (by first|rfl|(simp only [List.map_toArray,List.map_cons,List.map_nil,List.length_drop,List.length_take];rfl)|simp only [List.map_toArray,List.map_cons,List.map_nil]) ?_;(with_reducible refine (version_only.calls kj20 a0_1 (⟨#[48,49,50,51,52,53,54,55,56,57,97,98,99,100,101,102,103,104,105,106,107,108,109,110,111,112,113,114,115,116,117,118,119,120,121,122,65,66,67,68,69,70,71,72,73,74,75,76,77,78,79,80,81,82,83,84,85,86,87,88,89,90,46,43,126,45,58]⟩ : ByteArray) false _ (by first|exact hG|exact GL.below hG (by repeat (first|(with_reducible first|exact HB.out|apply qab|apply qaa|apply qac|refine qaf ?_ GE112.out)|exact HB.out)))  A27.out).mono ?_);rintro e w' ⟨rfl,⟨nd,rfl⟩⟩;refine ⟨_,rfl,?_⟩))
           go_ret
           exact ⟨by first|rfl|(simp [qaj,qak]<;>rfl)|(simp [*,qaj,qak]<;>rfl),by repeat (first|(with_reducible first|exact HB.out|apply qab|apply qaa|apply qac|refine qaf ?_ GE112.out)|exact HB.out)⟩
end Go.Proofs.YtooomjcdlfdnmaaGreatDoor.PA
