
import Derived.Test.YtiidmjmkgjfaeaaGreatDoorPAx0
import Derived.Test.YtiidmjmkgjfaeaaGreatDoorPAx5
namespace Go.Proofs.YtiidmjmkgjfaeaaGreatDoor.PA
open Go.RowKit Go.Proofs.YtiidmjmkgjfaeaaGreatDoorW.PrintWords Go.Proofs.YtiidmjmkgjfaeaaGreatDoorW.PrintLast Go.Proofs.YtiidmjmkgjfaeaaGreatDoorW.PrintMore
attribute [local go_sem] max2_int min2_int max_two min_two max_three min_three max_four min_four
set_option maxHeartbeats 8000000
set_option maxRecDepth 100000
set_option linter.unusedVariables false
set_option linter.unusedSimpArgs false
def relation_Print.f (k : Nat) (a0_0 : ByteArray) (a0_1 : Int) (a0_2 : ByteArray) : Option (ByteArray) := (relation_Right.f k a0_0 a0_1 a0_2).bind fun t162 => (if t162 = true then (if a0_1 = 0 then (some a0_0) else (if a0_0.size + 2 ≤ 9223372036854775807 then ((relation_Sign.f a0_1).bind fun t163 => (if (a0_0 ++ (⟨#[32,40]⟩ : ByteArray)).size + t163.size ≤ 9223372036854775807 then (if ((a0_0 ++ (⟨#[32,40]⟩ : ByteArray)) ++ t163).size + 1 ≤ 9223372036854775807 then (if (((a0_0 ++ (⟨#[32,40]⟩ : ByteArray)) ++ t163) ++ (⟨#[32]⟩ : ByteArray)).size + a0_2.size ≤ 9223372036854775807 then (if ((((a0_0 ++ (⟨#[32,40]⟩ : ByteArray)) ++ t163) ++ (⟨#[32]⟩ : ByteArray)) ++ a0_2).size + 1 ≤ 9223372036854775807 then (some (((((a0_0 ++ (⟨#[32,40]⟩ : ByteArray)) ++ t163) ++ (⟨#[32]⟩ : ByteArray)) ++ a0_2) ++ (⟨#[41]⟩ : ByteArray))) else (none)) else (none)) else (none)) else (none))) else (none))) else (some (⟨#[]⟩ : ByteArray)))
theorem relation_Print.mono : ∀ a0 a1 a2 k,LeO (relation_Print.f k a0 a1 a2) (relation_Print.f (k + 1) a0 a1 a2) := by
 intro a0 a1 a2 k
 unfold relation_Print.f
 repeat' first
   | (with_reducible exact relation_Right.mono _ _ _ _)
   | (with_reducible exact LeO.refl _)
   | (with_reducible exact LeO.none _)
   | (with_reducible refine LeO.ite ?_ ?_)
   | (with_reducible refine LeO.bind ?_ (fun _ => ?_))
def relation_Print.T5 : Bool × List (List Nat × List Nat) := (true,[([],[]),([0],[0]),([1],[1]),([],[]),([3],[3]),([4],[4]),([2,5],[2,5]),([6],[6]),([],[]),([8],[8]),([7,9],[7,9]),([10],[10]),([11,5,0,1,2,3,4,5,6,7,8,9,10,11],[11])])
def relation_Print.B5 : List Nat := [0,1,3,0,8,24,63,127,0,256,1023,2047,4095]
theorem relation_Print.tab5 : rtab .any (opsOf Tryz.f112 5) = relation_Print.T5 := by kernel_rfl
theorem relation_Print.bits5 : waitsOk relation_Print.T5.2 relation_Print.B5 = true := by kernel_rfl
theorem relation_Print.calls (k : Nat) (a0_0 : ByteArray) (a0_1 : Int) (a0_2 : ByteArray) (r : ByteArray) (w : World) (hG : GL w) (h : relation_Print.f k a0_0 a0_1 a0_2 = some r) :
  Calls Tryz.prog 112 #[.agg #[.string a0_0,.int .i64 a0_1,.string a0_2]] w fun e w' => e = .returned (.string r) ∧ Below w.heap.size w w' := by
 have hu46 := Tryz.underlying46
 have HB := Aside0.mk (Below.refl w.heap.size w)
 have H : ((relation_Right.f k a0_0 a0_1 a0_2).bind fun t162 => (if t162 = true then (if a0_1 = 0 then (some a0_0) else (if a0_0.size + 2 ≤ 9223372036854775807 then ((relation_Sign.f a0_1).bind fun t163 => (if (a0_0 ++ (⟨#[32,40]⟩ : ByteArray)).size + t163.size ≤ 9223372036854775807 then (if ((a0_0 ++ (⟨#[32,40]⟩ : ByteArray)) ++ t163).size + 1 ≤ 9223372036854775807 then (if (((a0_0 ++ (⟨#[32,40]⟩ : ByteArray)) ++ t163) ++ (⟨#[32]⟩ : ByteArray)).size + a0_2.size ≤ 9223372036854775807 then (if ((((a0_0 ++ (⟨#[32,40]⟩ : ByteArray)) ++ t163) ++ (⟨#[32]⟩ : ByteArray)) ++ a0_2).size + 1 ≤ 9223372036854775807 then (some (((((a0_0 ++ (⟨#[32,40]⟩ : ByteArray)) ++ t163) ++ (⟨#[32]⟩ : ByteArray)) ++ a0_2) ++ (⟨#[41]⟩ : ByteArray))) else (none)) else (none)) else (none)) else (none))) else (none))) else (some (⟨#[]⟩ : ByteArray)))) = some r := h
 clear h
 replace H := Option.bind_eq_some_iff.mp H
 obtain ⟨t162,A20,H⟩ := H
 replace H : (if t162 = true then (if a0_1 = 0 then (some a0_0) else (if a0_0.size + 2 ≤ 9223372036854775807 then ((relation_Sign.f a0_1).bind fun t163 => (if (a0_0 ++ (⟨#[32,40]⟩ : ByteArray)).size + t163.size ≤ 9223372036854775807 then (if ((a0_0 ++ (⟨#[32,40]⟩ : ByteArray)) ++ t163).size + 1 ≤ 9223372036854775807 then (if (((a0_0 ++ (⟨#[32,40]⟩ : ByteArray)) ++ t163) ++ (⟨#[32]⟩ : ByteArray)).size + a0_2.size ≤ 9223372036854775807 then (if ((((a0_0 ++ (⟨#[32,40]⟩ : ByteArray)) ++ t163) ++ (⟨#[32]⟩ : ByteArray)) ++ a0_2).size + 1 ≤ 9223372036854775807 then (some (((((a0_0 ++ (⟨#[32,40]⟩ : ByteArray)) ++ t163) ++ (⟨#[32]⟩ : ByteArray)) ++ a0_2) ++ (⟨#[41]⟩ : ByteArray))) else (none)) else (none)) else (none)) else (none))) else (none))) else (some (⟨#[]⟩ : ByteArray))) = some r := H
 have A2 := Aside0.mk A20
 clear A20
 by_cases c3 : t162 = true
 ·subst c3
  have H1 : (if a0_1 = 0 then (some a0_0) else (if a0_0.size + 2 ≤ 9223372036854775807 then ((relation_Sign.f a0_1).bind fun t163 => (if (a0_0 ++ (⟨#[32,40]⟩ : ByteArray)).size + t163.size ≤ 9223372036854775807 then (if ((a0_0 ++ (⟨#[32,40]⟩ : ByteArray)) ++ t163).size + 1 ≤ 9223372036854775807 then (if (((a0_0 ++ (⟨#[32,40]⟩ : ByteArray)) ++ t163) ++ (⟨#[32]⟩ : ByteArray)).size + a0_2.size ≤ 9223372036854775807 then (if ((((a0_0 ++ (⟨#[32,40]⟩ : ByteArray)) ++ t163) ++ (⟨#[32]⟩ : ByteArray)) ++ a0_2).size + 1 ≤ 9223372036854775807 then (some (((((a0_0 ++ (⟨#[32,40]⟩ : ByteArray)) ++ t163) ++ (⟨#[32]⟩ : ByteArray)) ++ a0_2) ++ (⟨#[41]⟩ : ByteArray))) else (none)) else (none)) else (none)) else (none))) else (none))) = some r := by rw [if_pos rfl] at H;exact H
  clear H
  have H := H1
  clear H1
  by_cases c4 : a0_1 = 0
  ·rw [if_pos c4] at H
   have c4b0 : (a0_1 == 0) = true := beq_iff_eq.mpr c4
   have c4b1 : (a0_1 != 0) = false := bne_eq_false_iff_eq.mpr c4
   clear c4
   obtain rfl := Option.some.inj H
   go_enter Tryz.func112,Tryz.ntmps112
   go_wp2_with (first|((with_reducible refine gate_dst (N := 1) rfl ?_);refine box_event ?hg (N := 1) ?hd (cs := #[.string a0_0,.int .i64 a0_1,.string a0_2]) (t := 46) ?hr ?_;(case hd => rfl);(case hg => rfl);(case hr => first|(go_simp;done)|(go_simp;rfl));intro gb161 hg w5 hbox hb;have n0_ := Aside0.mk (qan (by repeat (with_reducible first|exact HB.out|apply qab|apply qaa|apply qac)) hb);have n1_ := Aside0.mk (hbox);have n2_ := Aside0.mk ((by rw [hg];exact (qao (by repeat (with_reducible first|exact HB.out|apply qab|apply qaa|apply qac))) : w.heap.size ≤ gb161));have n3_ := Aside0.mk ((by rw [hg];exact (qao (by repeat (with_reducible first|exact HB.out|apply qab|apply qaa|apply qac))) : w.heap.size ≤ gb161));clear HB;have HB := n0_;have BK161 := n1_;have GW161 := n2_;have GE161 := n3_;clear n0_ n1_ n2_ n3_;clear hb hbox hg;have hcz6_0 : w5.cell? ⟨gb161,0,none⟩ = some (.string a0_0) := (qae BK161.out 0).trans rfl;have hcz6_1 : w5.cell? ⟨gb161,1,none⟩ = some (.int .i64 a0_1) := (qae BK161.out 1).trans rfl;have hcz6_2 : w5.cell? ⟨gb161,2,none⟩ = some (.string a0_2) := (qae BK161.out 2).trans rfl;have hfz6_0 := qad BK161.out 0;have hfz6_1 := qad BK161.out 1;have hfz6_2 := qad BK161.out 2)|((with_reducible refine qal (f := 80) rfl ?_);refine goesL_ (some 5) rfl rfl Tryz.func80 (by kernel_rfl) rfl #[.agg #[.string a0_0,.int .i64 a0_1,.string a0_2]] rfl (by first|rfl|(simp only [List.map_toArray,List.map_cons,List.map_nil,List.length_drop,List.length_take];rfl)|simp only [List.map_toArray,List.map_cons,List.map_nil]) ?_;(with_reducible refine (relation_Right.calls k a0_0 a0_1 a0_2 true _ (by first|exact hG|exact GL.below hG (by repeat (first|(with_reducible first|exact HB.out|apply qab|apply qaa|apply qac|refine qaf ?_ GE161.out)|exact HB.out)))  A2.out).mono ?_);rintro e w7 ⟨rfl,hb⟩;refine ⟨_,rfl,?_⟩;have n0_ := Aside0.mk (qap (g := gb161) (o := .cells #[.string a0_0,.int .i64 a0_1,.string a0_2] 46 (0,0)) (by (with_reducible repeat (first|refine qah ?_ _|refine qai ?_|refine qag ?_ _));exact BK161.out) hb);have n1_ := Aside0.mk (qan (by repeat (first|(with_reducible first|exact HB.out|apply qab|apply qaa|apply qac|refine qaf ?_ GE161.out)|exact HB.out)) hb);clear BK161;clear HB;have BK161 := n0_;have HB := n1_;clear n0_ n1_;(try clear hb);(try clear hb2);(try clear hk);(try clear hi);have hcz8_0 : w7.cell? ⟨gb161,0,none⟩ = some (.string a0_0) := (qae BK161.out 0).trans rfl;have hcz8_1 : w7.cell? ⟨gb161,1,none⟩ = some (.int .i64 a0_1) := (qae BK161.out 1).trans rfl;have hcz8_2 : w7.cell? ⟨gb161,2,none⟩ = some (.string a0_2) := (qae BK161.out 2).trans rfl;have hfz8_0 := qad BK161.out 0;have hfz8_1 := qad BK161.out 1;have hfz8_2 := qad BK161.out 2))
   go_ret
   exact ⟨by first|rfl|(simp [qaj,qak]<;>rfl)|(simp [*,qaj,qak]<;>rfl),by repeat (first|(with_reducible first|exact HB.out|apply qab|apply qaa|apply qac|refine qaf ?_ GE161.out)|exact HB.out)⟩
  ·rw [if_neg c4] at H
   have c4b0 : (a0_1 == 0) = false := beq_eq_false_iff_ne.mpr c4
   have c4b1 : (a0_1 != 0) = true := bne_iff_ne.mpr c4
   by_cases c9 : a0_0.size + 2 ≤ 9223372036854775807
   ·rw [if_pos c9] at H
    have c9b0 := eq_true c9
    have c9b1 : decide (a0_0.size + 2 ≤ 9223372036854775807) = true := decide_eq_true c9
    try have c9b2 : (9223372036854775807 < a0_0.size + 2) = False := eq_false (Nat.not_lt.2 c9)
    replace H := Option.bind_eq_some_iff.mp H
    obtain ⟨t163,A100,H⟩ := H
    replace H : (if (a0_0 ++ (⟨#[32,40]⟩ : ByteArray)).size + t163.size ≤ 9223372036854775807 then (if ((a0_0 ++ (⟨#[32,40]⟩ : ByteArray)) ++ t163).size + 1 ≤ 9223372036854775807 then (if (((a0_0 ++ (⟨#[32,40]⟩ : ByteArray)) ++ t163) ++ (⟨#[32]⟩ : ByteArray)).size + a0_2.size ≤ 9223372036854775807 then (if ((((a0_0 ++ (⟨#[32,40]⟩ : ByteArray)) ++ t163) ++ (⟨#[32]⟩ : ByteArray)) ++ a0_2).size + 1 ≤ 9223372036854775807 then (some (((((a0_0 ++ (⟨#[32,40]⟩ : ByteArray)) ++ t163) ++ (⟨#[32]⟩ : ByteArray)) ++ a0_2) ++ (⟨#[41]⟩ : ByteArray))) else (none)) else (none)) else (none)) else (none)) = some r := H
    have A10 := Aside0.mk A100
    clear A100
    by_cases c11 : (a0_0 ++ (⟨#[32,40]⟩ : ByteArray)).size + t163.size ≤ 9223372036854775807
    ·rw [if_pos c11] at H
     have c11b0 := eq_true c11
     have c11b1 : decide ((a0_0 ++ (⟨#[32,40]⟩ : ByteArray)).size + t163.size ≤ 9223372036854775807) = true := decide_eq_true c11
     try have c11b2 : (9223372036854775807 < (a0_0 ++ (⟨#[32,40]⟩ : ByteArray)).size + t163.size) = False := eq_false (Nat.not_lt.2 c11)
     (try (have c11n := c11;simp only [ByteArray.size_append,size_of_lit,List.size_toArray,List.length_cons,List.length_nil,Nat.zero_add,Nat.reduceAdd] at c11n;have c11n1 := eq_false (Nat.not_lt.2 c11n)))
     by_cases c12 : ((a0_0 ++ (⟨#[32,40]⟩ : ByteArray)) ++ t163).size + 1 ≤ 9223372036854775807
     ·rw [if_pos c12] at H
      have c12b0 := eq_true c12
      have c12b1 : decide (((a0_0 ++ (⟨#[32,40]⟩ : ByteArray)) ++ t163).size + 1 ≤ 9223372036854775807) = true := decide_eq_true c12
      try have c12b2 : (9223372036854775807 < ((a0_0 ++ (⟨#[32,40]⟩ : ByteArray)) ++ t163).size + 1) = False := eq_false (Nat.not_lt.2 c12)
      (try (have c12n := c12;simp only [ByteArray.size_append,size_of_lit,List.size_toArray,List.length_cons,List.length_nil,Nat.zero_add,Nat.reduceAdd] at c12n;have c12n1 := eq_false (Nat.not_lt.2 c12n)))
      by_cases c13 : (((a0_0 ++ (⟨#[32,40]⟩ : ByteArray)) ++ t163) ++ (⟨#[32]⟩ : ByteArray)).size + a0_2.size ≤ 9223372036854775807
      ·rw [if_pos c13] at H
       have c13b0 := eq_true c13
       have c13b1 : decide ((((a0_0 ++ (⟨#[32,40]⟩ : ByteArray)) ++ t163) ++ (⟨#[32]⟩ : ByteArray)).size + a0_2.size ≤ 9223372036854775807) = true := decide_eq_true c13
       try have c13b2 : (9223372036854775807 < (((a0_0 ++ (⟨#[32,40]⟩ : ByteArray)) ++ t163) ++ (⟨#[32]⟩ : ByteArray)).size + a0_2.size) = False := eq_false (Nat.not_lt.2 c13)
       (try (have c13n := c13;simp only [ByteArray.size_append,size_of_lit,List.size_toArray,List.length_cons,List.length_nil,Nat.zero_add,Nat.reduceAdd] at c13n;have c13n1 := eq_false (Nat.not_lt.2 c13n)))
       by_cases c14 : ((((a0_0 ++ (⟨#[32,40]⟩ : ByteArray)) ++ t163) ++ (⟨#[32]⟩ : ByteArray)) ++ a0_2).size + 1 ≤ 9223372036854775807
       ·rw [if_pos c14] at H
        have c14b0 := eq_true c14
        have c14b1 : decide (((((a0_0 ++ (⟨#[32,40]⟩ : ByteArray)) ++ t163) ++ (⟨#[32]⟩ : ByteArray)) ++ a0_2).size + 1 ≤ 9223372036854775807) = true := decide_eq_true c14
        try have c14b2 : (9223372036854775807 < ((((a0_0 ++ (⟨#[32,40]⟩ : ByteArray)) ++ t163) ++ (⟨#[32]⟩ : ByteArray)) ++ a0_2).size + 1) = False := eq_false (Nat.not_lt.2 c14)
        (try (have c14n := c14;simp only [ByteArray.size_append,size_of_lit,List.size_toArray,List.length_cons,List.length_nil,Nat.zero_add,Nat.reduceAdd] at c14n;have c14n1 := eq_false (Nat.not_lt.2 c14n)))
        obtain rfl := Option.some.inj H
        go_enter Tryz.func112,Tryz.ntmps112
        try go_wp2_with (first|((with_reducible refine gate_dst (N := 1) rfl ?_);refine box_event ?hg (N := 1) ?hd (cs := #[.string a0_0,.int .i64 a0_1,.string a0_2]) (t := 46) ?hr ?_;(case hd => rfl);(case hg => rfl);(case hr => first|(go_simp;done)|(go_simp;rfl));intro gb161 hg w15 hbox hb;have n0_ := Aside0.mk (qan (by repeat (with_reducible first|exact HB.out|apply qab|apply qaa|apply qac)) hb);have n1_ := Aside0.mk (hbox);have n2_ := Aside0.mk ((by rw [hg];exact (qao (by repeat (with_reducible first|exact HB.out|apply qab|apply qaa|apply qac))) : w.heap.size ≤ gb161));have n3_ := Aside0.mk ((by rw [hg];exact (qao (by repeat (with_reducible first|exact HB.out|apply qab|apply qaa|apply qac))) : w.heap.size ≤ gb161));clear HB;have HB := n0_;have BK161 := n1_;have GW161 := n2_;have GE161 := n3_;clear n0_ n1_ n2_ n3_;clear hb hbox hg;have hcz16_0 : w15.cell? ⟨gb161,0,none⟩ = some (.string a0_0) := (qae BK161.out 0).trans rfl;have hcz16_1 : w15.cell? ⟨gb161,1,none⟩ = some (.int .i64 a0_1) := (qae BK161.out 1).trans rfl;have hcz16_2 : w15.cell? ⟨gb161,2,none⟩ = some (.string a0_2) := (qae BK161.out 2).trans rfl;have hfz16_0 := qad BK161.out 0;have hfz16_1 := qad BK161.out 1;have hfz16_2 := qad BK161.out 2)|((with_reducible refine qal (f := 80) rfl ?_);refine goesL_ (some 5) rfl rfl Tryz.func80 (by kernel_rfl) rfl #[.agg #[.string a0_0,.int .i64 a0_1,.string a0_2]] rfl (by first|rfl|(simp only [List.map_toArray,List.map_cons,List.map_nil,List.length_drop,List.length_take];rfl)|simp only [List.map_toArray,List.map_cons,List.map_nil]) ?_;(with_reducible refine (relation_Right.calls k a0_0 a0_1 a0_2 true _ (by first|exact hG|exact GL.below hG (by repeat (first|(with_reducible first|exact HB.out|apply qab|apply qaa|apply qac|refine qaf ?_ GE161.out)|exact HB.out)))  A2.out).mono ?_);rintro e w17 ⟨rfl,hb⟩;refine ⟨_,rfl,?_⟩;have n0_ := Aside0.mk (qap (g := gb161) (o := .cells #[.string a0_0,.int .i64 a0_1,.string a0_2] 46 (0,0)) (by (with_reducible repeat (first|refine qah ?_ _|refine qai ?_|refine qag ?_ _));exact BK161.out) hb);have n1_ := Aside0.mk (qan (by repeat (first|(with_reducible first|exact HB.out|apply qab|apply qaa|apply qac|refine qaf ?_ GE161.out)|exact HB.out)) hb);clear BK161;clear HB;have BK161 := n0_;have HB := n1_;clear n0_ n1_;(try clear hb);(try clear hb2);(try clear hk);(try clear hi);have hcz18_0 : w17.cell? ⟨gb161,0,none⟩ = some (.string a0_0) := (qae BK161.out 0).trans rfl;have hcz18_1 : w17.cell? ⟨gb161,1,none⟩ = some (.int .i64 a0_1) := (qae BK161.out 1).trans rfl;have hcz18_2 : w17.cell? ⟨gb161,2,none⟩ = some (.string a0_2) := (qae BK161.out 2).trans rfl;have hfz18_0 := qad BK161.out 0;have hfz18_1 := qad BK161.out 1;have hfz18_2 := qad BK161.out 2))
        have n0_ := Aside0.mk (qai BK161.out)
        have n1_ := Aside0.mk (qac HB.out)
        clear BK161
        clear HB
        have BK161 := n0_
        have HB := n1_
        clear n0_ n1_
        refine start_ (n := 13) (S := fun w' => w'.cell? ⟨gb161,0,none⟩ = some (.string a0_0) ∧ w'.cell? ⟨gb161,1,none⟩ = some (.int .i64 a0_1) ∧ w'.cell? ⟨gb161,2,none⟩ = some (.string a0_2)) (ds := []) #[false,false,false,false,false,false,false,false,false,false,false,false,false] (by kernel_rfl) rfl rfl ⟨(qae BK161.out 0).trans rfl,(qae BK161.out 1).trans rfl,(qae BK161.out 2).trans rfl⟩ (fun hHeld => ?_);refine with_tabW relation_Print.tab5 relation_Print.bits5 (fun HT_ HW_ => ?_)
        generalize w17.drew = w19 at BK161 HB hHeld ⊢
        refine pure_ (i := 0) (N := some 13) (v := ?_) (a' := ?_) #[true,false,false,false,false,false,false,false,false,false,false,false,false] rfl rfl (any_of HT_.out (by kernel_rfl)) (fun _ _ _ h => h) (Or.inl ⟨by rfl,?_⟩) ?_ ?_
        rotate_left
        ·intro w'
         go_simp
         with_reducible rfl
        rotate_left
        ·simp only [Act.put,List.setIfInBounds_toArray,List.set_cons_zero,List.set_cons_succ,i64_w,i32_w]
         rfl
        refine pure_ (i := 3) (N := some 16) (v := ?_) (a' := ?_) #[true,false,false,true,false,false,false,false,false,false,false,false,false] rfl rfl (any_of HT_.out (by kernel_rfl)) (fun _ _ _ h => h) (Or.inl ⟨by rfl,?_⟩) ?_ ?_
        rotate_left
        ·intro w'
         go_simp
         with_reducible rfl
        rotate_left
        ·simp only [Act.put,List.setIfInBounds_toArray,List.set_cons_zero,List.set_cons_succ,i64_w,i32_w]
         rfl
        refine pure_ (i := 8) (N := some 21) (v := ?_) (a' := ?_) #[true,false,false,true,false,false,false,false,true,false,false,false,false] rfl rfl (any_of HT_.out (by kernel_rfl)) (fun _ _ _ h => h) (Or.inl ⟨by rfl,?_⟩) ?_ ?_
        rotate_left
        ·intro w'
         go_simp
         with_reducible rfl
        rotate_left
        ·simp only [Act.put,List.setIfInBounds_toArray,List.set_cons_zero,List.set_cons_succ,i64_w,i32_w]
         rfl
        refine take_ (i := 1) (N := some 14) (v := ?_) (a' := ?_) #[true,true,false,true,false,false,false,false,true,false,false,false,false] rfl rfl (take_ofW HT_.out HW_.out (by kernel_rfl)) (fun _ _ _ h => h) (Or.inl ⟨by rfl,?_⟩) hHeld ?_ ?_
        rotate_left
        ·rintro w' ⟨s0,s1,s2⟩
         go_simp
         with_reducible rfl
        rotate_left
        ·simp only [Act.put,List.setIfInBounds_toArray,List.set_cons_zero,List.set_cons_succ,i64_w,i32_w]
         rfl
        refine pure_ (i := 2) (N := some 15) (v := ?_) (a' := ?_) #[true,true,true,true,false,false,false,false,true,false,false,false,false] rfl rfl (any_of HT_.out (by kernel_rfl)) (fun _ _ _ h => h) (Or.inl ⟨by rfl,?_⟩) ?_ ?_
        rotate_left
        ·intro w'
         go_simp
         with_reducible rfl
        rotate_left
        ·simp only [Act.put,List.setIfInBounds_toArray,List.set_cons_zero,List.set_cons_succ,i64_w,i32_w]
         rfl
        refine take_ (i := 4) (N := some 17) (v := ?_) (a' := ?_) #[true,true,true,true,true,false,false,false,true,false,false,false,false] rfl rfl (take_ofW HT_.out HW_.out (by kernel_rfl)) (fun _ _ _ h => h) (Or.inl ⟨by rfl,?_⟩) hHeld ?_ ?_
        rotate_left
        ·rintro w' ⟨s0,s1,s2⟩
         go_simp
         with_reducible rfl
        rotate_left
        ·simp only [Act.put,List.setIfInBounds_toArray,List.set_cons_zero,List.set_cons_succ,i64_w,i32_w]
         rfl
        refine take_ (i := 9) (N := some 22) (v := ?_) (a' := ?_) #[true,true,true,true,true,false,false,false,true,true,false,false,false] rfl rfl (take_ofW HT_.out HW_.out (by kernel_rfl)) (fun _ _ _ h => h) (Or.inl ⟨by rfl,?_⟩) hHeld ?_ ?_
        rotate_left
        ·rintro w' ⟨s0,s1,s2⟩
         go_simp
         with_reducible rfl
        rotate_left
        ·simp only [Act.put,List.setIfInBounds_toArray,List.set_cons_zero,List.set_cons_succ,i64_w,i32_w]
         rfl
        refine one_ (i := 5) (N := some 18) #[true,true,true,true,true,true,false,false,true,true,false,false,false] rfl rfl (one_of HT_.out (by kernel_rfl)) (by decide) (fun K hK => ?_)
        refine goes_ Tryz.func143 (by kernel_rfl) rfl #[.int .i64 a0_1] (by rfl) rfl rfl (by first|rfl|(simp only [List.map_toArray,List.map_cons,List.map_nil,List.length_drop,List.length_take];rfl)|simp only [List.map_toArray,List.map_cons,List.map_nil]) ?_
        with_reducible refine (relation_Sign.calls a0_1 t163 _ (by first|exact hG|exact GL.below hG (by repeat (first|(with_reducible first|exact HB.out|apply qab|apply qaa|apply qac|refine qaf ?_ GE161.out)|exact HB.out)))  A10.out).mono ?_
        rintro e w20 ⟨rfl,hb⟩
        refine ⟨_,rfl,?_⟩
        have n0_ := Aside0.mk (qap (g := gb161) (o := .cells #[.string a0_0,.int .i64 a0_1,.string a0_2] 46 (0,0)) (by (with_reducible repeat (first|refine qah ?_ _|refine qai ?_|refine qag ?_ _));exact BK161.out) hb)
        have n1_ := Aside0.mk (qan (by repeat (first|(with_reducible first|exact HB.out|apply qab|apply qaa|apply qac|refine qaf ?_ GE161.out)|exact HB.out)) hb)
        clear BK161
        clear HB
        have BK161 := n0_
        have HB := n1_
        clear n0_ n1_
        (try clear hb)
        (try clear hb2)
        (try clear hk)
        (try clear hi)
        refine hK.out _ _ ⟨(qae BK161.out 0).trans rfl,(qae BK161.out 1).trans rfl,(qae BK161.out 2).trans rfl⟩ (fun hHeld => ?_)
        clear hK K
        refine norm_ (a' := ?_) ?_ ?_
        rotate_left
        ·show Act.put _ (some 18) _ = _
         simp only [Act.put,List.setIfInBounds_toArray,List.set_cons_zero,List.set_cons_succ,i64_w,i32_w]
         rfl
        refine pure_ (i := 6) (N := some 19) (v := ?_) (a' := ?_) #[true,true,true,true,true,true,true,false,true,true,false,false,false] rfl rfl (any_of HT_.out (by kernel_rfl)) (fun _ _ _ h => h) (Or.inl ⟨by rfl,?_⟩) ?_ ?_
        rotate_left
        ·intro w'
         go_simp
         with_reducible rfl
        rotate_left
        ·simp only [Act.put,List.setIfInBounds_toArray,List.set_cons_zero,List.set_cons_succ,i64_w,i32_w]
         rfl
        refine pure_ (i := 7) (N := some 20) (v := ?_) (a' := ?_) #[true,true,true,true,true,true,true,true,true,true,false,false,false] rfl rfl (any_of HT_.out (by kernel_rfl)) (fun _ _ _ h => h) (Or.inl ⟨by rfl,?_⟩) ?_ ?_
        rotate_left
        ·intro w'
         go_simp
         with_reducible rfl
        rotate_left
        ·simp only [Act.put,List.setIfInBounds_toArray,List.set_cons_zero,List.set_cons_succ,i64_w,i32_w]
         rfl
        refine pure_ (i := 10) (N := some 23) (v := ?_) (a' := ?_) #[true,true,true,true,true,true,true,true,true,true,true,false,false] rfl rfl (any_of HT_.out (by kernel_rfl)) (fun _ _ _ h => h) (Or.inl ⟨by rfl,?_⟩) ?_ ?_
        rotate_left
        ·intro w'
         go_simp
         with_reducible rfl
        rotate_left
        ·simp only [Act.put,List.setIfInBounds_toArray,List.set_cons_zero,List.set_cons_succ,i64_w,i32_w]
         rfl
        refine pure_ (i := 11) (N := some 24) (v := ?_) (a' := ?_) #[true,true,true,true,true,true,true,true,true,true,true,true,false] rfl rfl (any_of HT_.out (by kernel_rfl)) (fun _ _ _ h => h) (Or.inl ⟨by rfl,?_⟩) ?_ ?_
        rotate_left
        ·intro w'
         go_simp
         with_reducible rfl
        rotate_left
        ·simp only [Act.put,List.setIfInBounds_toArray,List.set_cons_zero,List.set_cons_succ,i64_w,i32_w]
         rfl
        refine pure_ (i := 12) (N := some 2) (v := ?_) (a' := ?_) #[true,true,true,true,true,true,true,true,true,true,true,true,true] rfl rfl (any_of HT_.out (by kernel_rfl)) (fun _ _ _ h => h) (Or.inl ⟨by rfl,?_⟩) ?_ ?_
        rotate_left
        ·intro w'
         go_simp
         with_reducible rfl
        rotate_left
        ·simp only [Act.put,List.setIfInBounds_toArray,List.set_cons_zero,List.set_cons_succ,i64_w,i32_w]
         rfl
        refine done_ (done_of HT_.out (by kernel_rfl)) ?_
        try go_wp2
        go_ret
        exact ⟨by first|rfl|(simp [qaj,qak]<;>rfl)|(simp [*,qaj,qak]<;>rfl),by repeat (first|(with_reducible first|exact HB.out|apply qab|apply qaa|apply qac|refine qaf ?_ GE161.out)|exact HB.out)⟩
       ·rw [if_neg c14] at H
        exact absurd H (by simp)
      ·rw [if_neg c13] at H
       exact absurd H (by simp)
     ·rw [if_neg c12] at H
      exact absurd H (by simp)
    ·rw [if_neg c11] at H
     exact absurd H (by simp)
   ·rw [if_neg c9] at H
    exact absurd H (by simp)
 ·replace c3 := Bool.eq_false_iff.mpr c3
  subst c3
  have H1 : (some (⟨#[]⟩ : ByteArray)) = some r := by rw [if_neg (show ¬ (false = true) by decide)] at H;exact H
  clear H
  have H := H1
  clear H1
  obtain rfl := Option.some.inj H
  go_enter Tryz.func112,Tryz.ntmps112
  go_wp2_with (first|((with_reducible refine gate_dst (N := 1) rfl ?_);refine box_event ?hg (N := 1) ?hd (cs := #[.string a0_0,.int .i64 a0_1,.string a0_2]) (t := 46) ?hr ?_;(case hd => rfl);(case hg => rfl);(case hr => first|(go_simp;done)|(go_simp;rfl));intro gb161 hg w21 hbox hb;have n0_ := Aside0.mk (qan (by repeat (with_reducible first|exact HB.out|apply qab|apply qaa|apply qac)) hb);have n1_ := Aside0.mk (hbox);have n2_ := Aside0.mk ((by rw [hg];exact (qao (by repeat (with_reducible first|exact HB.out|apply qab|apply qaa|apply qac))) : w.heap.size ≤ gb161));have n3_ := Aside0.mk ((by rw [hg];exact (qao (by repeat (with_reducible first|exact HB.out|apply qab|apply qaa|apply qac))) : w.heap.size ≤ gb161));clear HB;have HB := n0_;have BK161 := n1_;have GW161 := n2_;have GE161 := n3_;clear n0_ n1_ n2_ n3_;clear hb hbox hg;have hcz22_0 : w21.cell? ⟨gb161,0,none⟩ = some (.string a0_0) := (qae BK161.out 0).trans rfl;have hcz22_1 : w21.cell? ⟨gb161,1,none⟩ = some (.int .i64 a0_1) := (qae BK161.out 1).trans rfl;have hcz22_2 : w21.cell? ⟨gb161,2,none⟩ = some (.string a0_2) := (qae BK161.out 2).trans rfl;have hfz22_0 := qad BK161.out 0;have hfz22_1 := qad BK161.out 1;have hfz22_2 := qad BK161.out 2)|((with_reducible refine qal (f := 80) rfl ?_);refine goesL_ (some 5) rfl rfl Tryz.func80 (by kernel_rfl) rfl #[.agg #[.string a0_0,.int .i64 a0_1,.string a0_2]] rfl (by first|rfl|(simp only [List.map_toArray,List.map_cons,List.map_nil,List.length_drop,List.length_take];rfl)|simp only [List.map_toArray,List.map_cons,List.map_nil]) ?_;(with_reducible refine (relation_Right.calls k a0_0 a0_1 a0_2 false _ (by first|exact hG|exact GL.below hG (by repeat (first|(with_reducible first|exact HB.out|apply qab|apply qaa|apply qac|refine qaf ?_ GE161.out)|exact HB.out)))  A2.out).mono ?_);rintro e w23 ⟨rfl,hb⟩;refine ⟨_,rfl,?_⟩;have n0_ := Aside0.mk (qap (g := gb161) (o := .cells #[.string a0_0,.int .i64 a0_1,.string a0_2] 46 (0,0)) (by (with_reducible repeat (first|refine qah ?_ _|refine qai ?_|refine qag ?_ _));exact BK161.out) hb);have n1_ := Aside0.mk (qan (by repeat (first|(with_reducible first|exact HB.out|apply qab|apply qaa|apply qac|refine qaf ?_ GE161.out)|exact HB.out)) hb);clear BK161;clear HB;have BK161 := n0_;have HB := n1_;clear n0_ n1_;(try clear hb);(try clear hb2);(try clear hk);(try clear hi)))
  go_ret
  exact ⟨by first|rfl|(simp [qaj,qak]<;>rfl)|(simp [*,qaj,qak]<;>rfl),by repeat (first|(with_reducible first|exact HB.out|apply qab|apply qaa|apply qac|refine qaf ?_ GE161.out)|exact HB.out)⟩
mutual
def depends_Print.l0 : Nat → List ByteArray → List (List (S46)) → Int → Int → Option (ByteArray)
 | 0,_,_,_,_ => none
 | k + 1,x3,x12,x13,x14 => if x14 < x13 then (if 0 ≤ x14 then (if x14 < (x12.length : Int) then (depends_Print.l1 k x3 ([] : List ByteArray) x12 x13 x14 (rd_L4 x12 x14) ((rd_L4 x12 x14).length : Int) 0) else (none)) else (none)) else ((strings_Join.f x3 (⟨#[44,32]⟩ : ByteArray)).bind fun t165 => (some t165))
def depends_Print.l1 : Nat → List ByteArray → List ByteArray → List (List (S46)) → Int → Int → List (S46) → Int → Int → Option (ByteArray)
 | 0,_,_,_,_,_,_,_,_ => none
 | k + 1,x3,x6,x12,x13,x14,x18,x19,x20 => if x20 < x19 then (if 0 ≤ x20 then (if x20 < (x18.length : Int) then ((relation_Print.f k ((rd_T46 x18 x20).f0) ((rd_T46 x18 x20).f1) ((rd_T46 x18 x20).f2)).bind fun t169 => (if x6.length < 8796093022208 then (depends_Print.l1 k x3 (x6 ++ [t169]) x12 x13 x14 x18 x19 (wrap64 (x20 + 1))) else (none))) else (none)) else (none)) else ((strings_Join.f x6 (⟨#[32,124,32]⟩ : ByteArray)).bind fun t173 => (if x3.length < 8796093022208 then (depends_Print.l0 k (x3 ++ [t173]) x12 x13 (wrap64 (x14 + 1))) else (none)))
end
def depends_Print.f (k : Nat) (l0 : List (List (S46))) : Option (ByteArray) := (depends_Right.f k l0).bind fun t164 => (if t164 = true then (depends_Print.l0 k ([] : List ByteArray) l0 (l0.length : Int) 0) else (some (⟨#[]⟩ : ByteArray)))
theorem depends_Print.mono_l : ∀ k,(∀ y0 y1 y2 y3,LeO (depends_Print.l0 k y0 y1 y2 y3) (depends_Print.l0 (k + 1) y0 y1 y2 y3)) ∧ (∀ y0 y1 y2 y3 y4 y5 y6 y7,LeO (depends_Print.l1 k y0 y1 y2 y3 y4 y5 y6 y7) (depends_Print.l1 (k + 1) y0 y1 y2 y3 y4 y5 y6 y7))
 | 0 => ⟨fun _ _ _ _ r h => by simp [depends_Print.l0] at h,fun _ _ _ _ _ _ _ _ r h => by simp [depends_Print.l1] at h⟩
 | k + 1 => by
  obtain ⟨ih0,ih1⟩ := depends_Print.mono_l k
  refine ⟨?_,?_⟩
  ·intro y0 y1 y2 y3
   unfold depends_Print.l0
   repeat' first
   | (with_reducible exact ih0 _ _ _ _)
   | (with_reducible exact ih1 _ _ _ _ _ _ _ _)
   | (with_reducible exact depends_Right.mono _ _)
   | (with_reducible exact relation_Print.mono _ _ _ _)
   | (with_reducible exact LeO.refl _)
   | (with_reducible exact LeO.none _)
   | (with_reducible refine LeO.ite ?_ ?_)
   | (with_reducible refine LeO.bind ?_ (fun _ => ?_))
  ·intro y0 y1 y2 y3 y4 y5 y6 y7
   unfold depends_Print.l1
   repeat' first
   | (with_reducible exact ih0 _ _ _ _)
   | (with_reducible exact ih1 _ _ _ _ _ _ _ _)
   | (with_reducible exact depends_Right.mono _ _)
   | (with_reducible exact relation_Print.mono _ _ _ _)
   | (with_reducible exact LeO.refl _)
   | (with_reducible exact LeO.none _)
   | (with_reducible refine LeO.ite ?_ ?_)
   | (with_reducible refine LeO.bind ?_ (fun _ => ?_))
theorem depends_Print.mono : ∀ a0 k,LeO (depends_Print.f k a0) (depends_Print.f (k + 1) a0) := by
 intro a0 k
 obtain ⟨ih0,ih1⟩ := depends_Print.mono_l k
 unfold depends_Print.f
 repeat' first
   | (with_reducible exact ih0 _ _ _ _)
   | (with_reducible exact ih1 _ _ _ _ _ _ _ _)
   | (with_reducible exact depends_Right.mono _ _)
   | (with_reducible exact relation_Print.mono _ _ _ _)
   | (with_reducible exact LeO.refl _)
   | (with_reducible exact LeO.none _)
   | (with_reducible refine LeO.ite ?_ ?_)
   | (with_reducible refine LeO.bind ?_ (fun _ => ?_))
theorem depends_Print.calls (k : Nat) (A0 : Option Addr) (c0 : Nat) (l0 : List (List (S46))) (r : ByteArray) (w : World) (hG : GL w) (hr0 : Kd.C (Kd.slice 46 k46) w A0 l0.length l0) (hc0 : l0.length ≤ c0) (h : depends_Print.f k l0 = some r) :
  Calls Tryz.prog 82 #[.slice A0 l0.length c0] w fun e w' => e = .returned (.string r) ∧ Below w.heap.size w w' := by
 have hu46 := Tryz.underlying46
 have HR0 := Aside0.mk hr0
 have HC0 := Aside0.mk hc0
 clear hr0 hc0
 have HB := Aside0.mk (Below.refl w.heap.size w)
 have H : ((depends_Right.f k l0).bind fun t164 => (if t164 = true then (depends_Print.l0 k ([] : List ByteArray) l0 (l0.length : Int) 0) else (some (⟨#[]⟩ : ByteArray)))) = some r := h
 clear h
 replace H := Option.bind_eq_some_iff.mp H
 obtain ⟨t164,A20,H⟩ := H
 replace H : (if t164 = true then (depends_Print.l0 k ([] : List ByteArray) l0 (l0.length : Int) 0) else (some (⟨#[]⟩ : ByteArray))) = some r := H
 have A2 := Aside0.mk A20
 clear A20
 by_cases c3 : t164 = true
 ·subst c3
  have H1 : (depends_Print.l0 k ([] : List ByteArray) l0 (l0.length : Int) 0) = some r := by rw [if_pos rfl] at H;exact H
  clear H
  have H := H1
  clear H1
  have H' := Aside0.mk H
  clear H
  go_enter Tryz.func82,Tryz.ntmps82
  go_wp2_with (first|((with_reducible refine qal (f := 78) rfl ?_);refine goesL_ (some 10) rfl rfl Tryz.func78 (by kernel_rfl) rfl #[.slice A0 l0.length c0] rfl (by first|rfl|(simp only [List.map_toArray,List.map_cons,List.map_nil,List.length_drop,List.length_take];rfl)|simp only [List.map_toArray,List.map_cons,List.map_nil]) ?_;(with_reducible refine (depends_Right.calls k _ _ l0 true _ (by first|exact hG|exact GL.below hG (by repeat (with_reducible first|exact HB.out|apply qab|apply qaa|apply qac)))  ?side1 ?side2 A2.out).mono ?_);(case side1 => repeat (first|exact HR0.out|(with_reducible refine Kd.C_alloc ?_ _)|(with_reducible refine Kd.C_drewN ?_ _)|(with_reducible refine Kd.C_drew ?_)));(case side2 => exact HC0.out);rintro e w4 ⟨rfl,hb⟩;refine ⟨_,rfl,?_⟩;have n0_ := Aside0.mk (qan (by repeat (with_reducible first|exact HB.out|apply qab|apply qaa|apply qac)) hb);clear HB;have HB := n0_;clear n0_;(try clear hb);(try clear hb2);(try clear hk);(try clear hi)))
  go_loopg [3,14] k (fun kq v3 v14 w' => ∃ (x3_1 : List ByteArray) (x14_1 : Int),v14 = .int .i64 x14_1 ∧ Aside0 (depends_Print.l0 kq x3_1 l0 (l0.length : Int) x14_1 = some r) ∧ Aside0 (kq ≤ k) ∧ Aside0 (Kd.R Kd.string 9 w' w.heap.size (fun _ => True) v3 x3_1) ∧ Aside0 (Below w.heap.size w w'))
  case atStart => exact ⟨(([] : List ByteArray)),(0),(by first|rfl|(simp;done)|(simp [*];done)|(simp [qam];done)),H',⟨Nat.le_refl _⟩,⟨by first|exact Kd.R_nil _ _ _ _ _|exact Kd.N_nil _ _ _ _ _|exact Kd.V_nil _ _ _ _ _|exact Kd.Q_nil _ _ _ _ _|exact Kd.S_nil _ _ _ _ _⟩,⟨by repeat (with_reducible first|exact HB.out|apply qab|apply qaa|apply qac)⟩⟩
  case round =>
   clear H'
   try clear p2
   try clear c3
   obtain ⟨x3_1,x14_1,rfl,HA,HK1,HO_3,HB⟩ := hrel
   cases gk with
   | zero => exact absurd HA.out (by simp [depends_Print.l0])
   | succ k1 =>
    have H := HA.out
    clear HA
    simp only [depends_Print.l0] at H
    by_cases c5 : x14_1 < (l0.length : Int)
    ·rw [if_pos c5] at H
     have c5b0 : decide (x14_1 < (l0.length : Int)) = true := decide_eq_true c5
     clear c5
     by_cases c6 : 0 ≤ x14_1
     ·rw [if_pos c6] at H
      have c6b0 : decide (0 ≤ x14_1) = true := decide_eq_true c6
      clear c6
      by_cases c7 : x14_1 < (l0.length : Int)
      ·rw [if_pos c7] at H
       have c7b0 : decide (x14_1 < (l0.length : Int)) = true := decide_eq_true c7
       clear c7
       have H' := Aside0.mk H
       clear H
       have p166 : 0 ≤ (x14_1 : Int) := of_decide_eq_true (by assumption)
       have q166 : x14_1 < (l0.length : Int) := of_decide_eq_true (by assumption)
       obtain ⟨ad166,A166_0,c166_0,e166,hx166_0,hl166_0,hi166_0⟩ := at_L4 HR0.out x14_1 p166 q166
       cases e166
       replace hx166_0 := (HB.out.cell (World.block_lt_of_cell? w _ hx166_0)).trans hx166_0
       have HR166_0 := Aside0.mk hi166_0
       have HC166_0 := Aside0.mk hl166_0
       clear hi166_0 hl166_0
       replace p166 := eq_true p166
       replace q166 := eq_true q166
       go_wp2
       go_loopg [6,20] k1 (fun kq v6 v20 w' => ∃ (x6_2 : List ByteArray) (x20_2 : Int),v20 = .int .i64 x20_2 ∧ Aside0 (depends_Print.l1 kq x3_1 x6_2 l0 (l0.length : Int) x14_1 (rd_L4 l0 x14_1) ((rd_L4 l0 x14_1).length : Int) x20_2 = some r) ∧ Aside0 (kq ≤ k1) ∧ Aside0 (Kd.R Kd.string 9 w' w.heap.size (fun k_ => some k_ ≠ (v6 : Value).ownBlock) u3 x3_1) ∧ Aside0 (Kd.R Kd.string 9 w' w.heap.size (fun k_ => some k_ ≠ (u3 : Value).ownBlock) v6 x6_2) ∧ Aside0 (Below w.heap.size w w'))
       case atStart => exact ⟨(([] : List ByteArray)),(0),(by first|rfl|(simp;done)|(simp [*];done)|(simp [qam];done)),H',⟨Nat.le_refl _⟩,⟨by (with_reducible repeat (first|apply Kd.R_alloc|apply Kd.R_drewN|apply Kd.R_drew));exact Kd.R_mono HO_3.out (fun _ hk => (by simp [Value.ownBlock]))⟩,⟨by first|exact Kd.R_nil _ _ _ _ _|exact Kd.N_nil _ _ _ _ _|exact Kd.V_nil _ _ _ _ _|exact Kd.Q_nil _ _ _ _ _|exact Kd.S_nil _ _ _ _ _⟩,⟨by repeat (with_reducible first|exact HB.out|apply qab|apply qaa|apply qac)⟩⟩
       case round =>
        clear H'
        try clear c1
        try clear p1
        try clear q1
        try clear hx1
        try clear p2
        try clear c3
        try clear c5
        try clear c5b0
        try clear c6
        try clear c6b0
        try clear c7
        try clear c7b0
        try clear hx166_0
        try clear p166
        try clear p2
        try clear q166
        obtain ⟨x6_2,x20_2,rfl,HA,HK2,HO_3,HO_6,HB⟩ := hrel
        cases gk with
        | zero => exact absurd HA.out (by simp [depends_Print.l1])
        | succ k2 =>
         have H := HA.out
         clear HA
         simp only [depends_Print.l1] at H
         by_cases c8 : x20_2 < ((rd_L4 l0 x14_1).length : Int)
         ·rw [if_pos c8] at H
          have c8b0 : decide (x20_2 < ((rd_L4 l0 x14_1).length : Int)) = true := decide_eq_true c8
          clear c8
          by_cases c9 : 0 ≤ x20_2
          ·rw [if_pos c9] at H
           have c9b0 : decide (0 ≤ x20_2) = true := decide_eq_true c9
           clear c9
           by_cases c10 : x20_2 < ((rd_L4 l0 x14_1).length : Int)
           ·rw [if_pos c10] at H
            have c10b0 : decide (x20_2 < ((rd_L4 l0 x14_1).length : Int)) = true := decide_eq_true c10
            clear c10
            replace H := Option.bind_eq_some_iff.mp H
            obtain ⟨t169,A110,H⟩ := H
            replace H : (if x6_2.length < 8796093022208 then (depends_Print.l1 k2 x3_1 (x6_2 ++ [t169]) l0 (l0.length : Int) x14_1 (rd_L4 l0 x14_1) ((rd_L4 l0 x14_1).length : Int) (wrap64 (x20_2 + 1))) else (none)) = some r := H
            have A11 := Aside0.mk A110
            clear A110
            by_cases c12 : x6_2.length < 8796093022208
            ·rw [if_pos c12] at H
             have LMc12 := Aside0.mk c12
             clear c12
             obtain ⟨y170,hy170⟩ : ∃ y_ : List ByteArray,y_ = (x6_2 ++ [t169]) := ⟨_,rfl⟩
             replace H : (depends_Print.l1 k2 x3_1 y170 l0 (l0.length : Int) x14_1 (rd_L4 l0 x14_1) ((rd_L4 l0 x14_1).length : Int) (wrap64 (x20_2 + 1))) = some r := by first|(rw [hy170];with_reducible exact H)|(have H2_ := (Option.bind_some _ _).symm.trans H;rw [hy170];with_reducible exact H2_)|(have H2_ := (Option.bind_some _ _).symm.trans H;with_reducible exact H2_) | with_reducible exact H|(rw [hy170];exact H)|exact H
             have Ny170 := Aside0.mk hy170
             clear hy170
             have H' := Aside0.mk H
             clear H
             have p167 : 0 ≤ (x20_2 : Int) := of_decide_eq_true (by assumption)
             have q167 : x20_2 < ((rd_L4 l0 x14_1).length : Int) := of_decide_eq_true (by assumption)
             obtain ⟨ad167,e167,hx167_0,hx167_1,hx167_2⟩ := at_T46 HR166_0.out x20_2 p167 q167
             cases e167
             replace hx167_0 := (HB.out.cell (World.block_lt_of_cell? w _ hx167_0)).trans hx167_0
             replace hx167_1 := (HB.out.cell (World.block_lt_of_cell? w _ hx167_1)).trans hx167_1
             replace hx167_2 := (HB.out.cell (World.block_lt_of_cell? w _ hx167_2)).trans hx167_2
             replace p167 := eq_true p167
             replace q167 := eq_true q167
             go_wp2_with (first|((with_reducible refine gate_dst (N := 8) rfl ?_);refine box_event ?hg (N := 8) ?hd (cs := #[.string (⟨#[]⟩ : ByteArray),.int .i64 0,.string (⟨#[]⟩ : ByteArray)]) (t := 46) ?hr ?_;(case hd => rfl);(case hg => rfl);(case hr => first|(go_simp;done)|(go_simp;rfl));intro gb168 hg w13 hbox hb;have n0_ := Aside0.mk (Kd.R_below (by (with_reducible repeat (first|apply Kd.R_alloc|apply Kd.R_drewN|apply Kd.R_drew));exact HO_3.out) hb);have n1_ := Aside0.mk (Kd.R_below (by (with_reducible repeat (first|apply Kd.R_alloc|apply Kd.R_drewN|apply Kd.R_drew));exact HO_6.out) hb);have n2_ := Aside0.mk (qan (by repeat (with_reducible first|exact HB.out|apply qab|apply qaa|apply qac)) hb);have n3_ := Aside0.mk (hbox);have n4_ := Aside0.mk ((by rw [hg];exact (qao (by repeat (with_reducible first|exact HB.out|apply qab|apply qaa|apply qac))) : w.heap.size ≤ gb168));have n5_ := Aside0.mk ((by rw [hg];exact (qao (by repeat (with_reducible first|exact HB.out|apply qab|apply qaa|apply qac))) : w.heap.size ≤ gb168));clear HO_3;clear HO_6;clear HB;have HO_3 := n0_;have HO_6 := n1_;have HB := n2_;have BK168 := n3_;have GW168 := n4_;have GE168 := n5_;clear n0_ n1_ n2_ n3_ n4_ n5_;clear hb hbox hg;have hcz14_0 : w13.cell? ⟨gb168,0,none⟩ = some (.string (⟨#[]⟩ : ByteArray)) := (qae BK168.out 0).trans rfl;have hcz14_1 : w13.cell? ⟨gb168,1,none⟩ = some (.int .i64 0) := (qae BK168.out 1).trans rfl;have hcz14_2 : w13.cell? ⟨gb168,2,none⟩ = some (.string (⟨#[]⟩ : ByteArray)) := (qae BK168.out 2).trans rfl;have hfz14_0 := qad BK168.out 0;have hfz14_1 := qad BK168.out 1;have hfz14_2 := qad BK168.out 2)|((with_reducible refine qal (f := 112) rfl ?_);refine goesL_ (some 26) rfl rfl Tryz.func112 (by kernel_rfl) rfl #[.agg #[.string ((rd_T46 (rd_L4 l0 x14_1) x20_2).f0),.int .i64 ((rd_T46 (rd_L4 l0 x14_1) x20_2).f1),.string ((rd_T46 (rd_L4 l0 x14_1) x20_2).f2)]] rfl (by first|rfl|(simp only [List.map_toArray,List.map_cons,List.map_nil,List.length_drop,List.length_take];rfl)|simp only [List.map_toArray,List.map_cons,List.map_nil]) ?_;(with_reducible refine (relation_Print.calls k2 ((rd_T46 (rd_L4 l0 x14_1) x20_2).f0) ((rd_T46 (rd_L4 l0 x14_1) x20_2).f1) ((rd_T46 (rd_L4 l0 x14_1) x20_2).f2) t169 _ (by first|exact hG|exact GL.below hG (by repeat (first|(with_reducible first|exact HB.out|apply qab|apply qaa|apply qac|refine qaf ?_ GE168.out)|exact HB.out)))  A11.out).mono ?_);rintro e w15 ⟨rfl,hb⟩;refine ⟨_,rfl,?_⟩;have n0_ := Aside0.mk (Kd.R_below (by (with_reducible repeat (first|apply Kd.R_alloc|apply Kd.R_drewN|apply Kd.R_drew));exact (Kd.R_mono (Kd.R_far (p := ⟨gb168,2,none⟩) (Kd.R_far (p := ⟨gb168,1,none⟩) (Kd.R_far (p := ⟨gb168,0,none⟩) (Kd.R_types HO_3.out BK168.out (by decide)) (fun _ hk => hk.2) (.string ((rd_T46 (rd_L4 l0 x14_1) x20_2).f0))) (fun _ hk => hk.2) (.int .i64 ((rd_T46 (rd_L4 l0 x14_1) x20_2).f1))) (fun _ hk => hk.2) (.string ((rd_T46 (rd_L4 l0 x14_1) x20_2).f2))) (fun _ h_ => h_.1))) hb);have n1_ := Aside0.mk (Kd.R_below (by (with_reducible repeat (first|apply Kd.R_alloc|apply Kd.R_drewN|apply Kd.R_drew));exact (Kd.R_mono (Kd.R_far (p := ⟨gb168,2,none⟩) (Kd.R_far (p := ⟨gb168,1,none⟩) (Kd.R_far (p := ⟨gb168,0,none⟩) (Kd.R_types HO_6.out BK168.out (by decide)) (fun _ hk => hk.2) (.string ((rd_T46 (rd_L4 l0 x14_1) x20_2).f0))) (fun _ hk => hk.2) (.int .i64 ((rd_T46 (rd_L4 l0 x14_1) x20_2).f1))) (fun _ hk => hk.2) (.string ((rd_T46 (rd_L4 l0 x14_1) x20_2).f2))) (fun _ h_ => h_.1))) hb);have n2_ := Aside0.mk (qap (g := gb168) (o := .cells #[.string ((rd_T46 (rd_L4 l0 x14_1) x20_2).f0),.int .i64 ((rd_T46 (rd_L4 l0 x14_1) x20_2).f1),.string ((rd_T46 (rd_L4 l0 x14_1) x20_2).f2)] 46 (0,0)) (by (with_reducible repeat (first|refine qah ?_ _|refine qai ?_|refine qag ?_ _));refine blk_put (cs := #[.string ((rd_T46 (rd_L4 l0 x14_1) x20_2).f0),.int .i64 ((rd_T46 (rd_L4 l0 x14_1) x20_2).f1),.string (⟨#[]⟩ : ByteArray)]) ?_ 2 _ rfl;(with_reducible repeat (first|refine qah ?_ _|refine qai ?_|refine qag ?_ _));refine blk_put (cs := #[.string ((rd_T46 (rd_L4 l0 x14_1) x20_2).f0),.int .i64 0,.string (⟨#[]⟩ : ByteArray)]) ?_ 1 _ rfl;(with_reducible repeat (first|refine qah ?_ _|refine qai ?_|refine qag ?_ _));refine blk_put (cs := #[.string (⟨#[]⟩ : ByteArray),.int .i64 0,.string (⟨#[]⟩ : ByteArray)]) ?_ 0 _ rfl;(with_reducible repeat (first|refine qah ?_ _|refine qai ?_|refine qag ?_ _));exact BK168.out) hb);have n3_ := Aside0.mk (qan (by repeat (first|(with_reducible first|exact HB.out|apply qab|apply qaa|apply qac|refine qaf ?_ GE168.out)|exact HB.out)) hb);clear HO_3;clear HO_6;clear BK168;clear HB;have HO_3 := n0_;have HO_6 := n1_;have BK168 := n2_;have HB := n3_;clear n0_ n1_ n2_ n3_;(try clear hb);(try clear hb2);(try clear hk);(try clear hi))|((with_reducible refine gate_builtin (b := .append) (xs := #[.tmp 24,.tmp 27]) rfl ?_);at_builtin;refine Kd.R_append Kd.string (w0 := w) w.heap.size rfl (.tmp 24) (.tmp 27) 33 9 (.string ⟨#[]⟩) 16 rfl Tryz.underlying33 info9 rfl (by decide) (by omega) u6 x6_2 t169 [.string t169] (fun k_ => some k_ ≠ (u3 : Value).ownBlock) (fun _ => False) rfl rfl ?aP (fun _ hk => hk.elim) ?aF ?aO ?aB ?aS ?aL ?_;(case aP => exact rfl);(case aB => exact (by repeat (first|(with_reducible first|exact HB.out|apply qab|apply qaa|apply qac|refine qaf ?_ GE168.out)|exact HB.out)));(case aF => exact (fun k_ hk => Kd.fresh' (Kd.R_lt (by (with_reducible repeat (first|apply Kd.R_alloc|apply Kd.R_drewN|apply Kd.R_drew));exact HO_3.out)) k_ hk));(case aO => exact (by (with_reducible repeat (first|apply Kd.R_alloc|apply Kd.R_drewN|apply Kd.R_drew));exact HO_6.out));(case aS => exact (qao (by repeat (first|(with_reducible first|exact HB.out|apply qab|apply qaa|apply qac|refine qaf ?_ GE168.out)|exact HB.out))));(case aL => have := LMc12.out;omega);intro v171 w16 ho hb hg hat;rw [← Ny170.out] at ho;have n0_ := Aside0.mk (Kd.R_after (ok := (fun _ => True)) (by (with_reducible repeat (first|apply Kd.R_alloc|apply Kd.R_drewN|apply Kd.R_drew));exact Kd.R_mono HO_3.out (fun _ hk => ⟨trivial,hk⟩)) hg hat);have n1_ := Aside0.mk (blk_grown (g := gb168) (o := .cells #[.string ((rd_T46 (rd_L4 l0 x14_1) x20_2).f0),.int .i64 ((rd_T46 (rd_L4 l0 x14_1) x20_2).f1),.string ((rd_T46 (rd_L4 l0 x14_1) x20_2).f2)] 46 (0,0)) (by (with_reducible repeat (first|refine qah ?_ _|refine qai ?_|refine qag ?_ _));exact BK168.out) hg (Kd.R_ne HO_6.out BK168.out (by decide)));have n2_ := Aside0.mk (hb);have n3_ := Aside0.mk (ho);clear HO_3;clear BK168;clear HB;clear HO_6;have HO_3 := n0_;have BK168 := n1_;have HB := n2_;have HO172 := n3_;clear n0_ n1_ n2_ n3_;clear ho hb hg hat))
             go_roundg k2
             case measure => have := HK1.out;have := HK2.out;omega
             case rel => exact ⟨(y170),(wrap64 (x20_2 + 1)),(by first|rfl|(simp;done)|(simp [*];done)|(simp [qam];done)),H',⟨by have := HK1.out;have := HK2.out;omega⟩,⟨by (with_reducible repeat (first|apply Kd.R_alloc|apply Kd.R_drewN|apply Kd.R_drew));exact Kd.R_mono HO_3.out (fun _ hk => hk.2)⟩,⟨by (with_reducible repeat (first|apply Kd.R_alloc|apply Kd.R_drewN|apply Kd.R_drew));exact HO172.out⟩,⟨by repeat (first|(with_reducible first|exact HB.out|apply qab|apply qaa|apply qac|refine qaf ?_ GE168.out)|exact HB.out)⟩⟩
            ·rw [if_neg c12] at H
             exact absurd H (by simp)
           ·rw [if_neg c10] at H
            exact absurd H (by simp)
          ·rw [if_neg c9] at H
           exact absurd H (by simp)
         ·rw [if_neg c8] at H
          have c8b0 : decide (x20_2 < ((rd_L4 l0 x14_1).length : Int)) = false := decide_eq_false c8
          clear c8
          replace H := Option.bind_eq_some_iff.mp H
          obtain ⟨t173,A170,H⟩ := H
          replace H : (if x3_1.length < 8796093022208 then (depends_Print.l0 k2 (x3_1 ++ [t173]) l0 (l0.length : Int) (wrap64 (x14_1 + 1))) else (none)) = some r := H
          have A17 := Aside0.mk A170
          clear A170
          by_cases c18 : x3_1.length < 8796093022208
          ·rw [if_pos c18] at H
           have LMc18 := Aside0.mk c18
           clear c18
           obtain ⟨y174,hy174⟩ : ∃ y_ : List ByteArray,y_ = (x3_1 ++ [t173]) := ⟨_,rfl⟩
           replace H : (depends_Print.l0 k2 y174 l0 (l0.length : Int) (wrap64 (x14_1 + 1))) = some r := by first|(rw [hy174];with_reducible exact H)|(have H2_ := (Option.bind_some _ _).symm.trans H;rw [hy174];with_reducible exact H2_)|(have H2_ := (Option.bind_some _ _).symm.trans H;with_reducible exact H2_) | with_reducible exact H|(rw [hy174];exact H)|exact H
           have Ny174 := Aside0.mk hy174
           clear hy174
           have H' := Aside0.mk H
           clear H
           obtain ⟨Ao19,co19,eo19⟩ := Kd.R_slice HO_6.out
           subst eo19
           go_wp2_with (first|((with_reducible refine qal (f := 113) rfl ?_);refine goesL_ (some 32) rfl rfl Tryz.func113 (by kernel_rfl) rfl #[.slice Ao19 x6_2.length co19,.string (⟨#[32,124,32]⟩ : ByteArray)] rfl (by first|rfl|(simp only [List.map_toArray,List.map_cons,List.map_nil,List.length_drop,List.length_take];rfl)|simp only [List.map_toArray,List.map_cons,List.map_nil]) ?_;(with_reducible refine (strings_Join.calls _ _ x6_2 (⟨#[32,124,32]⟩ : ByteArray) t173 _ (by first|exact hG|exact GL.below hG (by repeat (with_reducible first|exact HB.out|apply qab|apply qaa|apply qac)))  ?side1 ?side2 A17.out).mono ?_);(case side1 => repeat (first|exact (Kd.R_reads' HO_6.out).2.2|(with_reducible refine Kd.C_alloc ?_ _)|(with_reducible refine Kd.C_drewN ?_ _)|(with_reducible refine Kd.C_drew ?_)));(case side2 => exact (Kd.R_reads' HO_6.out).2.1);rintro e w20 ⟨rfl,hb⟩;refine ⟨_,rfl,?_⟩;have n0_ := Aside0.mk (Kd.R_below (by (with_reducible repeat (first|apply Kd.R_alloc|apply Kd.R_drewN|apply Kd.R_drew));exact HO_3.out) hb);have n1_ := Aside0.mk (Kd.R_below (by (with_reducible repeat (first|apply Kd.R_alloc|apply Kd.R_drewN|apply Kd.R_drew));exact HO_6.out) hb);have n2_ := Aside0.mk (qan (by repeat (with_reducible first|exact HB.out|apply qab|apply qaa|apply qac)) hb);clear HO_3;clear HO_6;clear HB;have HO_3 := n0_;have HO_6 := n1_;have HB := n2_;clear n0_ n1_ n2_;(try clear hb);(try clear hb2);(try clear hk);(try clear hi))|((with_reducible refine gate_builtin (b := .append) (xs := #[.tmp 30,.tmp 33]) rfl ?_);at_builtin;refine Kd.R_append Kd.string (w0 := w) w.heap.size rfl (.tmp 30) (.tmp 33) 33 9 (.string ⟨#[]⟩) 16 rfl Tryz.underlying33 info9 rfl (by decide) (by omega) u3 x3_1 t173 [.string t173] (fun k_ => some k_ ≠ (.slice Ao19 x6_2.length co19 : Value).ownBlock) (fun _ => False) rfl rfl ?aP (fun _ hk => hk.elim) ?aF ?aO ?aB ?aS ?aL ?_;(case aP => exact rfl);(case aB => exact (by repeat (with_reducible first|exact HB.out|apply qab|apply qaa|apply qac)));(case aF => exact (fun k_ hk => Kd.fresh' (Kd.R_lt (by (with_reducible repeat (first|apply Kd.R_alloc|apply Kd.R_drewN|apply Kd.R_drew));exact HO_6.out)) k_ hk));(case aO => exact (by (with_reducible repeat (first|apply Kd.R_alloc|apply Kd.R_drewN|apply Kd.R_drew));exact HO_3.out));(case aS => exact (qao (by repeat (with_reducible first|exact HB.out|apply qab|apply qaa|apply qac))));(case aL => have := LMc18.out;omega);intro v175 w21 ho hb hg hat;rw [← Ny174.out] at ho;have n0_ := Aside0.mk (Kd.R_after (ok := (fun _ => True)) (by (with_reducible repeat (first|apply Kd.R_alloc|apply Kd.R_drewN|apply Kd.R_drew));exact Kd.R_mono HO_6.out (fun _ hk => ⟨trivial,hk⟩)) hg hat);have n1_ := Aside0.mk (hb);have n2_ := Aside0.mk (ho);clear HO_6;clear HB;clear HO_3;have HO_6 := n0_;have HB := n1_;have HO176 := n2_;clear n0_ n1_ n2_;clear ho hb hg hat))
           go_roundg k2
           case measure => have := HK1.out;have := HK2.out;omega
           case rel => exact ⟨(y174),(wrap64 (x14_1 + 1)),(by first|rfl|(simp;done)|(simp [*];done)|(simp [qam];done)),H',⟨by have := HK1.out;have := HK2.out;omega⟩,⟨by (with_reducible repeat (first|apply Kd.R_alloc|apply Kd.R_drewN|apply Kd.R_drew));exact Kd.R_mono HO176.out (fun _ hk => trivial)⟩,⟨by repeat (with_reducible first|exact HB.out|apply qab|apply qaa|apply qac)⟩⟩
          ·rw [if_neg c18] at H
           exact absurd H (by simp)
      ·rw [if_neg c7] at H
       exact absurd H (by simp)
     ·rw [if_neg c6] at H
      exact absurd H (by simp)
    ·rw [if_neg c5] at H
     have c5b0 : decide (x14_1 < (l0.length : Int)) = false := decide_eq_false c5
     clear c5
     replace H := Option.bind_eq_some_iff.mp H
     obtain ⟨t165,A220,H⟩ := H
     replace H : (some t165) = some r := H
     have A22 := Aside0.mk A220
     clear A220
     obtain rfl := Option.some.inj H
     obtain ⟨Ao23,co23,eo23⟩ := Kd.R_slice HO_3.out
     subst eo23
     go_wp2_with (first|((with_reducible refine qal (f := 113) rfl ?_);refine goesL_ (some 37) rfl rfl Tryz.func113 (by kernel_rfl) rfl #[.slice Ao23 x3_1.length co23,.string (⟨#[44,32]⟩ : ByteArray)] rfl (by first|rfl|(simp only [List.map_toArray,List.map_cons,List.map_nil,List.length_drop,List.length_take];rfl)|simp only [List.map_toArray,List.map_cons,List.map_nil]) ?_;(with_reducible refine (strings_Join.calls _ _ x3_1 (⟨#[44,32]⟩ : ByteArray) t165 _ (by first|exact hG|exact GL.below hG (by repeat (with_reducible first|exact HB.out|apply qab|apply qaa|apply qac)))  ?side1 ?side2 A22.out).mono ?_);(case side1 => repeat (first|exact (Kd.R_reads' HO_3.out).2.2|(with_reducible refine Kd.C_alloc ?_ _)|(with_reducible refine Kd.C_drewN ?_ _)|(with_reducible refine Kd.C_drew ?_)));(case side2 => exact (Kd.R_reads' HO_3.out).2.1);rintro e w24 ⟨rfl,hb⟩;refine ⟨_,rfl,?_⟩;have n0_ := Aside0.mk (Kd.R_below (by (with_reducible repeat (first|apply Kd.R_alloc|apply Kd.R_drewN|apply Kd.R_drew));exact HO_3.out) hb);have n1_ := Aside0.mk (qan (by repeat (with_reducible first|exact HB.out|apply qab|apply qaa|apply qac)) hb);clear HO_3;clear HB;have HO_3 := n0_;have HB := n1_;clear n0_ n1_;(try clear hb);(try clear hb2);(try clear hk);(try clear hi)))
     go_ret
     exact ⟨by first|rfl|(simp [qaj,qak]<;>rfl)|(simp [*,qaj,qak]<;>rfl),by repeat (with_reducible first|exact HB.out|apply qab|apply qaa|apply qac)⟩
 ·replace c3 := Bool.eq_false_iff.mpr c3
  subst c3
  have H1 : (some (⟨#[]⟩ : ByteArray)) = some r := by rw [if_neg (show ¬ (false = true) by decide)] at H;exact H
  clear H
  have H := H1
  clear H1
  obtain rfl := Option.some.inj H
  go_enter Tryz.func82,Tryz.ntmps82
  go_wp2_with (first|((with_reducible refine qal (f := 78) rfl ?_);refine goesL_ (some 10) rfl rfl Tryz.func78 (by kernel_rfl) rfl #[.slice A0 l0.length c0] rfl (by first|rfl|(simp only [List.map_toArray,List.map_cons,List.map_nil,List.length_drop,List.length_take];rfl)|simp only [List.map_toArray,List.map_cons,List.map_nil]) ?_;(with_reducible refine (depends_Right.calls k _ _ l0 false _ (by first|exact hG|exact GL.below hG (by repeat (with_reducible first|exact HB.out|apply qab|apply qaa|apply qac)))  ?side1 ?side2 A2.out).mono ?_);(case side1 => repeat (first|exact HR0.out|(with_reducible refine Kd.C_alloc ?_ _)|(with_reducible refine Kd.C_drewN ?_ _)|(with_reducible refine Kd.C_drew ?_)));(case side2 => exact HC0.out);rintro e w25 ⟨rfl,hb⟩;refine ⟨_,rfl,?_⟩;have n0_ := Aside0.mk (qan (by repeat (with_reducible first|exact HB.out|apply qab|apply qaa|apply qac)) hb);clear HB;have HB := n0_;clear n0_;(try clear hb);(try clear hb2);(try clear hk);(try clear hi)))
  go_ret
  exact ⟨by first|rfl|(simp [qaj,qak]<;>rfl)|(simp [*,qaj,qak]<;>rfl),by repeat (with_reducible first|exact HB.out|apply qab|apply qaa|apply qac)⟩
def depends_Join.l0 : Nat → List (List (S46)) → List (S46) → Int → Int → Option (ByteArray)
 | 0,_,_,_,_ => none
 | k + 1,x3,x6,x7,x8 => if x8 < x7 then (if 0 ≤ x8 then (if x8 < (x6.length : Int) then (if x3.length < 5864062014805 then (depends_Join.l0 k (x3 ++ [(([(⟨(rd_T46 x6 x8).f0,(rd_T46 x6 x8).f1,(rd_T46 x6 x8).f2⟩ : S46)] : List (S46)))]) x6 x7 (wrap64 (x8 + 1))) else (none)) else (none)) else (none)) else ((depends_Print.f k x3).bind fun t185 => (some t185))
def depends_Join.f (k : Nat) (l0 : List (S46)) : Option (ByteArray) := depends_Join.l0 k ([] : List (List (S46))) l0 (l0.length : Int) 0
theorem depends_Join.mono_l : ∀ k,(∀ y0 y1 y2 y3,LeO (depends_Join.l0 k y0 y1 y2 y3) (depends_Join.l0 (k + 1) y0 y1 y2 y3))
 | 0 => fun _ _ _ _ r h => by simp [depends_Join.l0] at h
 | k + 1 => by
  have ih0 := depends_Join.mono_l k
  ·intro y0 y1 y2 y3
   unfold depends_Join.l0
   repeat' first
   | (with_reducible exact ih0 _ _ _ _)
   | (with_reducible exact depends_Print.mono _ _)
   | (with_reducible exact LeO.refl _)
   | (with_reducible exact LeO.none _)
   | (with_reducible refine LeO.ite ?_ ?_)
   | (with_reducible refine LeO.bind ?_ (fun _ => ?_))
theorem depends_Join.mono : ∀ a0 k,LeO (depends_Join.f k a0) (depends_Join.f (k + 1) a0) := by
 intro a0 k
 have ih0 := depends_Join.mono_l k
 unfold depends_Join.f
 repeat' first
   | (with_reducible exact ih0 _ _ _ _)
   | (with_reducible exact depends_Print.mono _ _)
   | (with_reducible exact LeO.refl _)
   | (with_reducible exact LeO.none _)
   | (with_reducible refine LeO.ite ?_ ?_)
   | (with_reducible refine LeO.bind ?_ (fun _ => ?_))
theorem depends_Join.calls (k : Nat) (A0 : Option Addr) (c0 : Nat) (l0 : List (S46)) (r : ByteArray) (w : World) (hG : GL w) (hr0 : Kd.C k46 w A0 l0.length l0) (hc0 : l0.length ≤ c0) (h : depends_Join.f k l0 = some r) :
  Calls Tryz.prog 83 #[.slice A0 l0.length c0] w fun e w' => e = .returned (.string r) ∧ Below w.heap.size w w' := by
 have hu46 := Tryz.underlying46
 have HR0 := Aside0.mk hr0
 have HC0 := Aside0.mk hc0
 clear hr0 hc0
 have HB := Aside0.mk (Below.refl w.heap.size w)
 have H : (depends_Join.l0 k ([] : List (List (S46))) l0 (l0.length : Int) 0) = some r := h
 clear h
 have H' := Aside0.mk H
 clear H
 go_enter Tryz.func83,Tryz.ntmps83
 go_wp2
 go_loopg [3,8] k (fun kq v3 v8 w' => ∃ (x3_1 : List (List (S46))) (x8_1 : Int),v8 = .int .i64 x8_1 ∧ Aside0 (depends_Join.l0 kq x3_1 l0 (l0.length : Int) x8_1 = some r) ∧ Aside0 (kq ≤ k) ∧ Aside0 (Kd.S (Kd.slice 46 k46) 47 w' w.heap.size (fun _ => True) v3 x3_1) ∧ Aside0 (Below w.heap.size w w'))
 case atStart => exact ⟨(([] : List (List (S46)))),(0),(by first|rfl|(simp;done)|(simp [*];done)|(simp [qam];done)),H',⟨Nat.le_refl _⟩,⟨by first|exact Kd.S_nil _ _ _ _ _|exact Kd.N_nil _ _ _ _ _|exact Kd.V_nil _ _ _ _ _|exact Kd.Q_nil _ _ _ _ _|exact Kd.R_nil _ _ _ _ _⟩,⟨by repeat (with_reducible first|exact HB.out|apply qab|apply qaa|apply qac)⟩⟩
 case round =>
  clear H'
  obtain ⟨x3_1,x8_1,rfl,HA,HK1,HO_3,HB⟩ := hrel
  cases gk with
  | zero => exact absurd HA.out (by simp [depends_Join.l0])
  | succ k1 =>
   have H := HA.out
   clear HA
   simp only [depends_Join.l0] at H
   by_cases c2 : x8_1 < (l0.length : Int)
   ·rw [if_pos c2] at H
    have c2b0 : decide (x8_1 < (l0.length : Int)) = true := decide_eq_true c2
    clear c2
    by_cases c3 : 0 ≤ x8_1
    ·rw [if_pos c3] at H
     have c3b0 : decide (0 ≤ x8_1) = true := decide_eq_true c3
     clear c3
     by_cases c4 : x8_1 < (l0.length : Int)
     ·rw [if_pos c4] at H
      have c4b0 : decide (x8_1 < (l0.length : Int)) = true := decide_eq_true c4
      clear c4
      obtain ⟨y179,hy179⟩ : ∃ y_ : List (S46),y_ = (([(⟨(rd_T46 l0 x8_1).f0,(rd_T46 l0 x8_1).f1,(rd_T46 l0 x8_1).f2⟩ : S46)] : List (S46))) := ⟨_,rfl⟩
      replace H : (if x3_1.length < 5864062014805 then (depends_Join.l0 k1 (x3_1 ++ [y179]) l0 (l0.length : Int) (wrap64 (x8_1 + 1))) else (none)) = some r := by first|(rw [hy179];with_reducible exact H)|(have H2_ := (Option.bind_some _ _).symm.trans H;rw [hy179];with_reducible exact H2_)|(have H2_ := (Option.bind_some _ _).symm.trans H;with_reducible exact H2_) | with_reducible exact H|(rw [hy179];exact H)|exact H
      have Ny179 := Aside0.mk hy179
      clear hy179
      by_cases c5 : x3_1.length < 5864062014805
      ·rw [if_pos c5] at H
       have LMc5 := Aside0.mk c5
       clear c5
       obtain ⟨y182,hy182⟩ : ∃ y_ : List (List (S46)),y_ = (x3_1 ++ [y179]) := ⟨_,rfl⟩
       replace H : (depends_Join.l0 k1 y182 l0 (l0.length : Int) (wrap64 (x8_1 + 1))) = some r := by first|(rw [hy182];with_reducible exact H)|(have H2_ := (Option.bind_some _ _).symm.trans H;rw [hy182];with_reducible exact H2_)|(have H2_ := (Option.bind_some _ _).symm.trans H;with_reducible exact H2_) | with_reducible exact H|(rw [hy182];exact H)|exact H
       have Ny182 := Aside0.mk hy182
       clear hy182
       have H' := Aside0.mk H
       clear H
       have p177 : 0 ≤ (x8_1 : Int) := of_decide_eq_true (by assumption)
       have q177 : x8_1 < (l0.length : Int) := of_decide_eq_true (by assumption)
       obtain ⟨ad177,e177,hx177_0,hx177_1,hx177_2⟩ := at_T46 HR0.out x8_1 p177 q177
       cases e177
       replace hx177_0 := (HB.out.cell (World.block_lt_of_cell? w _ hx177_0)).trans hx177_0
       replace hx177_1 := (HB.out.cell (World.block_lt_of_cell? w _ hx177_1)).trans hx177_1
       replace hx177_2 := (HB.out.cell (World.block_lt_of_cell? w _ hx177_2)).trans hx177_2
       replace p177 := eq_true p177
       replace q177 := eq_true q177
       go_wp2_with (first|((with_reducible refine gate_dst (N := 5) rfl ?_);refine box_event ?hg (N := 5) ?hd (cs := #[.string (⟨#[]⟩ : ByteArray),.int .i64 0,.string (⟨#[]⟩ : ByteArray)]) (t := 46) ?hr ?_;(case hd => rfl);(case hg => rfl);(case hr => first|(go_simp;done)|(go_simp;rfl));intro gb178 hg w6 hbox hb;have n0_ := Aside0.mk (Kd.S_below (Kd.S_elderB (by (with_reducible repeat (first|apply Kd.S_alloc|apply Kd.S_drewN|apply Kd.S_drew));exact HO_3.out) gb178 (Nat.le_of_eq hg.symm)) hb);have n1_ := Aside0.mk (qan (by repeat (with_reducible first|exact HB.out|apply qab|apply qaa|apply qac)) hb);have n2_ := Aside0.mk (hbox);have n3_ := Aside0.mk ((by rw [hg];exact (qao (by repeat (with_reducible first|exact HB.out|apply qab|apply qaa|apply qac))) : w.heap.size ≤ gb178));have n4_ := Aside0.mk ((by rw [hg];exact (qao (by repeat (with_reducible first|exact HB.out|apply qab|apply qaa|apply qac))) : w.heap.size ≤ gb178));clear HO_3;clear HB;have HO_3 := n0_;have HB := n1_;have BK178 := n2_;have GW178 := n3_;have GE178 := n4_;clear n0_ n1_ n2_ n3_ n4_;clear hb hbox hg;have hcz7_0 : w6.cell? ⟨gb178,0,none⟩ = some (.string (⟨#[]⟩ : ByteArray)) := (qae BK178.out 0).trans rfl;have hcz7_1 : w6.cell? ⟨gb178,1,none⟩ = some (.int .i64 0) := (qae BK178.out 1).trans rfl;have hcz7_2 : w6.cell? ⟨gb178,2,none⟩ = some (.string (⟨#[]⟩ : ByteArray)) := (qae BK178.out 2).trans rfl;have hfz7_0 := qad BK178.out 0;have hfz7_1 := qad BK178.out 1;have hfz7_2 := qad BK178.out 2)|((with_reducible refine gate_dst (N := 14) rfl ?_);refine Kd.R_lit k46 _ 46 ?hg (N := 14) ?hd (xs := ([(⟨(rd_T46 l0 x8_1).f0,(rd_T46 l0 x8_1).f1,(rd_T46 l0 x8_1).f2⟩ : S46)] : List (S46))) (inner := [.string ((rd_T46 l0 x8_1).f0),.int .i64 ((rd_T46 l0 x8_1).f1),.string ((rd_T46 l0 x8_1).f2)]) (ok := fun _ => True) (okp := fun _ => True) ?hr ?hp (fun _ hk => hk) trivial (Below.refl _ _) (Nat.le_refl _) (by simp) ?_;(case hd => rfl);(case hg => rfl);(case hr => first|(go_simp;done)|(go_simp;rfl));(case hp => exact (Reps.c3 (show Kd.M k46 _ _ _ (⟨(rd_T46 l0 x8_1).f0,(rd_T46 l0 x8_1).f1,(rd_T46 l0 x8_1).f2⟩ : S46) [.string ((rd_T46 l0 x8_1).f0),.int .i64 ((rd_T46 l0 x8_1).f1),.string ((rd_T46 l0 x8_1).f2)] from (k46_mkM _ _ _ (⟨(rd_T46 l0 x8_1).f0,(rd_T46 l0 x8_1).f1,(rd_T46 l0 x8_1).f2⟩ : S46) )) (Reps.none _ _)));intro v180 w8 ho9 hb hg_ hnew_;clear hg_ hnew_;(first|rw [← Ny179.out] at ho9|(simp only [Int.reduceToNat] at ho9;rw [← Ny179.out] at ho9));have n0_ := Aside0.mk (Kd.S_elder' (by (with_reducible repeat (first|apply Kd.S_alloc|apply Kd.S_drewN|apply Kd.S_drew));exact (Kd.S_mono (Kd.S_far (p := ⟨gb178,2,none⟩) (Kd.S_far (p := ⟨gb178,1,none⟩) (Kd.S_far (p := ⟨gb178,0,none⟩) (Kd.S_mono HO_3.out (fun k_ hk => (⟨hk,hk.2⟩ : _ ∧ k_ ≠ gb178))) (fun _ hk => hk.2) (.string ((rd_T46 l0 x8_1).f0))) (fun _ hk => hk.2) (.int .i64 ((rd_T46 l0 x8_1).f1))) (fun _ hk => hk.2) (.string ((rd_T46 l0 x8_1).f2))) (fun _ h_ => h_.1))) (Kd.R_base ho9) hb);have n1_ := Aside0.mk (Kd.R_lower (Kd.R_newB ho9 (g := gb178) (o := .cells #[.string ((rd_T46 l0 x8_1).f0),.int .i64 ((rd_T46 l0 x8_1).f1),.string ((rd_T46 l0 x8_1).f2)] 46 (0,0)) (by (with_reducible repeat (first|refine qah ?_ _|refine qai ?_|refine qag ?_ _));refine blk_put (cs := #[.string ((rd_T46 l0 x8_1).f0),.int .i64 ((rd_T46 l0 x8_1).f1),.string (⟨#[]⟩ : ByteArray)]) ?_ 2 _ rfl;(with_reducible repeat (first|refine qah ?_ _|refine qai ?_|refine qag ?_ _));refine blk_put (cs := #[.string ((rd_T46 l0 x8_1).f0),.int .i64 0,.string (⟨#[]⟩ : ByteArray)]) ?_ 1 _ rfl;(with_reducible repeat (first|refine qah ?_ _|refine qai ?_|refine qag ?_ _));refine blk_put (cs := #[.string (⟨#[]⟩ : ByteArray),.int .i64 0,.string (⟨#[]⟩ : ByteArray)]) ?_ 0 _ rfl;(with_reducible repeat (first|refine qah ?_ _|refine qai ?_|refine qag ?_ _));exact BK178.out)) (qao (by repeat (first|(with_reducible first|exact HB.out|apply qab|apply qaa|apply qac|refine qaf ?_ GE178.out)|exact HB.out))));have n2_ := Aside0.mk (qap (g := gb178) (o := .cells #[.string ((rd_T46 l0 x8_1).f0),.int .i64 ((rd_T46 l0 x8_1).f1),.string ((rd_T46 l0 x8_1).f2)] 46 (0,0)) (by (with_reducible repeat (first|refine qah ?_ _|refine qai ?_|refine qag ?_ _));refine blk_put (cs := #[.string ((rd_T46 l0 x8_1).f0),.int .i64 ((rd_T46 l0 x8_1).f1),.string (⟨#[]⟩ : ByteArray)]) ?_ 2 _ rfl;(with_reducible repeat (first|refine qah ?_ _|refine qai ?_|refine qag ?_ _));refine blk_put (cs := #[.string ((rd_T46 l0 x8_1).f0),.int .i64 0,.string (⟨#[]⟩ : ByteArray)]) ?_ 1 _ rfl;(with_reducible repeat (first|refine qah ?_ _|refine qai ?_|refine qag ?_ _));refine blk_put (cs := #[.string (⟨#[]⟩ : ByteArray),.int .i64 0,.string (⟨#[]⟩ : ByteArray)]) ?_ 0 _ rfl;(with_reducible repeat (first|refine qah ?_ _|refine qai ?_|refine qag ?_ _));exact BK178.out) hb);have n3_ := Aside0.mk (qan (by repeat (first|(with_reducible first|exact HB.out|apply qab|apply qaa|apply qac|refine qaf ?_ GE178.out)|exact HB.out)) hb);clear HO_3;clear BK178;clear HB;have HO_3 := n0_;have HO181 := n1_;have BK178 := n2_;have HB := n3_;clear n0_ n1_ n2_ n3_;clear hb ho9;obtain ⟨Ao11,co11,eo11⟩ := Kd.R_slice HO181.out;subst eo11)|((with_reducible refine gate_builtin (b := .append) (xs := #[.tmp 12,.tmp 15]) rfl ?_);at_builtin;refine Kd.S_append (Kd.slice 46 k46) (w0 := w) w.heap.size rfl (.tmp 12) (.tmp 15) 34 47 (.slice none 0 0) 24 rfl Tryz.underlying34 info47 rfl (by decide) (by omega) u3 x3_1 y179 [.slice Ao11 y179.length co11] (fun k_ => k_ ≠ gb178) (fun k_ => some k_ = (.slice Ao11 y179.length co11 : Value).ownBlock) rfl rfl ?aP (fun k_ hk_ => ((Kd.R_mono (ok' := fun k_ => ((fun k_ => k_ ≠ gb178)) k_ ∧ some k_ ≠ (u3 : Value).ownBlock) (Kd.R_apart' (HO181.out) (Kd.S_typed HO_3.out) (by decide)) (fun k_ hk => ⟨hk.1.2,hk.2⟩))).1 k_ hk_.symm) ?aF ?aO ?aB ?aS ?aL ?_;(case aP => exact Kd.M_row (Kd.R_mono (Kd.R_tight rfl (Kd.R_mono (ok' := fun k_ => ((fun k_ => k_ ≠ gb178)) k_ ∧ some k_ ≠ (u3 : Value).ownBlock) (Kd.R_apart' (HO181.out) (Kd.S_typed HO_3.out) (by decide)) (fun k_ hk => ⟨hk.1.2,hk.2⟩))) (fun _ h_ => h_)));(case aB => exact (by repeat (first|(with_reducible first|exact HB.out|apply qab|apply qaa|apply qac|refine qaf ?_ GE178.out)|exact HB.out)));(case aF => exact (fun k_ hk => Kd.freshB (g := gb178) (o := .cells #[.string ((rd_T46 l0 x8_1).f0),.int .i64 ((rd_T46 l0 x8_1).f1),.string ((rd_T46 l0 x8_1).f2)] 46 (0,0)) (by (with_reducible repeat (first|refine qah ?_ _|refine qai ?_|refine qag ?_ _));exact BK178.out) k_ hk));(case aO => exact (by (with_reducible repeat (first|apply Kd.S_alloc|apply Kd.S_drewN|apply Kd.S_drew));exact Kd.S_mono HO_3.out (fun k_ hk => ⟨hk.1.2,fun e_ => hk.2 e_⟩)));(case aS => exact (qao (by repeat (first|(with_reducible first|exact HB.out|apply qab|apply qaa|apply qac|refine qaf ?_ GE178.out)|exact HB.out))));(case aL => have := LMc5.out;omega);intro v183 w10 ho hb hg hat;rw [← Ny182.out] at ho;have n0_ := Aside0.mk (blk_grown (g := gb178) (o := .cells #[.string ((rd_T46 l0 x8_1).f0),.int .i64 ((rd_T46 l0 x8_1).f1),.string ((rd_T46 l0 x8_1).f2)] 46 (0,0)) (by (with_reducible repeat (first|refine qah ?_ _|refine qai ?_|refine qag ?_ _));exact BK178.out) hg (Kd.S_ne HO_3.out BK178.out (by decide)));have n1_ := Aside0.mk (hb);have n2_ := Aside0.mk (ho);clear BK178;clear HB;clear HO_3;clear HO181;have BK178 := n0_;have HB := n1_;have HO184 := n2_;clear n0_ n1_ n2_;clear ho hb hg hat))
       go_roundg k1
       case measure => have := HK1.out;omega
       case rel => exact ⟨(y182),(wrap64 (x8_1 + 1)),(by first|rfl|(simp;done)|(simp [*];done)|(simp [qam];done)),H',⟨by have := HK1.out;omega⟩,⟨by (with_reducible repeat (first|apply Kd.S_alloc|apply Kd.S_drewN|apply Kd.S_drew));exact Kd.S_mono HO184.out (fun _ hk => trivial)⟩,⟨by repeat (first|(with_reducible first|exact HB.out|apply qab|apply qaa|apply qac|refine qaf ?_ GE178.out)|exact HB.out)⟩⟩
      ·rw [if_neg c5] at H
       exact absurd H (by simp)
     ·rw [if_neg c4] at H
      exact absurd H (by simp)
    ·rw [if_neg c3] at H
     exact absurd H (by simp)
   ·rw [if_neg c2] at H
    have c2b0 : decide (x8_1 < (l0.length : Int)) = false := decide_eq_false c2
    clear c2
    replace H := Option.bind_eq_some_iff.mp H
    obtain ⟨t185,A120,H⟩ := H
    replace H : (some t185) = some r := H
    have A12 := Aside0.mk A120
    clear A120
    obtain rfl := Option.some.inj H
    obtain ⟨Ao13,co13,eo13⟩ := Kd.S_slice HO_3.out
    subst eo13
    go_wp2_with (first|((with_reducible refine qal (f := 82) rfl ?_);refine goesL_ (some 19) rfl rfl Tryz.func82 (by kernel_rfl) rfl #[.slice Ao13 x3_1.length co13] rfl (by first|rfl|(simp only [List.map_toArray,List.map_cons,List.map_nil,List.length_drop,List.length_take];rfl)|simp only [List.map_toArray,List.map_cons,List.map_nil]) ?_;(with_reducible refine (depends_Print.calls k1 _ _ x3_1 t185 _ (by first|exact hG|exact GL.below hG (by repeat (with_reducible first|exact HB.out|apply qab|apply qaa|apply qac)))  ?side1 ?side2 A12.out).mono ?_);(case side1 => repeat (first|exact (Kd.S_reads' HO_3.out).2.2|(with_reducible refine Kd.C_alloc ?_ _)|(with_reducible refine Kd.C_drewN ?_ _)|(with_reducible refine Kd.C_drew ?_)));(case side2 => exact (Kd.S_reads' HO_3.out).2.1);rintro e w14 ⟨rfl,hb⟩;refine ⟨_,rfl,?_⟩;have n0_ := Aside0.mk (Kd.S_below (by (with_reducible repeat (first|apply Kd.S_alloc|apply Kd.S_drewN|apply Kd.S_drew));exact HO_3.out) hb);have n1_ := Aside0.mk (qan (by repeat (with_reducible first|exact HB.out|apply qab|apply qaa|apply qac)) hb);clear HO_3;clear HB;have HO_3 := n0_;have HB := n1_;clear n0_ n1_;(try clear hb);(try clear hb2);(try clear hk);(try clear hi)))
    go_ret
    exact ⟨by first|rfl|(simp [qaj,qak]<;>rfl)|(simp [*,qaj,qak]<;>rfl),by repeat (with_reducible first|exact HB.out|apply qab|apply qaa|apply qac)⟩
def stringslite_HasPrefix.f (a0 : ByteArray) (a1 : ByteArray) : Option (Bool) := if (a0.size : Int) ≥ (a1.size : Int) then (if 0 ≤ (a1.size : Int) then (if (a1.size : Int) ≤ (a0.size : Int) then (some ((a0.extract 0 ((a1.size : Int) : Int).toNat).toList == a1.toList)) else (none)) else (none)) else (some false)
theorem stringslite_HasPrefix.calls (a0 : ByteArray) (a1 : ByteArray) (r : Bool) (w : World) (hG : GL w) (h : stringslite_HasPrefix.f a0 a1 = some r) :
  Calls Tryz.prog 203 #[.string a0,.string a1] w fun e w' => e = .returned (.bool r) ∧ Drawn0 w w' := by
 have H : (if (a0.size : Int) ≥ (a1.size : Int) then (if 0 ≤ (a1.size : Int) then (if (a1.size : Int) ≤ (a0.size : Int) then (some ((a0.extract 0 ((a1.size : Int) : Int).toNat).toList == a1.toList)) else (none)) else (none)) else (some false)) = some r := h
 clear h
 by_cases c3 : (a0.size : Int) ≥ (a1.size : Int)
 ·rw [if_pos c3] at H
  have c3b0 : decide ((a1.size : Int) ≤ (a0.size : Int)) = true := decide_eq_true c3
  have c3b1 : decide (a1.size ≤ a0.size) = true := decide_eq_true (Int.ofNat_le.mp c3)
  clear c3
  by_cases c4 : 0 ≤ (a1.size : Int)
  ·rw [if_pos c4] at H
   have c4b0 := eq_true c4
   have c4b1 : decide (0 ≤ (a1.size : Int)) = true := decide_eq_true c4
   clear c4
   by_cases c5 : (a1.size : Int) ≤ (a0.size : Int)
   ·rw [if_pos c5] at H
    have c5b0 := eq_true c5
    have c5b1 : decide ((a1.size : Int) ≤ (a0.size : Int)) = true := decide_eq_true c5
    clear c5
    obtain rfl := Option.some.inj H
    go_enter Tryz.func203,Tryz.ntmps203
    go_wp2
    go_ret
    exact ⟨by first|rfl|(simp;done)|(simp [*];done)|(simp [qam];done),by repeat (first|exact Drawn0.refl _|apply Drawn0.step)⟩
   ·rw [if_neg c5] at H
    exact absurd H (by simp)
  ·rw [if_neg c4] at H
   exact absurd H (by simp)
 ·rw [if_neg c3] at H
  have c3b0 : decide ((a1.size : Int) ≤ (a0.size : Int)) = false := decide_eq_false c3
  have c3b1 : decide (a1.size ≤ a0.size) = false := decide_eq_false (fun h => c3 (Int.ofNat_le.mpr h))
  clear c3
  obtain rfl := Option.some.inj H
  go_enter Tryz.func203,Tryz.ntmps203
  go_wp2
  go_ret
  exact ⟨by first|rfl|(simp;done)|(simp [*];done)|(simp [qam];done),by repeat (first|exact Drawn0.refl _|apply Drawn0.step)⟩
def strings_HasPrefix.f (a0 : ByteArray) (a1 : ByteArray) : Option (Bool) := (stringslite_HasPrefix.f a0 a1).bind fun t190 => (some t190)
theorem strings_HasPrefix.calls (a0 : ByteArray) (a1 : ByteArray) (r : Bool) (w : World) (hG : GL w) (h : strings_HasPrefix.f a0 a1 = some r) :
  Calls Tryz.prog 177 #[.string a0,.string a1] w fun e w' => e = .returned (.bool r) ∧ Drawn0 w w' := by
 have H : ((stringslite_HasPrefix.f a0 a1).bind fun t190 => (some t190)) = some r := h
 clear h
 replace H := Option.bind_eq_some_iff.mp H
 obtain ⟨t190,A30,H⟩ := H
 replace H : (some t190) = some r := H
 have A3 := Aside0.mk A30
 clear A30
 obtain rfl := Option.some.inj H
 go_enter Tryz.func177,Tryz.ntmps177
 go_wp2_with (first|((with_reducible refine qal (f := 203) rfl ?_);refine goesL_ (some 7) rfl rfl Tryz.func203 (by kernel_rfl) rfl #[.string a0,.string a1] rfl (by first|rfl|(simp only [List.map_toArray,List.map_cons,List.map_nil,List.length_drop,List.length_take];rfl)|simp only [List.map_toArray,List.map_cons,List.map_nil]) ?_;(with_reducible refine (stringslite_HasPrefix.calls a0 a1 t190 _ (by first|exact hG|(repeat (first|exact hG|apply GL.drewN|apply GL.drew)))  A3.out).mono ?_);rintro e w' ⟨rfl,⟨nd,rfl⟩⟩;refine ⟨_,rfl,?_⟩))
 go_ret
 exact ⟨by first|rfl|(simp;done)|(simp [*];done)|(simp [qam];done),by repeat (first|exact Drawn0.refl _|apply Drawn0.step)⟩
def slices_Index_string_string.l0 : Nat → List ByteArray → ByteArray → Int → Int → Option (Int)
 | 0,_,_,_,_ => none
 | k + 1,x0,x1,x7,x8 => if x8 < x7 then (if 0 ≤ x8 then (if x8 < (x0.length : Int) then (if x1.toList = (rdOf ByteArray.empty x0 x8).toList then (some x8) else (slices_Index_string_string.l0 k x0 x1 x7 (wrap64 (x8 + 1)))) else (none)) else (none)) else (some (-1))
def slices_Index_string_string.f (k : Nat) (l0 : List ByteArray) (a1 : ByteArray) : Option (Int) := slices_Index_string_string.l0 k l0 a1 (l0.length : Int) 0
theorem slices_Index_string_string.mono_l : ∀ k,(∀ y0 y1 y2 y3,LeO (slices_Index_string_string.l0 k y0 y1 y2 y3) (slices_Index_string_string.l0 (k + 1) y0 y1 y2 y3))
 | 0 => fun _ _ _ _ r h => by simp [slices_Index_string_string.l0] at h
 | k + 1 => by
  have ih0 := slices_Index_string_string.mono_l k
  ·intro y0 y1 y2 y3
   unfold slices_Index_string_string.l0
   repeat' first
   | (with_reducible exact ih0 _ _ _ _)
   | (with_reducible exact LeO.refl _)
   | (with_reducible exact LeO.none _)
   | (with_reducible refine LeO.ite ?_ ?_)
   | (with_reducible refine LeO.bind ?_ (fun _ => ?_))
theorem slices_Index_string_string.mono : ∀ a0 a1 k,LeO (slices_Index_string_string.f k a0 a1) (slices_Index_string_string.f (k + 1) a0 a1) := by
 intro a0 a1 k
 have ih0 := slices_Index_string_string.mono_l k
 unfold slices_Index_string_string.f
 repeat' first
   | (with_reducible exact ih0 _ _ _ _)
   | (with_reducible exact LeO.refl _)
   | (with_reducible exact LeO.none _)
   | (with_reducible refine LeO.ite ?_ ?_)
   | (with_reducible refine LeO.bind ?_ (fun _ => ?_))
theorem slices_Index_string_string.calls (k : Nat) (A0 : Option Addr) (c0 : Nat) (l0 : List ByteArray) (a1 : ByteArray) (r : Int) (w : World) (hG : GL w) (hr0 : Kd.C Kd.string w A0 l0.length l0) (hc0 : l0.length ≤ c0) (h : slices_Index_string_string.f k l0 a1 = some r) :
  Calls Tryz.prog 204 #[.slice A0 l0.length c0,.string a1] w fun e w' => e = .returned (.int .i64 r) ∧ Drawn0 w w' := by
 have HR0 := Aside0.mk hr0
 have HC0 := Aside0.mk hc0
 clear hr0 hc0
 have H : (slices_Index_string_string.l0 k l0 a1 (l0.length : Int) 0) = some r := h
 clear h
 have H' := Aside0.mk H
 clear H
 go_enter Tryz.func204,Tryz.ntmps204
 go_wp2
 go_loopg [8] k (fun kq v8 w' => ∃ (x8_1 : Int),v8 = .int .i64 x8_1 ∧ Aside0 (slices_Index_string_string.l0 kq l0 a1 (l0.length : Int) x8_1 = some r) ∧ Aside0 (kq ≤ k) ∧ Drawn0 w w')
 case atStart => exact ⟨(0),(by first|rfl|(simp;done)|(simp [*];done)|(simp [qam];done)),H',⟨Nat.le_refl _⟩,by repeat (first|exact Drawn0.refl _|apply Drawn0.step)⟩
 case round =>
  clear H'
  try clear c2
  try clear p2
  obtain ⟨x8_1,rfl,HA,HK1,⟨m1,rfl⟩⟩ := hrel
  cases gk with
  | zero => exact absurd HA.out (by simp [slices_Index_string_string.l0])
  | succ k1 =>
   have H := HA.out
   clear HA
   simp only [slices_Index_string_string.l0] at H
   by_cases c3 : x8_1 < (l0.length : Int)
   ·rw [if_pos c3] at H
    have c3b0 : decide (x8_1 < (l0.length : Int)) = true := decide_eq_true c3
    clear c3
    by_cases c4 : 0 ≤ x8_1
    ·rw [if_pos c4] at H
     have c4b0 : decide (0 ≤ x8_1) = true := decide_eq_true c4
     clear c4
     by_cases c5 : x8_1 < (l0.length : Int)
     ·rw [if_pos c5] at H
      have c5b0 : decide (x8_1 < (l0.length : Int)) = true := decide_eq_true c5
      clear c5
      by_cases c6 : a1.toList = (rdOf ByteArray.empty l0 x8_1).toList
      ·rw [if_pos c6] at H
       have c6b0 : (a1.toList == (rdOf ByteArray.empty l0 x8_1).toList) = true := beq_iff_eq.mpr c6
       have c6b1 : (a1.toList != (rdOf ByteArray.empty l0 x8_1).toList) = false := bne_eq_false_iff_eq.mpr c6
       clear c6
       obtain rfl := Option.some.inj H
       have p191 : 0 ≤ (x8_1 : Int) := of_decide_eq_true (by assumption)
       have q191 : x8_1 < (l0.length : Int) := of_decide_eq_true (by assumption)
       obtain ⟨ad191,e191,hx191_0⟩ := Kd.at_string HR0.out x8_1 p191 q191
       cases e191
       replace p191 := eq_true p191
       replace q191 := eq_true q191
       go_wp2
       go_ret
       exact ⟨by first|rfl|(simp;done)|(simp [*];done)|(simp [qam];done),by repeat (first|exact Drawn0.refl _|apply Drawn0.step)⟩
      ·rw [if_neg c6] at H
       have c6b0 : (a1.toList == (rdOf ByteArray.empty l0 x8_1).toList) = false := beq_eq_false_iff_ne.mpr c6
       have c6b1 : (a1.toList != (rdOf ByteArray.empty l0 x8_1).toList) = true := bne_iff_ne.mpr c6
       have H' := Aside0.mk H
       clear H
       have p191 : 0 ≤ (x8_1 : Int) := of_decide_eq_true (by assumption)
       have q191 : x8_1 < (l0.length : Int) := of_decide_eq_true (by assumption)
       obtain ⟨ad191,e191,hx191_0⟩ := Kd.at_string HR0.out x8_1 p191 q191
       cases e191
       replace p191 := eq_true p191
       replace q191 := eq_true q191
       go_wp2
       go_roundg k1
       case measure => have := HK1.out;omega
       case rel => exact ⟨(wrap64 (x8_1 + 1)),(by first|rfl|(simp;done)|(simp [*];done)|(simp [qam];done)),H',⟨by have := HK1.out;omega⟩,by repeat (first|exact Drawn0.refl _|apply Drawn0.step)⟩
     ·rw [if_neg c5] at H
      exact absurd H (by simp)
    ·rw [if_neg c4] at H
     exact absurd H (by simp)
   ·rw [if_neg c3] at H
    have c3b0 : decide (x8_1 < (l0.length : Int)) = false := decide_eq_false c3
    clear c3
    obtain rfl := Option.some.inj H
    go_wp2
    go_ret
    exact ⟨by first|rfl|(simp;done)|(simp [*];done)|(simp [qam];done),by repeat (first|exact Drawn0.refl _|apply Drawn0.step)⟩
def slices_Contains_string_string.f (k : Nat) (l0 : List ByteArray) (a1 : ByteArray) : Option (Bool) := (slices_Index_string_string.f k l0 a1).bind fun t192 => (some (decide (t192 ≥ 0)))
theorem slices_Contains_string_string.mono : ∀ a0 a1 k,LeO (slices_Contains_string_string.f k a0 a1) (slices_Contains_string_string.f (k + 1) a0 a1) := by
 intro a0 a1 k
 unfold slices_Contains_string_string.f
 repeat' first
   | (with_reducible exact slices_Index_string_string.mono _ _ _)
   | (with_reducible exact LeO.refl _)
   | (with_reducible exact LeO.none _)
   | (with_reducible refine LeO.ite ?_ ?_)
   | (with_reducible refine LeO.bind ?_ (fun _ => ?_))
theorem slices_Contains_string_string.calls (k : Nat) (A0 : Option Addr) (c0 : Nat) (l0 : List ByteArray) (a1 : ByteArray) (r : Bool) (w : World) (hG : GL w) (hr0 : Kd.C Kd.string w A0 l0.length l0) (hc0 : l0.length ≤ c0) (h : slices_Contains_string_string.f k l0 a1 = some r) :
  Calls Tryz.prog 178 #[.slice A0 l0.length c0,.string a1] w fun e w' => e = .returned (.bool r) ∧ Drawn0 w w' := by
 have HR0 := Aside0.mk hr0
 have HC0 := Aside0.mk hc0
 clear hr0 hc0
 have H : ((slices_Index_string_string.f k l0 a1).bind fun t192 => (some (decide (t192 ≥ 0)))) = some r := h
 clear h
 replace H := Option.bind_eq_some_iff.mp H
 obtain ⟨t192,A30,H⟩ := H
 replace H : (some (decide (t192 ≥ 0))) = some r := H
 have A3 := Aside0.mk A30
 clear A30
 obtain rfl := Option.some.inj H
 go_enter Tryz.func178,Tryz.ntmps178
 go_wp2_with (first|((with_reducible refine qal (f := 204) rfl ?_);refine goesL_ (some 7) rfl rfl Tryz.func204 (by kernel_rfl) rfl #[.slice A0 l0.length c0,.string a1] rfl (by first|rfl|(simp only [List.map_toArray,List.map_cons,List.map_nil,List.length_drop,List.length_take];rfl)|simp only [List.map_toArray,List.map_cons,List.map_nil]) ?_;(with_reducible refine (slices_Index_string_string.calls k _ _ l0 a1 t192 _ (by first|exact hG|(repeat (first|exact hG|apply GL.drewN|apply GL.drew)))  ?side1 ?side2 A3.out).mono ?_);(case side1 => repeat (first|exact HR0.out|(with_reducible refine Kd.C_alloc ?_ _)|(with_reducible refine Kd.C_drewN ?_ _)|(with_reducible refine Kd.C_drew ?_)));(case side2 => exact HC0.out);rintro e w' ⟨rfl,⟨nd,rfl⟩⟩;refine ⟨_,rfl,?_⟩))
 go_ret
 exact ⟨by first|rfl|(simp;done)|(simp [*];done)|(simp [qam];done),by repeat (first|exact Drawn0.refl _|apply Drawn0.step)⟩
end Go.Proofs.YtiidmjmkgjfaeaaGreatDoor.PA
