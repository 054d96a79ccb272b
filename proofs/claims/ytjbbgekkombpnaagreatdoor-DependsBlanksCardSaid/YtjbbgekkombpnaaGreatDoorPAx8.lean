
import Derived.Test.YtjbbgekkombpnaaGreatDoorPAx0
import Derived.Test.YtjbbgekkombpnaaGreatDoorPAx2
import Derived.Test.YtjbbgekkombpnaaGreatDoorPAx7
namespace Go.Proofs.YtjbbgekkombpnaaGreatDoor.PA
open Go.RowKit Go.Proofs.YtjbbgekkombpnaaGreatDoorW.PrintWords Go.Proofs.YtjbbgekkombpnaaGreatDoorW.PrintLast Go.Proofs.YtjbbgekkombpnaaGreatDoorW.PrintMore
attribute [local go_sem] max2_int min2_int max_two min_two max_three min_three max_four min_four
set_option maxHeartbeats 8000000
set_option maxRecDepth 100000
set_option linter.unusedVariables false
set_option linter.unusedSimpArgs false
def relation_Print.f (k : Nat) (a0_0 : ByteArray) (a0_1 : Int) (a0_2 : ByteArray) : Option (ByteArray) := (relation_Right.f k a0_0 a0_1 a0_2).bind fun t171 => (if t171 = true then (if a0_1 = 0 then (some a0_0) else (if a0_0.size + 2 ≤ 9223372036854775807 then ((relation_Sign.f a0_1).bind fun t172 => (if (a0_0 ++ (⟨#[32,40]⟩ : ByteArray)).size + t172.size ≤ 9223372036854775807 then (if ((a0_0 ++ (⟨#[32,40]⟩ : ByteArray)) ++ t172).size + 1 ≤ 9223372036854775807 then (if (((a0_0 ++ (⟨#[32,40]⟩ : ByteArray)) ++ t172) ++ (⟨#[32]⟩ : ByteArray)).size + a0_2.size ≤ 9223372036854775807 then (if ((((a0_0 ++ (⟨#[32,40]⟩ : ByteArray)) ++ t172) ++ (⟨#[32]⟩ : ByteArray)) ++ a0_2).size + 1 ≤ 9223372036854775807 then (some (((((a0_0 ++ (⟨#[32,40]⟩ : ByteArray)) ++ t172) ++ (⟨#[32]⟩ : ByteArray)) ++ a0_2) ++ (⟨#[41]⟩ : ByteArray))) else (none)) else (none)) else (none)) else (none))) else (none))) else (some (⟨#[]⟩ : ByteArray)))
theorem relation_Print.mono : ∀ a0 a1 a2 k,LeO (relation_Print.f k a0 a1 a2) (relation_Print.f (k + 1) a0 a1 a2) := by
 intro a0 a1 a2 k
 unfold relation_Print.f
 repeat' first
   | (with_reducible exact relation_Right.mono _ _ _ _)
   | (with_reducible exact LeO.refl _)
   | (with_reducible exact LeO.none _)
   | (with_reducible refine LeO.ite ?_ ?_)
   | (with_reducible refine LeO.bind ?_ (fun _ => ?_))
   | exact relation_Right.mono _ _ _ _
   | exact LeO.none _
   | refine LeO.ite ?_ ?_
   | refine LeO.bind ?_ (fun _ => ?_)
def relation_Print.T5 : Bool × List (List Nat × List Nat) := (true,[([],[]),([0],[0]),([1],[1]),([],[]),([3],[3]),([4],[4]),([2,5],[2,5]),([6],[6]),([],[]),([8],[8]),([7,9],[7,9]),([10],[10]),([11,5,0,1,2,3,4,5,6,7,8,9,10,11],[11])])
def relation_Print.B5 : List Nat := [0,1,3,0,8,24,63,127,0,256,1023,2047,4095]
theorem relation_Print.tab5 : rtab .any (opsOf Tryz.f40 5) = relation_Print.T5 := by kernel_rfl
theorem relation_Print.bits5 : waitsOk relation_Print.T5.2 relation_Print.B5 = true := by kernel_rfl
theorem relation_Print.calls (k : Nat) (a0_0 : ByteArray) (a0_1 : Int) (a0_2 : ByteArray) (r : ByteArray) (w : World) (hG : GL w) (h : relation_Print.f k a0_0 a0_1 a0_2 = some r) :
  Calls Tryz.prog 40 #[.agg #[.string a0_0,.int .i64 a0_1,.string a0_2]] w fun e w' => e = .returned (.string r) ∧ Below w.heap.size w w' := by
 have hu39 := Tryz.underlying39
 have HB := Aside0.mk (Below.refl w.heap.size w)
 have H : ((relation_Right.f k a0_0 a0_1 a0_2).bind fun t171 => (if t171 = true then (if a0_1 = 0 then (some a0_0) else (if a0_0.size + 2 ≤ 9223372036854775807 then ((relation_Sign.f a0_1).bind fun t172 => (if (a0_0 ++ (⟨#[32,40]⟩ : ByteArray)).size + t172.size ≤ 9223372036854775807 then (if ((a0_0 ++ (⟨#[32,40]⟩ : ByteArray)) ++ t172).size + 1 ≤ 9223372036854775807 then (if (((a0_0 ++ (⟨#[32,40]⟩ : ByteArray)) ++ t172) ++ (⟨#[32]⟩ : ByteArray)).size + a0_2.size ≤ 9223372036854775807 then (if ((((a0_0 ++ (⟨#[32,40]⟩ : ByteArray)) ++ t172) ++ (⟨#[32]⟩ : ByteArray)) ++ a0_2).size + 1 ≤ 9223372036854775807 then (some (((((a0_0 ++ (⟨#[32,40]⟩ : ByteArray)) ++ t172) ++ (⟨#[32]⟩ : ByteArray)) ++ a0_2) ++ (⟨#[41]⟩ : ByteArray))) else (none)) else (none)) else (none)) else (none))) else (none))) else (some (⟨#[]⟩ : ByteArray)))) = some r := h
 clear h
 replace H := Option.bind_eq_some_iff.mp H
 obtain ⟨t171,A20,H⟩ := H
 replace H : (if t171 = true then (if a0_1 = 0 then (some a0_0) else (if a0_0.size + 2 ≤ 9223372036854775807 then ((relation_Sign.f a0_1).bind fun t172 => (if (a0_0 ++ (⟨#[32,40]⟩ : ByteArray)).size + t172.size ≤ 9223372036854775807 then (if ((a0_0 ++ (⟨#[32,40]⟩ : ByteArray)) ++ t172).size + 1 ≤ 9223372036854775807 then (if (((a0_0 ++ (⟨#[32,40]⟩ : ByteArray)) ++ t172) ++ (⟨#[32]⟩ : ByteArray)).size + a0_2.size ≤ 9223372036854775807 then (if ((((a0_0 ++ (⟨#[32,40]⟩ : ByteArray)) ++ t172) ++ (⟨#[32]⟩ : ByteArray)) ++ a0_2).size + 1 ≤ 9223372036854775807 then (some (((((a0_0 ++ (⟨#[32,40]⟩ : ByteArray)) ++ t172) ++ (⟨#[32]⟩ : ByteArray)) ++ a0_2) ++ (⟨#[41]⟩ : ByteArray))) else (none)) else (none)) else (none)) else (none))) else (none))) else (some (⟨#[]⟩ : ByteArray))) = some r := H
 have A2 := Aside0.mk A20
 clear A20
 by_cases c3 : t171 = true
 ·subst c3
  have H1 : (if a0_1 = 0 then (some a0_0) else (if a0_0.size + 2 ≤ 9223372036854775807 then ((relation_Sign.f a0_1).bind fun t172 => (if (a0_0 ++ (⟨#[32,40]⟩ : ByteArray)).size + t172.size ≤ 9223372036854775807 then (if ((a0_0 ++ (⟨#[32,40]⟩ : ByteArray)) ++ t172).size + 1 ≤ 9223372036854775807 then (if (((a0_0 ++ (⟨#[32,40]⟩ : ByteArray)) ++ t172) ++ (⟨#[32]⟩ : ByteArray)).size + a0_2.size ≤ 9223372036854775807 then (if ((((a0_0 ++ (⟨#[32,40]⟩ : ByteArray)) ++ t172) ++ (⟨#[32]⟩ : ByteArray)) ++ a0_2).size + 1 ≤ 9223372036854775807 then (some (((((a0_0 ++ (⟨#[32,40]⟩ : ByteArray)) ++ t172) ++ (⟨#[32]⟩ : ByteArray)) ++ a0_2) ++ (⟨#[41]⟩ : ByteArray))) else (none)) else (none)) else (none)) else (none))) else (none))) = some r := by rw [if_pos rfl] at H;exact H
  clear H
  have H := H1
  clear H1
  by_cases c4 : a0_1 = 0
  ·rw [if_pos c4] at H
   have c4b0 : (a0_1 == 0) = true := beq_iff_eq.mpr c4
   have c4b1 : (a0_1 != 0) = false := bne_eq_false_iff_eq.mpr c4
   clear c4
   obtain rfl := Option.some.inj H
   go_enter Tryz.func40,Tryz.ntmps40
   go_wp2_with (first|((with_reducible refine gate_dst (N := 1) rfl ?_);refine box_event ?hg (N := 1) ?hd (cs := #[.string a0_0,.int .i64 a0_1,.string a0_2]) (t := 39) ?hr ?_;(case hd => rfl);(case hg => rfl);(case hr => first|(go_simp;done)|(go_simp;rfl));intro gb170 hg w5 hbox hb;have n0_ := Aside0.mk (qan (by repeat (with_reducible first|exact HB.out|apply qab|apply qaa|apply qac)) hb);have n1_ := Aside0.mk (hbox);have n2_ := Aside0.mk ((by rw [hg];exact (qao (by repeat (with_reducible first|exact HB.out|apply qab|apply qaa|apply qac))) : w.heap.size ≤ gb170));have n3_ := Aside0.mk ((by rw [hg];exact (qao (by repeat (with_reducible first|exact HB.out|apply qab|apply qaa|apply qac))) : w.heap.size ≤ gb170));clear HB;have HB := n0_;have BK170 := n1_;have GW170 := n2_;have GE170 := n3_;clear n0_ n1_ n2_ n3_;clear hb hbox hg;have hcz6_0 : w5.cell? ⟨gb170,0,none⟩ = some (.string a0_0) := (qaf BK170.out 0).trans rfl;have hcz6_1 : w5.cell? ⟨gb170,1,none⟩ = some (.int .i64 a0_1) := (qaf BK170.out 1).trans rfl;have hcz6_2 : w5.cell? ⟨gb170,2,none⟩ = some (.string a0_2) := (qaf BK170.out 2).trans rfl;have hfz6_0 := qad BK170.out 0;have hfz6_1 := qad BK170.out 1;have hfz6_2 := qad BK170.out 2)|((with_reducible refine qam (f := 39) rfl ?_);refine goesL_ (some 5) rfl rfl Tryz.func39 (by kernel_rfl) rfl #[.agg #[.string a0_0,.int .i64 a0_1,.string a0_2]] rfl (by first|rfl|(simp only [List.map_toArray,List.map_cons,List.map_nil,List.length_drop,List.length_take];rfl)|simp only [List.map_toArray,List.map_cons,List.map_nil]) ?_;(with_reducible refine (relation_Right.calls k a0_0 a0_1 a0_2 true _ (by first|exact hG|exact GL.below hG (by repeat (first|(with_reducible first|exact HB.out|apply qab|apply qaa|apply qac|refine qae ?_ GE170.out)|exact HB.out)))  A2.out).mono ?_);rintro e w7 ⟨rfl,hb⟩;refine ⟨_,rfl,?_⟩;have n0_ := Aside0.mk (qap (g := gb170) (o := .cells #[.string a0_0,.int .i64 a0_1,.string a0_2] 39 (0,0)) (by (with_reducible repeat (first|refine qah ?_ _|refine qai ?_|refine qag ?_ _));exact BK170.out) hb);have n1_ := Aside0.mk (qan (by repeat (first|(with_reducible first|exact HB.out|apply qab|apply qaa|apply qac|refine qae ?_ GE170.out)|exact HB.out)) hb);clear BK170;clear HB;have BK170 := n0_;have HB := n1_;clear n0_ n1_;(try clear hb);(try clear hb2);(try clear hk);(try clear hi);have hcz8_0 : w7.cell? ⟨gb170,0,none⟩ = some (.string a0_0) := (qaf BK170.out 0).trans rfl;have hcz8_1 : w7.cell? ⟨gb170,1,none⟩ = some (.int .i64 a0_1) := (qaf BK170.out 1).trans rfl;have hcz8_2 : w7.cell? ⟨gb170,2,none⟩ = some (.string a0_2) := (qaf BK170.out 2).trans rfl;have hfz8_0 := qad BK170.out 0;have hfz8_1 := qad BK170.out 1;have hfz8_2 := qad BK170.out 2))
   go_ret
   exact ⟨by first|rfl|(simp [qak,qal]<;>rfl)|(simp [*,qak,qal]<;>rfl),by repeat (first|(with_reducible first|exact HB.out|apply qab|apply qaa|apply qac|refine qae ?_ GE170.out)|exact HB.out)⟩
  ·rw [if_neg c4] at H
   have c4b0 : (a0_1 == 0) = false := beq_eq_false_iff_ne.mpr c4
   have c4b1 : (a0_1 != 0) = true := bne_iff_ne.mpr c4
   by_cases c9 : a0_0.size + 2 ≤ 9223372036854775807
   ·rw [if_pos c9] at H
    have c9b0 := eq_true c9
    have c9b1 : decide (a0_0.size + 2 ≤ 9223372036854775807) = true := decide_eq_true c9
    try have c9b2 : (9223372036854775807 < a0_0.size + 2) = False := eq_false (Nat.not_lt.2 c9)
    replace H := Option.bind_eq_some_iff.mp H
    obtain ⟨t172,A100,H⟩ := H
    replace H : (if (a0_0 ++ (⟨#[32,40]⟩ : ByteArray)).size + t172.size ≤ 9223372036854775807 then (if ((a0_0 ++ (⟨#[32,40]⟩ : ByteArray)) ++ t172).size + 1 ≤ 9223372036854775807 then (if (((a0_0 ++ (⟨#[32,40]⟩ : ByteArray)) ++ t172) ++ (⟨#[32]⟩ : ByteArray)).size + a0_2.size ≤ 9223372036854775807 then (if ((((a0_0 ++ (⟨#[32,40]⟩ : ByteArray)) ++ t172) ++ (⟨#[32]⟩ : ByteArray)) ++ a0_2).size + 1 ≤ 9223372036854775807 then (some (((((a0_0 ++ (⟨#[32,40]⟩ : ByteArray)) ++ t172) ++ (⟨#[32]⟩ : ByteArray)) ++ a0_2) ++ (⟨#[41]⟩ : ByteArray))) else (none)) else (none)) else (none)) else (none)) = some r := H
    have A10 := Aside0.mk A100
    clear A100
    by_cases c11 : (a0_0 ++ (⟨#[32,40]⟩ : ByteArray)).size + t172.size ≤ 9223372036854775807
    ·rw [if_pos c11] at H
     have c11b0 := eq_true c11
     have c11b1 : decide ((a0_0 ++ (⟨#[32,40]⟩ : ByteArray)).size + t172.size ≤ 9223372036854775807) = true := decide_eq_true c11
     try have c11b2 : (9223372036854775807 < (a0_0 ++ (⟨#[32,40]⟩ : ByteArray)).size + t172.size) = False := eq_false (Nat.not_lt.2 c11)
     (try (have c11n := c11;simp only [ByteArray.size_append,size_of_lit,List.size_toArray,List.length_cons,List.length_nil,Nat.zero_add,Nat.reduceAdd] at c11n;have c11n1 := eq_false (Nat.not_lt.2 c11n)))
     by_cases c12 : ((a0_0 ++ (⟨#[32,40]⟩ : ByteArray)) ++ t172).size + 1 ≤ 9223372036854775807
     ·rw [if_pos c12] at H
      have c12b0 := eq_true c12
      have c12b1 : decide (((a0_0 ++ (⟨#[32,40]⟩ : ByteArray)) ++ t172).size + 1 ≤ 9223372036854775807) = true := decide_eq_true c12
      try have c12b2 : (9223372036854775807 < ((a0_0 ++ (⟨#[32,40]⟩ : ByteArray)) ++ t172).size + 1) = False := eq_false (Nat.not_lt.2 c12)
      (try (have c12n := c12;simp only [ByteArray.size_append,size_of_lit,List.size_toArray,List.length_cons,List.length_nil,Nat.zero_add,Nat.reduceAdd] at c12n;have c12n1 := eq_false (Nat.not_lt.2 c12n)))
      by_cases c13 : (((a0_0 ++ (⟨#[32,40]⟩ : ByteArray)) ++ t172) ++ (⟨#[32]⟩ : ByteArray)).size + a0_2.size ≤ 9223372036854775807
      ·rw [if_pos c13] at H
       have c13b0 := eq_true c13
       have c13b1 : decide ((((a0_0 ++ (⟨#[32,40]⟩ : ByteArray)) ++ t172) ++ (⟨#[32]⟩ : ByteArray)).size + a0_2.size ≤ 9223372036854775807) = true := decide_eq_true c13
       try have c13b2 : (9223372036854775807 < (((a0_0 ++ (⟨#[32,40]⟩ : ByteArray)) ++ t172) ++ (⟨#[32]⟩ : ByteArray)).size + a0_2.size) = False := eq_false (Nat.not_lt.2 c13)
       (try (have c13n := c13;simp only [ByteArray.size_append,size_of_lit,List.size_toArray,List.length_cons,List.length_nil,Nat.zero_add,Nat.reduceAdd] at c13n;have c13n1 := eq_false (Nat.not_lt.2 c13n)))
       by_cases c14 : ((((a0_0 ++ (⟨#[32,40]⟩ : ByteArray)) ++ t172) ++ (⟨#[32]⟩ : ByteArray)) ++ a0_2).size + 1 ≤ 9223372036854775807
       ·rw [if_pos c14] at H
        have c14b0 := eq_true c14
        have c14b1 : decide (((((a0_0 ++ (⟨#[32,40]⟩ : ByteArray)) ++ t172) ++ (⟨#[32]⟩ : ByteArray)) ++ a0_2).size + 1 ≤ 9223372036854775807) = true := decide_eq_true c14
        try have c14b2 : (9223372036854775807 < ((((a0_0 ++ (⟨#[32,40]⟩ : ByteArray)) ++ t172) ++ (⟨#[32]⟩ : ByteArray)) ++ a0_2).size + 1) = False := eq_false (Nat.not_lt.2 c14)
        (try (have c14n := c14;simp only [ByteArray.size_append,size_of_lit,List.size_toArray,List.length_cons,List.length_nil,Nat.zero_add,Nat.reduceAdd] at c14n;have c14n1 := eq_false (Nat.not_lt.2 c14n)))
        obtain rfl := Option.some.inj H
        go_enter Tryz.func40,Tryz.ntmps40
        try go_wp2_with (first|((with_reducible refine gate_dst (N := 1) rfl ?_);refine box_event ?hg (N := 1) ?hd (cs := #[.string a0_0,.int .i64 a0_1,.string a0_2]) (t := 39) ?hr ?_;(case hd => rfl);(case hg => rfl);(case hr => first|(go_simp;done)|(go_simp;rfl));intro gb170 hg w15 hbox hb;have n0_ := Aside0.mk (qan (by repeat (with_reducible first|exact HB.out|apply qab|apply qaa|apply qac)) hb);have n1_ := Aside0.mk (hbox);have n2_ := Aside0.mk ((by rw [hg];exact (qao (by repeat (with_reducible first|exact HB.out|apply qab|apply qaa|apply qac))) : w.heap.size ≤ gb170));have n3_ := Aside0.mk ((by rw [hg];exact (qao (by repeat (with_reducible first|exact HB.out|apply qab|apply qaa|apply qac))) : w.heap.size ≤ gb170));clear HB;have HB := n0_;have BK170 := n1_;have GW170 := n2_;have GE170 := n3_;clear n0_ n1_ n2_ n3_;clear hb hbox hg;have hcz16_0 : w15.cell? ⟨gb170,0,none⟩ = some (.string a0_0) := (qaf BK170.out 0).trans rfl;have hcz16_1 : w15.cell? ⟨gb170,1,none⟩ = some (.int .i64 a0_1) := (qaf BK170.out 1).trans rfl;have hcz16_2 : w15.cell? ⟨gb170,2,none⟩ = some (.string a0_2) := (qaf BK170.out 2).trans rfl;have hfz16_0 := qad BK170.out 0;have hfz16_1 := qad BK170.out 1;have hfz16_2 := qad BK170.out 2)|((with_reducible refine qam (f := 39) rfl ?_);refine goesL_ (some 5) rfl rfl Tryz.func39 (by kernel_rfl) rfl #[.agg #[.string a0_0,.int .i64 a0_1,.string a0_2]] rfl (by first|rfl|(simp only [List.map_toArray,List.map_cons,List.map_nil,List.length_drop,List.length_take];rfl)|simp only [List.map_toArray,List.map_cons,List.map_nil]) ?_;(with_reducible refine (relation_Right.calls k a0_0 a0_1 a0_2 true _ (by first|exact hG|exact GL.below hG (by repeat (first|(with_reducible first|exact HB.out|apply qab|apply qaa|apply qac|refine qae ?_ GE170.out)|exact HB.out)))  A2.out).mono ?_);rintro e w17 ⟨rfl,hb⟩;refine ⟨_,rfl,?_⟩;have n0_ := Aside0.mk (qap (g := gb170) (o := .cells #[.string a0_0,.int .i64 a0_1,.string a0_2] 39 (0,0)) (by (with_reducible repeat (first|refine qah ?_ _|refine qai ?_|refine qag ?_ _));exact BK170.out) hb);have n1_ := Aside0.mk (qan (by repeat (first|(with_reducible first|exact HB.out|apply qab|apply qaa|apply qac|refine qae ?_ GE170.out)|exact HB.out)) hb);clear BK170;clear HB;have BK170 := n0_;have HB := n1_;clear n0_ n1_;(try clear hb);(try clear hb2);(try clear hk);(try clear hi);have hcz18_0 : w17.cell? ⟨gb170,0,none⟩ = some (.string a0_0) := (qaf BK170.out 0).trans rfl;have hcz18_1 : w17.cell? ⟨gb170,1,none⟩ = some (.int .i64 a0_1) := (qaf BK170.out 1).trans rfl;have hcz18_2 : w17.cell? ⟨gb170,2,none⟩ = some (.string a0_2) := (qaf BK170.out 2).trans rfl;have hfz18_0 := qad BK170.out 0;have hfz18_1 := qad BK170.out 1;have hfz18_2 := qad BK170.out 2))
        have n0_ := Aside0.mk (qai BK170.out)
        have n1_ := Aside0.mk (qac HB.out)
        clear BK170
        clear HB
        have BK170 := n0_
        have HB := n1_
        clear n0_ n1_
        refine start_ (n := 13) (S := fun w' => w'.cell? ⟨gb170,0,none⟩ = some (.string a0_0) ∧ w'.cell? ⟨gb170,1,none⟩ = some (.int .i64 a0_1) ∧ w'.cell? ⟨gb170,2,none⟩ = some (.string a0_2)) (ds := []) #[false,false,false,false,false,false,false,false,false,false,false,false,false] (by kernel_rfl) rfl rfl ⟨(qaf BK170.out 0).trans rfl,(qaf BK170.out 1).trans rfl,(qaf BK170.out 2).trans rfl⟩ (fun hHeld => ?_);refine with_tabW relation_Print.tab5 relation_Print.bits5 (fun HT_ HW_ => ?_)
        generalize w17.drew = w19 at BK170 HB hHeld ⊢
        refine pure_ (i := 0) (N := some 13) (v := ?_) (a' := ?_) #[true,false,false,false,false,false,false,false,false,false,false,false,false] rfl rfl (any_of HT_.out (by kernel_rfl)) (fun _ _ _ h => h) (Or.inl ⟨by rfl,?_⟩) ?_ ?_
        rotate_left
        ·intro w'
         go_simp
         with_reducible rfl
        rotate_left
        ·simp only [Act.put,List.setIfInBounds_toArray,List.set_cons_zero,List.set_cons_succ,i64_w,i32_w]
         rfl
        refine pure_ (i := 3) (N := some 16) (v := ?_) (a' := ?_) #[true,false,false,true,false,false,false,false,false,false,false,false,false] rfl rfl (any_of HT_.out (by kernel_rfl)) (fun _ _ _ h => h) (Or.inl ⟨by rfl,?_⟩) ?_ ?_
        rotate_left
        ·intro w'
         go_simp
         with_reducible rfl
        rotate_left
        ·simp only [Act.put,List.setIfInBounds_toArray,List.set_cons_zero,List.set_cons_succ,i64_w,i32_w]
         rfl
        refine pure_ (i := 8) (N := some 21) (v := ?_) (a' := ?_) #[true,false,false,true,false,false,false,false,true,false,false,false,false] rfl rfl (any_of HT_.out (by kernel_rfl)) (fun _ _ _ h => h) (Or.inl ⟨by rfl,?_⟩) ?_ ?_
        rotate_left
        ·intro w'
         go_simp
         with_reducible rfl
        rotate_left
        ·simp only [Act.put,List.setIfInBounds_toArray,List.set_cons_zero,List.set_cons_succ,i64_w,i32_w]
         rfl
        refine take_ (i := 1) (N := some 14) (v := ?_) (a' := ?_) #[true,true,false,true,false,false,false,false,true,false,false,false,false] rfl rfl (take_ofW HT_.out HW_.out (by kernel_rfl)) (fun _ _ _ h => h) (Or.inl ⟨by rfl,?_⟩) hHeld ?_ ?_
        rotate_left
        ·rintro w' ⟨s0,s1,s2⟩
         go_simp
         with_reducible rfl
        rotate_left
        ·simp only [Act.put,List.setIfInBounds_toArray,List.set_cons_zero,List.set_cons_succ,i64_w,i32_w]
         rfl
        refine pure_ (i := 2) (N := some 15) (v := ?_) (a' := ?_) #[true,true,true,true,false,false,false,false,true,false,false,false,false] rfl rfl (any_of HT_.out (by kernel_rfl)) (fun _ _ _ h => h) (Or.inl ⟨by rfl,?_⟩) ?_ ?_
        rotate_left
        ·intro w'
         go_simp
         with_reducible rfl
        rotate_left
        ·simp only [Act.put,List.setIfInBounds_toArray,List.set_cons_zero,List.set_cons_succ,i64_w,i32_w]
         rfl
        refine take_ (i := 4) (N := some 17) (v := ?_) (a' := ?_) #[true,true,true,true,true,false,false,false,true,false,false,false,false] rfl rfl (take_ofW HT_.out HW_.out (by kernel_rfl)) (fun _ _ _ h => h) (Or.inl ⟨by rfl,?_⟩) hHeld ?_ ?_
        rotate_left
        ·rintro w' ⟨s0,s1,s2⟩
         go_simp
         with_reducible rfl
        rotate_left
        ·simp only [Act.put,List.setIfInBounds_toArray,List.set_cons_zero,List.set_cons_succ,i64_w,i32_w]
         rfl
        refine take_ (i := 9) (N := some 22) (v := ?_) (a' := ?_) #[true,true,true,true,true,false,false,false,true,true,false,false,false] rfl rfl (take_ofW HT_.out HW_.out (by kernel_rfl)) (fun _ _ _ h => h) (Or.inl ⟨by rfl,?_⟩) hHeld ?_ ?_
        rotate_left
        ·rintro w' ⟨s0,s1,s2⟩
         go_simp
         with_reducible rfl
        rotate_left
        ·simp only [Act.put,List.setIfInBounds_toArray,List.set_cons_zero,List.set_cons_succ,i64_w,i32_w]
         rfl
        refine one_ (i := 5) (N := some 18) #[true,true,true,true,true,true,false,false,true,true,false,false,false] rfl rfl (one_of HT_.out (by kernel_rfl)) (by decide) (fun K hK => ?_)
        refine goes_ Tryz.func65 (by kernel_rfl) rfl #[.int .i64 a0_1] (by rfl) rfl rfl (by first|rfl|(simp only [List.map_toArray,List.map_cons,List.map_nil,List.length_drop,List.length_take];rfl)|simp only [List.map_toArray,List.map_cons,List.map_nil]) ?_
        with_reducible refine (relation_Sign.calls a0_1 t172 _ (by first|exact hG|exact GL.below hG (by repeat (first|(with_reducible first|exact HB.out|apply qab|apply qaa|apply qac|refine qae ?_ GE170.out)|exact HB.out)))  A10.out).mono ?_
        rintro e w20 ⟨rfl,hb⟩
        refine ⟨_,rfl,?_⟩
        have n0_ := Aside0.mk (qap (g := gb170) (o := .cells #[.string a0_0,.int .i64 a0_1,.string a0_2] 39 (0,0)) (by (with_reducible repeat (first|refine qah ?_ _|refine qai ?_|refine qag ?_ _));exact BK170.out) hb)
        have n1_ := Aside0.mk (qan (by repeat (first|(with_reducible first|exact HB.out|apply qab|apply qaa|apply qac|refine qae ?_ GE170.out)|exact HB.out)) hb)
        clear BK170
        clear HB
        have BK170 := n0_
        have HB := n1_
        clear n0_ n1_
        (try clear hb)
        (try clear hb2)
        (try clear hk)
        (try clear hi)
        refine hK.out _ _ ⟨(qaf BK170.out 0).trans rfl,(qaf BK170.out 1).trans rfl,(qaf BK170.out 2).trans rfl⟩ (fun hHeld => ?_)
        clear hK K
        refine norm_ (a' := ?_) ?_ ?_
        rotate_left
        ·show Act.put _ (some 18) _ = _
         simp only [Act.put,List.setIfInBounds_toArray,List.set_cons_zero,List.set_cons_succ,i64_w,i32_w]
         rfl
        refine pure_ (i := 6) (N := some 19) (v := ?_) (a' := ?_) #[true,true,true,true,true,true,true,false,true,true,false,false,false] rfl rfl (any_of HT_.out (by kernel_rfl)) (fun _ _ _ h => h) (Or.inl ⟨by rfl,?_⟩) ?_ ?_
        rotate_left
        ·intro w'
         go_simp
         with_reducible rfl
        rotate_left
        ·simp only [Act.put,List.setIfInBounds_toArray,List.set_cons_zero,List.set_cons_succ,i64_w,i32_w]
         rfl
        refine pure_ (i := 7) (N := some 20) (v := ?_) (a' := ?_) #[true,true,true,true,true,true,true,true,true,true,false,false,false] rfl rfl (any_of HT_.out (by kernel_rfl)) (fun _ _ _ h => h) (Or.inl ⟨by rfl,?_⟩) ?_ ?_
        rotate_left
        ·intro w'
         go_simp
         with_reducible rfl
        rotate_left
        ·simp only [Act.put,List.setIfInBounds_toArray,List.set_cons_zero,List.set_cons_succ,i64_w,i32_w]
         rfl
        refine pure_ (i := 10) (N := some 23) (v := ?_) (a' := ?_) #[true,true,true,true,true,true,true,true,true,true,true,false,false] rfl rfl (any_of HT_.out (by kernel_rfl)) (fun _ _ _ h => h) (Or.inl ⟨by rfl,?_⟩) ?_ ?_
        rotate_left
        ·intro w'
         go_simp
         with_reducible rfl
        rotate_left
        ·simp only [Act.put,List.setIfInBounds_toArray,List.set_cons_zero,List.set_cons_succ,i64_w,i32_w]
         rfl
        refine pure_ (i := 11) (N := some 24) (v := ?_) (a' := ?_) #[true,true,true,true,true,true,true,true,true,true,true,true,false] rfl rfl (any_of HT_.out (by kernel_rfl)) (fun _ _ _ h => h) (Or.inl ⟨by rfl,?_⟩) ?_ ?_
        rotate_left
        ·intro w'
         go_simp
         with_reducible rfl
        rotate_left
        ·simp only [Act.put,List.setIfInBounds_toArray,List.set_cons_zero,List.set_cons_succ,i64_w,i32_w]
         rfl
        refine pure_ (i := 12) (N := some 2) (v := ?_) (a' := ?_) #[true,true,true,true,true,true,true,true,true,true,true,true,true] rfl rfl (any_of HT_.out (by kernel_rfl)) (fun _ _ _ h => h) (Or.inl ⟨by rfl,?_⟩) ?_ ?_
        rotate_left
        ·intro w'
         go_simp
         with_reducible rfl
        rotate_left
        ·simp only [Act.put,List.setIfInBounds_toArray,List.set_cons_zero,List.set_cons_succ,i64_w,i32_w]
         rfl
        refine done_ (done_of HT_.out (by kernel_rfl)) ?_
        try go_wp2
        go_ret
        exact ⟨by first|rfl|(simp [qak,qal]<;>rfl)|(simp [*,qak,qal]<;>rfl),by repeat (first|(with_reducible first|exact HB.out|apply qab|apply qaa|apply qac|refine qae ?_ GE170.out)|exact HB.out)⟩
       ·rw [if_neg c14] at H
        exact absurd H (by simp)
      ·rw [if_neg c13] at H
       exact absurd H (by simp)
     ·rw [if_neg c12] at H
      exact absurd H (by simp)
    ·rw [if_neg c11] at H
     exact absurd H (by simp)
   ·rw [if_neg c9] at H
    exact absurd H (by simp)
 ·replace c3 := Bool.eq_false_iff.mpr c3
  subst c3
  have H1 : (some (⟨#[]⟩ : ByteArray)) = some r := by rw [if_neg (show ¬ (false = true) by decide)] at H;exact H
  clear H
  have H := H1
  clear H1
  obtain rfl := Option.some.inj H
  go_enter Tryz.func40,Tryz.ntmps40
  go_wp2_with (first|((with_reducible refine gate_dst (N := 1) rfl ?_);refine box_event ?hg (N := 1) ?hd (cs := #[.string a0_0,.int .i64 a0_1,.string a0_2]) (t := 39) ?hr ?_;(case hd => rfl);(case hg => rfl);(case hr => first|(go_simp;done)|(go_simp;rfl));intro gb170 hg w21 hbox hb;have n0_ := Aside0.mk (qan (by repeat (with_reducible first|exact HB.out|apply qab|apply qaa|apply qac)) hb);have n1_ := Aside0.mk (hbox);have n2_ := Aside0.mk ((by rw [hg];exact (qao (by repeat (with_reducible first|exact HB.out|apply qab|apply qaa|apply qac))) : w.heap.size ≤ gb170));have n3_ := Aside0.mk ((by rw [hg];exact (qao (by repeat (with_reducible first|exact HB.out|apply qab|apply qaa|apply qac))) : w.heap.size ≤ gb170));clear HB;have HB := n0_;have BK170 := n1_;have GW170 := n2_;have GE170 := n3_;clear n0_ n1_ n2_ n3_;clear hb hbox hg;have hcz22_0 : w21.cell? ⟨gb170,0,none⟩ = some (.string a0_0) := (qaf BK170.out 0).trans rfl;have hcz22_1 : w21.cell? ⟨gb170,1,none⟩ = some (.int .i64 a0_1) := (qaf BK170.out 1).trans rfl;have hcz22_2 : w21.cell? ⟨gb170,2,none⟩ = some (.string a0_2) := (qaf BK170.out 2).trans rfl;have hfz22_0 := qad BK170.out 0;have hfz22_1 := qad BK170.out 1;have hfz22_2 := qad BK170.out 2)|((with_reducible refine qam (f := 39) rfl ?_);refine goesL_ (some 5) rfl rfl Tryz.func39 (by kernel_rfl) rfl #[.agg #[.string a0_0,.int .i64 a0_1,.string a0_2]] rfl (by first|rfl|(simp only [List.map_toArray,List.map_cons,List.map_nil,List.length_drop,List.length_take];rfl)|simp only [List.map_toArray,List.map_cons,List.map_nil]) ?_;(with_reducible refine (relation_Right.calls k a0_0 a0_1 a0_2 false _ (by first|exact hG|exact GL.below hG (by repeat (first|(with_reducible first|exact HB.out|apply qab|apply qaa|apply qac|refine qae ?_ GE170.out)|exact HB.out)))  A2.out).mono ?_);rintro e w23 ⟨rfl,hb⟩;refine ⟨_,rfl,?_⟩;have n0_ := Aside0.mk (qap (g := gb170) (o := .cells #[.string a0_0,.int .i64 a0_1,.string a0_2] 39 (0,0)) (by (with_reducible repeat (first|refine qah ?_ _|refine qai ?_|refine qag ?_ _));exact BK170.out) hb);have n1_ := Aside0.mk (qan (by repeat (first|(with_reducible first|exact HB.out|apply qab|apply qaa|apply qac|refine qae ?_ GE170.out)|exact HB.out)) hb);clear BK170;clear HB;have BK170 := n0_;have HB := n1_;clear n0_ n1_;(try clear hb);(try clear hb2);(try clear hk);(try clear hi)))
  go_ret
  exact ⟨by first|rfl|(simp [qak,qal]<;>rfl)|(simp [*,qak,qal]<;>rfl),by repeat (first|(with_reducible first|exact HB.out|apply qab|apply qaa|apply qac|refine qae ?_ GE170.out)|exact HB.out)⟩
mutual
def depends_Print.l0 : Nat → List ByteArray → List (List (S39)) → Int → Int → Option (ByteArray)
 | 0,_,_,_,_ => none
 | k + 1,x3,x12,x13,x14 => if x14 < x13 then (if 0 ≤ x14 then (if x14 < (x12.length : Int) then (depends_Print.l1 k x3 ([] : List ByteArray) x12 x13 x14 (rd_L4 x12 x14) ((rd_L4 x12 x14).length : Int) 0) else (none)) else (none)) else ((strings_Join.f x3 (⟨#[44,32]⟩ : ByteArray)).bind fun t174 => (some t174))
def depends_Print.l1 : Nat → List ByteArray → List ByteArray → List (List (S39)) → Int → Int → List (S39) → Int → Int → Option (ByteArray)
 | 0,_,_,_,_,_,_,_,_ => none
 | k + 1,x3,x6,x12,x13,x14,x18,x19,x20 => if x20 < x19 then (if 0 ≤ x20 then (if x20 < (x18.length : Int) then ((relation_Print.f k ((rd_T39 x18 x20).f0) ((rd_T39 x18 x20).f1) ((rd_T39 x18 x20).f2)).bind fun t178 => (if x6.length < 8796093022208 then (depends_Print.l1 k x3 (x6 ++ [t178]) x12 x13 x14 x18 x19 (wrap64 (x20 + 1))) else (none))) else (none)) else (none)) else ((strings_Join.f x6 (⟨#[32,124,32]⟩ : ByteArray)).bind fun t182 => (if x3.length < 8796093022208 then (depends_Print.l0 k (x3 ++ [t182]) x12 x13 (wrap64 (x14 + 1))) else (none)))
end
def depends_Print.f (k : Nat) (l0 : List (List (S39))) : Option (ByteArray) := (depends_Right.f k l0).bind fun t173 => (if t173 = true then (depends_Print.l0 k ([] : List ByteArray) l0 (l0.length : Int) 0) else (some (⟨#[]⟩ : ByteArray)))
theorem depends_Print.mono_l : ∀ k,(∀ y0 y1 y2 y3,LeO (depends_Print.l0 k y0 y1 y2 y3) (depends_Print.l0 (k + 1) y0 y1 y2 y3)) ∧ (∀ y0 y1 y2 y3 y4 y5 y6 y7,LeO (depends_Print.l1 k y0 y1 y2 y3 y4 y5 y6 y7) (depends_Print.l1 (k + 1) y0 y1 y2 y3 y4 y5 y6 y7))
 | 0 => ⟨fun _ _ _ _ r h => by simp [depends_Print.l0] at h,fun _ _ _ _ _ _ _ _ r h => by simp [depends_Print.l1] at h⟩
 | k + 1 => by
  obtain ⟨ih0,ih1⟩ := depends_Print.mono_l k
  refine ⟨?_,?_⟩
  ·intro y0 y1 y2 y3
   unfold depends_Print.l0
   repeat' first
   | (with_reducible exact ih0 _ _ _ _)
   | (with_reducible exact ih1 _ _ _ _ _ _ _ _)
   | (with_reducible exact depends_Right.mono _ _)
   | (with_reducible exact relation_Print.mono _ _ _ _)
   | (with_reducible exact LeO.refl _)
   | (with_reducible exact LeO.none _)
   | (with_reducible refine LeO.ite ?_ ?_)
   | (with_reducible refine LeO.bind ?_ (fun _ => ?_))
   | exact ih0 _ _ _ _
   | exact ih1 _ _ _ _ _ _ _ _
   | exact depends_Right.mono _ _
   | exact relation_Print.mono _ _ _ _
   | exact LeO.none _
   | refine LeO.ite ?_ ?_
   | refine LeO.bind ?_ (fun _ => ?_)
  ·intro y0 y1 y2 y3 y4 y5 y6 y7
   unfold depends_Print.l1
   repeat' first
   | (with_reducible exact ih0 _ _ _ _)
   | (with_reducible exact ih1 _ _ _ _ _ _ _ _)
   | (with_reducible exact depends_Right.mono _ _)
   | (with_reducible exact relation_Print.mono _ _ _ _)
   | (with_reducible exact LeO.refl _)
   | (with_reducible exact LeO.none _)
   | (with_reducible refine LeO.ite ?_ ?_)
   | (with_reducible refine LeO.bind ?_ (fun _ => ?_))
   | exact ih0 _ _ _ _
   | exact ih1 _ _ _ _ _ _ _ _
   | exact depends_Right.mono _ _
   | exact relation_Print.mono _ _ _ _
   | exact LeO.none _
   | refine LeO.ite ?_ ?_
   | refine LeO.bind ?_ (fun _ => ?_)
theorem depends_Print.mono : ∀ a0 k,LeO (depends_Print.f k a0) (depends_Print.f (k + 1) a0) := by
 intro a0 k
 obtain ⟨ih0,ih1⟩ := depends_Print.mono_l k
 unfold depends_Print.f
 repeat' first
   | (with_reducible exact ih0 _ _ _ _)
   | (with_reducible exact ih1 _ _ _ _ _ _ _ _)
   | (with_reducible exact depends_Right.mono _ _)
   | (with_reducible exact relation_Print.mono _ _ _ _)
   | (with_reducible exact LeO.refl _)
   | (with_reducible exact LeO.none _)
   | (with_reducible refine LeO.ite ?_ ?_)
   | (with_reducible refine LeO.bind ?_ (fun _ => ?_))
   | exact ih0 _ _ _ _
   | exact ih1 _ _ _ _ _ _ _ _
   | exact depends_Right.mono _ _
   | exact relation_Print.mono _ _ _ _
   | exact LeO.none _
   | refine LeO.ite ?_ ?_
   | refine LeO.bind ?_ (fun _ => ?_)
theorem depends_Print.calls (k : Nat) (A0 : Option Addr) (c0 : Nat) (l0 : List (List (S39))) (r : ByteArray) (w : World) (hG : GL w) (hr0 : Kd.C (Kd.slice 39 k39) w A0 l0.length l0) (hc0 : l0.length ≤ c0) (h : depends_Print.f k l0 = some r) :
  Calls Tryz.prog 18 #[.slice A0 l0.length c0] w fun e w' => e = .returned (.string r) ∧ Below w.heap.size w w' := by
 have hu39 := Tryz.underlying39
 have HR0 := Aside0.mk hr0
 have HC0 := Aside0.mk hc0
 clear hr0 hc0
 have HB := Aside0.mk (Below.refl w.heap.size w)
 have H : ((depends_Right.f k l0).bind fun t173 => (if t173 = true then (depends_Print.l0 k ([] : List ByteArray) l0 (l0.length : Int) 0) else (some (⟨#[]⟩ : ByteArray)))) = some r := h
 clear h
 replace H := Option.bind_eq_some_iff.mp H
 obtain ⟨t173,A20,H⟩ := H
 replace H : (if t173 = true then (depends_Print.l0 k ([] : List ByteArray) l0 (l0.length : Int) 0) else (some (⟨#[]⟩ : ByteArray))) = some r := H
 have A2 := Aside0.mk A20
 clear A20
 by_cases c3 : t173 = true
 ·subst c3
  have H1 : (depends_Print.l0 k ([] : List ByteArray) l0 (l0.length : Int) 0) = some r := by rw [if_pos rfl] at H;exact H
  clear H
  have H := H1
  clear H1
  have H' := Aside0.mk H
  clear H
  go_enter Tryz.func18,Tryz.ntmps18
  go_wp2_with (first|((with_reducible refine qam (f := 17) rfl ?_);refine goesL_ (some 10) rfl rfl Tryz.func17 (by kernel_rfl) rfl #[.slice A0 l0.length c0] rfl (by first|rfl|(simp only [List.map_toArray,List.map_cons,List.map_nil,List.length_drop,List.length_take];rfl)|simp only [List.map_toArray,List.map_cons,List.map_nil]) ?_;(with_reducible refine (depends_Right.calls k _ _ l0 true _ (by first|exact hG|exact GL.below hG (by repeat (with_reducible first|exact HB.out|apply qab|apply qaa|apply qac)))  ?side1 ?side2 A2.out).mono ?_);(case side1 => repeat (first|exact HR0.out|(with_reducible refine Kd.C_alloc ?_ _)|(with_reducible refine Kd.C_drewN ?_ _)|(with_reducible refine Kd.C_drew ?_)));(case side2 => exact HC0.out);rintro e w4 ⟨rfl,hb⟩;refine ⟨_,rfl,?_⟩;have n0_ := Aside0.mk (qan (by repeat (with_reducible first|exact HB.out|apply qab|apply qaa|apply qac)) hb);clear HB;have HB := n0_;clear n0_;(try clear hb);(try clear hb2);(try clear hk);(try clear hi)))
  go_loopg [3,14] k (fun kq v3 v14 w' => ∃ (x3_1 : List ByteArray) (x14_1 : Int),v14 = .int .i64 x14_1 ∧ Aside0 (depends_Print.l0 kq x3_1 l0 (l0.length : Int) x14_1 = some r) ∧ Aside0 (kq ≤ k) ∧ Aside0 (Kd.R Kd.string 9 w' w.heap.size (fun _ => True) v3 x3_1) ∧ Aside0 (Below w.heap.size w w'))
  case atStart => exact ⟨(([] : List ByteArray)),(0),(by first|rfl|(simp;done)|(simp [*];done)|(simp [qaj];done)),H',⟨Nat.le_refl _⟩,⟨by first|exact Kd.R_nil _ _ _ _ _|exact Kd.N_nil _ _ _ _ _|exact Kd.V_nil _ _ _ _ _|exact Kd.Q_nil _ _ _ _ _|exact Kd.S_nil _ _ _ _ _⟩,⟨by repeat (with_reducible first|exact HB.out|apply qab|apply qaa|apply qac)⟩⟩
  case round =>
   clear H'
   try clear c1
   try clear p2
   try clear c3
   obtain ⟨x3_1,x14_1,rfl,HA,HK1,HO_3,HB⟩ := hrel
   cases gk with
   | zero => exact absurd HA.out (by simp [depends_Print.l0])
   | succ k1 =>
    have H := HA.out
    clear HA
    simp only [depends_Print.l0] at H
    by_cases c5 : x14_1 < (l0.length : Int)
    ·rw [if_pos c5] at H
     have c5b0 : decide (x14_1 < (l0.length : Int)) = true := decide_eq_true c5
     clear c5
     by_cases c6 : 0 ≤ x14_1
     ·rw [if_pos c6] at H
      have c6b0 : decide (0 ≤ x14_1) = true := decide_eq_true c6
      clear c6
      by_cases c7 : x14_1 < (l0.length : Int)
      ·rw [if_pos c7] at H
       have c7b0 : decide (x14_1 < (l0.length : Int)) = true := decide_eq_true c7
       clear c7
       have H' := Aside0.mk H
       clear H
       have p175 : 0 ≤ (x14_1 : Int) := of_decide_eq_true (by assumption)
       have q175 : x14_1 < (l0.length : Int) := of_decide_eq_true (by assumption)
       obtain ⟨ad175,A175_0,c175_0,e175,hx175_0,hl175_0,hi175_0⟩ := at_L4 HR0.out x14_1 p175 q175
       cases e175
       replace hx175_0 := (HB.out.cell (World.block_lt_of_cell? w _ hx175_0)).trans hx175_0
       have HR175_0 := Aside0.mk hi175_0
       have HC175_0 := Aside0.mk hl175_0
       clear hi175_0 hl175_0
       replace p175 := eq_true p175
       replace q175 := eq_true q175
       go_wp2
       go_loopg [6,20] k1 (fun kq v6 v20 w' => ∃ (x6_2 : List ByteArray) (x20_2 : Int),v20 = .int .i64 x20_2 ∧ Aside0 (depends_Print.l1 kq x3_1 x6_2 l0 (l0.length : Int) x14_1 (rd_L4 l0 x14_1) ((rd_L4 l0 x14_1).length : Int) x20_2 = some r) ∧ Aside0 (kq ≤ k1) ∧ Aside0 (Kd.R Kd.string 9 w' w.heap.size (fun k_ => some k_ ≠ (v6 : Value).ownBlock) u3 x3_1) ∧ Aside0 (Kd.R Kd.string 9 w' w.heap.size (fun k_ => some k_ ≠ (u3 : Value).ownBlock) v6 x6_2) ∧ Aside0 (Below w.heap.size w w'))
       case atStart => exact ⟨(([] : List ByteArray)),(0),(by first|rfl|(simp;done)|(simp [*];done)|(simp [qaj];done)),H',⟨Nat.le_refl _⟩,⟨by (with_reducible repeat (first|apply Kd.R_alloc|apply Kd.R_drewN|apply Kd.R_drew));exact Kd.R_mono HO_3.out (fun _ hk => (by simp [Value.ownBlock]))⟩,⟨by first|exact Kd.R_nil _ _ _ _ _|exact Kd.N_nil _ _ _ _ _|exact Kd.V_nil _ _ _ _ _|exact Kd.Q_nil _ _ _ _ _|exact Kd.S_nil _ _ _ _ _⟩,⟨by repeat (with_reducible first|exact HB.out|apply qab|apply qaa|apply qac)⟩⟩
       case round =>
        clear H'
        try clear c1
        try clear p1
        try clear q1
        try clear hx1
        try clear p2
        try clear c3
        try clear c5
        try clear c5b0
        try clear c6
        try clear c6b0
        try clear c7
        try clear c7b0
        try clear hx175_0
        try clear p175
        try clear p2
        try clear q175
        obtain ⟨x6_2,x20_2,rfl,HA,HK2,HO_3,HO_6,HB⟩ := hrel
        cases gk with
        | zero => exact absurd HA.out (by simp [depends_Print.l1])
        | succ k2 =>
         have H := HA.out
         clear HA
         simp only [depends_Print.l1] at H
         by_cases c8 : x20_2 < ((rd_L4 l0 x14_1).length : Int)
         ·rw [if_pos c8] at H
          have c8b0 : decide (x20_2 < ((rd_L4 l0 x14_1).length : Int)) = true := decide_eq_true c8
          clear c8
          by_cases c9 : 0 ≤ x20_2
          ·rw [if_pos c9] at H
           have c9b0 : decide (0 ≤ x20_2) = true := decide_eq_true c9
           clear c9
           by_cases c10 : x20_2 < ((rd_L4 l0 x14_1).length : Int)
           ·rw [if_pos c10] at H
            have c10b0 : decide (x20_2 < ((rd_L4 l0 x14_1).length : Int)) = true := decide_eq_true c10
            clear c10
            replace H := Option.bind_eq_some_iff.mp H
            obtain ⟨t178,A110,H⟩ := H
            replace H : (if x6_2.length < 8796093022208 then (depends_Print.l1 k2 x3_1 (x6_2 ++ [t178]) l0 (l0.length : Int) x14_1 (rd_L4 l0 x14_1) ((rd_L4 l0 x14_1).length : Int) (wrap64 (x20_2 + 1))) else (none)) = some r := H
            have A11 := Aside0.mk A110
            clear A110
            by_cases c12 : x6_2.length < 8796093022208
            ·rw [if_pos c12] at H
             have LMc12 := Aside0.mk c12
             clear c12
             obtain ⟨y179,hy179⟩ : ∃ y_ : List ByteArray,y_ = (x6_2 ++ [t178]) := ⟨_,rfl⟩
             replace H : (depends_Print.l1 k2 x3_1 y179 l0 (l0.length : Int) x14_1 (rd_L4 l0 x14_1) ((rd_L4 l0 x14_1).length : Int) (wrap64 (x20_2 + 1))) = some r := by first|(rw [hy179];with_reducible exact H)|(have H2_ := (Option.bind_some _ _).symm.trans H;rw [hy179];with_reducible exact H2_)|(have H2_ := (Option.bind_some _ _).symm.trans H;with_reducible exact H2_) | with_reducible exact H|(rw [hy179];exact H)|exact H
             have Ny179 := Aside0.mk hy179
             clear hy179
             have H' := Aside0.mk H
             clear H
             have p176 : 0 ≤ (x20_2 : Int) := of_decide_eq_true (by assumption)
             have q176 : x20_2 < ((rd_L4 l0 x14_1).length : Int) := of_decide_eq_true (by assumption)
             obtain ⟨ad176,e176,hx176_0,hx176_1,hx176_2⟩ := at_T39 HR175_0.out x20_2 p176 q176
             cases e176
             replace hx176_0 := (HB.out.cell (World.block_lt_of_cell? w _ hx176_0)).trans hx176_0
             replace hx176_1 := (HB.out.cell (World.block_lt_of_cell? w _ hx176_1)).trans hx176_1
             replace hx176_2 := (HB.out.cell (World.block_lt_of_cell? w _ hx176_2)).trans hx176_2
             replace p176 := eq_true p176
             replace q176 := eq_true q176
             go_wp2_with (first|((with_reducible refine gate_dst (N := 8) rfl ?_);refine box_event ?hg (N := 8) ?hd (cs := #[.string (⟨#[]⟩ : ByteArray),.int .i64 0,.string (⟨#[]⟩ : ByteArray)]) (t := 39) ?hr ?_;(case hd => rfl);(case hg => rfl);(case hr => first|(go_simp;done)|(go_simp;rfl));intro gb177 hg w13 hbox hb;have n0_ := Aside0.mk (Kd.R_below (by (with_reducible repeat (first|apply Kd.R_alloc|apply Kd.R_drewN|apply Kd.R_drew));exact HO_3.out) hb);have n1_ := Aside0.mk (Kd.R_below (by (with_reducible repeat (first|apply Kd.R_alloc|apply Kd.R_drewN|apply Kd.R_drew));exact HO_6.out) hb);have n2_ := Aside0.mk (qan (by repeat (with_reducible first|exact HB.out|apply qab|apply qaa|apply qac)) hb);have n3_ := Aside0.mk (hbox);have n4_ := Aside0.mk ((by rw [hg];exact (qao (by repeat (with_reducible first|exact HB.out|apply qab|apply qaa|apply qac))) : w.heap.size ≤ gb177));have n5_ := Aside0.mk ((by rw [hg];exact (qao (by repeat (with_reducible first|exact HB.out|apply qab|apply qaa|apply qac))) : w.heap.size ≤ gb177));clear HO_3;clear HO_6;clear HB;have HO_3 := n0_;have HO_6 := n1_;have HB := n2_;have BK177 := n3_;have GW177 := n4_;have GE177 := n5_;clear n0_ n1_ n2_ n3_ n4_ n5_;clear hb hbox hg;have hcz14_0 : w13.cell? ⟨gb177,0,none⟩ = some (.string (⟨#[]⟩ : ByteArray)) := (qaf BK177.out 0).trans rfl;have hcz14_1 : w13.cell? ⟨gb177,1,none⟩ = some (.int .i64 0) := (qaf BK177.out 1).trans rfl;have hcz14_2 : w13.cell? ⟨gb177,2,none⟩ = some (.string (⟨#[]⟩ : ByteArray)) := (qaf BK177.out 2).trans rfl;have hfz14_0 := qad BK177.out 0;have hfz14_1 := qad BK177.out 1;have hfz14_2 := qad BK177.out 2)|((with_reducible refine qam (f := 40) rfl ?_);refine goesL_ (some 26) rfl rfl Tryz.func40 (by kernel_rfl) rfl #[.agg #[.string ((rd_T39 (rd_L4 l0 x14_1) x20_2).f0),.int .i64 ((rd_T39 (rd_L4 l0 x14_1) x20_2).f1),.string ((rd_T39 (rd_L4 l0 x14_1) x20_2).f2)]] rfl (by first|rfl|(simp only [List.map_toArray,List.map_cons,List.map_nil,List.length_drop,List.length_take];rfl)|simp only [List.map_toArray,List.map_cons,List.map_nil]) ?_;(with_reducible refine (relation_Print.calls k2 ((rd_T39 (rd_L4 l0 x14_1) x20_2).f0) ((rd_T39 (rd_L4 l0 x14_1) x20_2).f1) ((rd_T39 (rd_L4 l0 x14_1) x20_2).f2) t178 _ (by first|exact hG|exact GL.below hG (by repeat (first|(with_reducible first|exact HB.out|apply qab|apply qaa|apply qac|refine qae ?_ GE177.out)|exact HB.out)))  A11.out).mono ?_);rintro e w15 ⟨rfl,hb⟩;refine ⟨_,rfl,?_⟩;have n0_ := Aside0.mk (Kd.R_below (by (with_reducible repeat (first|apply Kd.R_alloc|apply Kd.R_drewN|apply Kd.R_drew));exact (Kd.R_mono (Kd.R_far (p := ⟨gb177,2,none⟩) (Kd.R_far (p := ⟨gb177,1,none⟩) (Kd.R_far (p := ⟨gb177,0,none⟩) (Kd.R_types HO_3.out BK177.out (by decide)) (fun _ hk => hk.2) (.string ((rd_T39 (rd_L4 l0 x14_1) x20_2).f0))) (fun _ hk => hk.2) (.int .i64 ((rd_T39 (rd_L4 l0 x14_1) x20_2).f1))) (fun _ hk => hk.2) (.string ((rd_T39 (rd_L4 l0 x14_1) x20_2).f2))) (fun _ h_ => h_.1))) hb);have n1_ := Aside0.mk (Kd.R_below (by (with_reducible repeat (first|apply Kd.R_alloc|apply Kd.R_drewN|apply Kd.R_drew));exact (Kd.R_mono (Kd.R_far (p := ⟨gb177,2,none⟩) (Kd.R_far (p := ⟨gb177,1,none⟩) (Kd.R_far (p := ⟨gb177,0,none⟩) (Kd.R_types HO_6.out BK177.out (by decide)) (fun _ hk => hk.2) (.string ((rd_T39 (rd_L4 l0 x14_1) x20_2).f0))) (fun _ hk => hk.2) (.int .i64 ((rd_T39 (rd_L4 l0 x14_1) x20_2).f1))) (fun _ hk => hk.2) (.string ((rd_T39 (rd_L4 l0 x14_1) x20_2).f2))) (fun _ h_ => h_.1))) hb);have n2_ := Aside0.mk (qap (g := gb177) (o := .cells #[.string ((rd_T39 (rd_L4 l0 x14_1) x20_2).f0),.int .i64 ((rd_T39 (rd_L4 l0 x14_1) x20_2).f1),.string ((rd_T39 (rd_L4 l0 x14_1) x20_2).f2)] 39 (0,0)) (by (with_reducible repeat (first|refine qah ?_ _|refine qai ?_|refine qag ?_ _));refine blk_put (cs := #[.string ((rd_T39 (rd_L4 l0 x14_1) x20_2).f0),.int .i64 ((rd_T39 (rd_L4 l0 x14_1) x20_2).f1),.string (⟨#[]⟩ : ByteArray)]) ?_ 2 _ rfl;(with_reducible repeat (first|refine qah ?_ _|refine qai ?_|refine qag ?_ _));refine blk_put (cs := #[.string ((rd_T39 (rd_L4 l0 x14_1) x20_2).f0),.int .i64 0,.string (⟨#[]⟩ : ByteArray)]) ?_ 1 _ rfl;(with_reducible repeat (first|refine qah ?_ _|refine qai ?_|refine qag ?_ _));refine blk_put (cs := #[.string (⟨#[]⟩ : ByteArray),.int .i64 0,.string (⟨#[]⟩ : ByteArray)]) ?_ 0 _ rfl;(with_reducible repeat (first|refine qah ?_ _|refine qai ?_|refine qag ?_ _));exact BK177.out) hb);have n3_ := Aside0.mk (qan (by repeat (first|(with_reducible first|exact HB.out|apply qab|apply qaa|apply qac|refine qae ?_ GE177.out)|exact HB.out)) hb);clear HO_3;clear HO_6;clear BK177;clear HB;have HO_3 := n0_;have HO_6 := n1_;have BK177 := n2_;have HB := n3_;clear n0_ n1_ n2_ n3_;(try clear hb);(try clear hb2);(try clear hk);(try clear hi))|((with_reducible refine gate_builtin (b := .append) (xs := #[.tmp 24,.tmp 27]) rfl ?_);at_builtin;refine Kd.R_append Kd.string (w0 := w) w.heap.size rfl (.tmp 24) (.tmp 27) 49 9 (.string ⟨#[]⟩) 16 rfl Tryz.underlying49 info9 rfl (by decide) (by omega) u6 x6_2 t178 [.string t178] (fun k_ => some k_ ≠ (u3 : Value).ownBlock) (fun _ => False) rfl rfl ?aP (fun _ hk => hk.elim) ?aF ?aO ?aB ?aS ?aL ?_;(case aP => exact rfl);(case aB => exact (by repeat (first|(with_reducible first|exact HB.out|apply qab|apply qaa|apply qac|refine qae ?_ GE177.out)|exact HB.out)));(case aF => exact (fun k_ hk => Kd.fresh' (Kd.R_lt (by (with_reducible repeat (first|apply Kd.R_alloc|apply Kd.R_drewN|apply Kd.R_drew));exact HO_3.out)) k_ hk));(case aO => exact (by (with_reducible repeat (first|apply Kd.R_alloc|apply Kd.R_drewN|apply Kd.R_drew));exact HO_6.out));(case aS => exact (qao (by repeat (first|(with_reducible first|exact HB.out|apply qab|apply qaa|apply qac|refine qae ?_ GE177.out)|exact HB.out))));(case aL => have := LMc12.out;omega);intro v180 w16 ho hb hg hat;rw [← Ny179.out] at ho;have n0_ := Aside0.mk (Kd.R_after (ok := (fun _ => True)) (by (with_reducible repeat (first|apply Kd.R_alloc|apply Kd.R_drewN|apply Kd.R_drew));exact Kd.R_mono HO_3.out (fun _ hk => ⟨trivial,hk⟩)) hg hat);have n1_ := Aside0.mk (blk_grown (g := gb177) (o := .cells #[.string ((rd_T39 (rd_L4 l0 x14_1) x20_2).f0),.int .i64 ((rd_T39 (rd_L4 l0 x14_1) x20_2).f1),.string ((rd_T39 (rd_L4 l0 x14_1) x20_2).f2)] 39 (0,0)) (by (with_reducible repeat (first|refine qah ?_ _|refine qai ?_|refine qag ?_ _));exact BK177.out) hg (Kd.R_ne HO_6.out BK177.out (by decide)));have n2_ := Aside0.mk (hb);have n3_ := Aside0.mk (ho);clear HO_3;clear BK177;clear HB;clear HO_6;have HO_3 := n0_;have BK177 := n1_;have HB := n2_;have HO181 := n3_;clear n0_ n1_ n2_ n3_;clear ho hb hg hat))
             go_roundg k2
             case measure => have := HK1.out;have := HK2.out;omega
             case rel => exact ⟨(y179),(wrap64 (x20_2 + 1)),(by first|rfl|(simp;done)|(simp [*];done)|(simp [qaj];done)),H',⟨by have := HK1.out;have := HK2.out;omega⟩,⟨by (with_reducible repeat (first|apply Kd.R_alloc|apply Kd.R_drewN|apply Kd.R_drew));exact Kd.R_mono HO_3.out (fun _ hk => hk.2)⟩,⟨by (with_reducible repeat (first|apply Kd.R_alloc|apply Kd.R_drewN|apply Kd.R_drew));exact HO181.out⟩,⟨by repeat (first|(with_reducible first|exact HB.out|apply qab|apply qaa|apply qac|refine qae ?_ GE177.out)|exact HB.out)⟩⟩
            ·rw [if_neg c12] at H
             exact absurd H (by simp)
           ·rw [if_neg c10] at H
            exact absurd H (by simp)
          ·rw [if_neg c9] at H
           exact absurd H (by simp)
         ·rw [if_neg c8] at H
          have c8b0 : decide (x20_2 < ((rd_L4 l0 x14_1).length : Int)) = false := decide_eq_false c8
          clear c8
          replace H := Option.bind_eq_some_iff.mp H
          obtain ⟨t182,A170,H⟩ := H
          replace H : (if x3_1.length < 8796093022208 then (depends_Print.l0 k2 (x3_1 ++ [t182]) l0 (l0.length : Int) (wrap64 (x14_1 + 1))) else (none)) = some r := H
          have A17 := Aside0.mk A170
          clear A170
          by_cases c18 : x3_1.length < 8796093022208
          ·rw [if_pos c18] at H
           have LMc18 := Aside0.mk c18
           clear c18
           obtain ⟨y183,hy183⟩ : ∃ y_ : List ByteArray,y_ = (x3_1 ++ [t182]) := ⟨_,rfl⟩
           replace H : (depends_Print.l0 k2 y183 l0 (l0.length : Int) (wrap64 (x14_1 + 1))) = some r := by first|(rw [hy183];with_reducible exact H)|(have H2_ := (Option.bind_some _ _).symm.trans H;rw [hy183];with_reducible exact H2_)|(have H2_ := (Option.bind_some _ _).symm.trans H;with_reducible exact H2_) | with_reducible exact H|(rw [hy183];exact H)|exact H
           have Ny183 := Aside0.mk hy183
           clear hy183
           have H' := Aside0.mk H
           clear H
           obtain ⟨Ao19,co19,eo19⟩ := Kd.R_slice HO_6.out
           subst eo19
           go_wp2_with (first|((with_reducible refine qam (f := 41) rfl ?_);refine goesL_ (some 32) rfl rfl Tryz.func41 (by kernel_rfl) rfl #[.slice Ao19 x6_2.length co19,.string (⟨#[32,124,32]⟩ : ByteArray)] rfl (by first|rfl|(simp only [List.map_toArray,List.map_cons,List.map_nil,List.length_drop,List.length_take];rfl)|simp only [List.map_toArray,List.map_cons,List.map_nil]) ?_;(with_reducible refine (strings_Join.calls _ _ x6_2 (⟨#[32,124,32]⟩ : ByteArray) t182 _ (by first|exact hG|exact GL.below hG (by repeat (with_reducible first|exact HB.out|apply qab|apply qaa|apply qac)))  ?side1 ?side2 A17.out).mono ?_);(case side1 => repeat (first|exact (Kd.R_reads' HO_6.out).2.2|(with_reducible refine Kd.C_alloc ?_ _)|(with_reducible refine Kd.C_drewN ?_ _)|(with_reducible refine Kd.C_drew ?_)));(case side2 => exact (Kd.R_reads' HO_6.out).2.1);rintro e w20 ⟨rfl,hb⟩;refine ⟨_,rfl,?_⟩;have n0_ := Aside0.mk (Kd.R_below (by (with_reducible repeat (first|apply Kd.R_alloc|apply Kd.R_drewN|apply Kd.R_drew));exact HO_3.out) hb);have n1_ := Aside0.mk (Kd.R_below (by (with_reducible repeat (first|apply Kd.R_alloc|apply Kd.R_drewN|apply Kd.R_drew));exact HO_6.out) hb);have n2_ := Aside0.mk (qan (by repeat (with_reducible first|exact HB.out|apply qab|apply qaa|apply qac)) hb);clear HO_3;clear HO_6;clear HB;have HO_3 := n0_;have HO_6 := n1_;have HB := n2_;clear n0_ n1_ n2_;(try clear hb);(try clear hb2);(try clear hk);(try clear hi))|((with_reducible refine gate_builtin (b := .append) (xs := #[.tmp 30,.tmp 33]) rfl ?_);at_builtin;refine Kd.R_append Kd.string (w0 := w) w.heap.size rfl (.tmp 30) (.tmp 33) 49 9 (.string ⟨#[]⟩) 16 rfl Tryz.underlying49 info9 rfl (by decide) (by omega) u3 x3_1 t182 [.string t182] (fun k_ => some k_ ≠ (.slice Ao19 x6_2.length co19 : Value).ownBlock) (fun _ => False) rfl rfl ?aP (fun _ hk => hk.elim) ?aF ?aO ?aB ?aS ?aL ?_;(case aP => exact rfl);(case aB => exact (by repeat (with_reducible first|exact HB.out|apply qab|apply qaa|apply qac)));(case aF => exact (fun k_ hk => Kd.fresh' (Kd.R_lt (by (with_reducible repeat (first|apply Kd.R_alloc|apply Kd.R_drewN|apply Kd.R_drew));exact HO_6.out)) k_ hk));(case aO => exact (by (with_reducible repeat (first|apply Kd.R_alloc|apply Kd.R_drewN|apply Kd.R_drew));exact HO_3.out));(case aS => exact (qao (by repeat (with_reducible first|exact HB.out|apply qab|apply qaa|apply qac))));(case aL => have := LMc18.out;omega);intro v184 w21 ho hb hg hat;rw [← Ny183.out] at ho;have n0_ := Aside0.mk (Kd.R_after (ok := (fun _ => True)) (by (with_reducible repeat (first|apply Kd.R_alloc|apply Kd.R_drewN|apply Kd.R_drew));exact Kd.R_mono HO_6.out (fun _ hk => ⟨trivial,hk⟩)) hg hat);have n1_ := Aside0.mk (hb);have n2_ := Aside0.mk (ho);clear HO_6;clear HB;clear HO_3;have HO_6 := n0_;have HB := n1_;have HO185 := n2_;clear n0_ n1_ n2_;clear ho hb hg hat))
           go_roundg k2
           case measure => have := HK1.out;have := HK2.out;omega
           case rel => exact ⟨(y183),(wrap64 (x14_1 + 1)),(by first|rfl|(simp;done)|(simp [*];done)|(simp [qaj];done)),H',⟨by have := HK1.out;have := HK2.out;omega⟩,⟨by (with_reducible repeat (first|apply Kd.R_alloc|apply Kd.R_drewN|apply Kd.R_drew));exact Kd.R_mono HO185.out (fun _ hk => trivial)⟩,⟨by repeat (with_reducible first|exact HB.out|apply qab|apply qaa|apply qac)⟩⟩
          ·rw [if_neg c18] at H
           exact absurd H (by simp)
      ·rw [if_neg c7] at H
       exact absurd H (by simp)
     ·rw [if_neg c6] at H
      exact absurd H (by simp)
    ·rw [if_neg c5] at H
     have c5b0 : decide (x14_1 < (l0.length : Int)) = false := decide_eq_false c5
     clear c5
     replace H := Option.bind_eq_some_iff.mp H
     obtain ⟨t174,A220,H⟩ := H
     replace H : (some t174) = some r := H
     have A22 := Aside0.mk A220
     clear A220
     obtain rfl := Option.some.inj H
     obtain ⟨Ao23,co23,eo23⟩ := Kd.R_slice HO_3.out
     subst eo23
     go_wp2_with (first|((with_reducible refine qam (f := 41) rfl ?_);refine goesL_ (some 37) rfl rfl Tryz.func41 (by kernel_rfl) rfl #[.slice Ao23 x3_1.length co23,.string (⟨#[44,32]⟩ : ByteArray)] rfl (by first|rfl|(simp only [List.map_toArray,List.map_cons,List.map_nil,List.length_drop,List.length_take];rfl)|simp only [List.map_toArray,List.map_cons,List.map_nil]) ?_;(with_reducible refine (strings_Join.calls _ _ x3_1 (⟨#[44,32]⟩ : ByteArray) t174 _ (by first|exact hG|exact GL.below hG (by repeat (with_reducible first|exact HB.out|apply qab|apply qaa|apply qac)))  ?side1 ?side2 A22.out).mono ?_);(case side1 => repeat (first|exact (Kd.R_reads' HO_3.out).2.2|(with_reducible refine Kd.C_alloc ?_ _)|(with_reducible refine Kd.C_drewN ?_ _)|(with_reducible refine Kd.C_drew ?_)));(case side2 => exact (Kd.R_reads' HO_3.out).2.1);rintro e w24 ⟨rfl,hb⟩;refine ⟨_,rfl,?_⟩;have n0_ := Aside0.mk (Kd.R_below (by (with_reducible repeat (first|apply Kd.R_alloc|apply Kd.R_drewN|apply Kd.R_drew));exact HO_3.out) hb);have n1_ := Aside0.mk (qan (by repeat (with_reducible first|exact HB.out|apply qab|apply qaa|apply qac)) hb);clear HO_3;clear HB;have HO_3 := n0_;have HB := n1_;clear n0_ n1_;(try clear hb);(try clear hb2);(try clear hk);(try clear hi)))
     go_ret
     exact ⟨by first|rfl|(simp [qak,qal]<;>rfl)|(simp [*,qak,qal]<;>rfl),by repeat (with_reducible first|exact HB.out|apply qab|apply qaa|apply qac)⟩
 ·replace c3 := Bool.eq_false_iff.mpr c3
  subst c3
  have H1 : (some (⟨#[]⟩ : ByteArray)) = some r := by rw [if_neg (show ¬ (false = true) by decide)] at H;exact H
  clear H
  have H := H1
  clear H1
  obtain rfl := Option.some.inj H
  go_enter Tryz.func18,Tryz.ntmps18
  go_wp2_with (first|((with_reducible refine qam (f := 17) rfl ?_);refine goesL_ (some 10) rfl rfl Tryz.func17 (by kernel_rfl) rfl #[.slice A0 l0.length c0] rfl (by first|rfl|(simp only [List.map_toArray,List.map_cons,List.map_nil,List.length_drop,List.length_take];rfl)|simp only [List.map_toArray,List.map_cons,List.map_nil]) ?_;(with_reducible refine (depends_Right.calls k _ _ l0 false _ (by first|exact hG|exact GL.below hG (by repeat (with_reducible first|exact HB.out|apply qab|apply qaa|apply qac)))  ?side1 ?side2 A2.out).mono ?_);(case side1 => repeat (first|exact HR0.out|(with_reducible refine Kd.C_alloc ?_ _)|(with_reducible refine Kd.C_drewN ?_ _)|(with_reducible refine Kd.C_drew ?_)));(case side2 => exact HC0.out);rintro e w25 ⟨rfl,hb⟩;refine ⟨_,rfl,?_⟩;have n0_ := Aside0.mk (qan (by repeat (with_reducible first|exact HB.out|apply qab|apply qaa|apply qac)) hb);clear HB;have HB := n0_;clear n0_;(try clear hb);(try clear hb2);(try clear hk);(try clear hi)))
  go_ret
  exact ⟨by first|rfl|(simp [qak,qal]<;>rfl)|(simp [*,qak,qal]<;>rfl),by repeat (with_reducible first|exact HB.out|apply qab|apply qaa|apply qac)⟩
def cmp_Or_int.l0 : Nat → Int → List Int → Int → Int → Option (Int)
 | 0,_,_,_,_ => none
 | k + 1,x3,x6,x7,x8 => if x8 < x7 then (if 0 ≤ x8 then (if x8 < (x6.length : Int) then (if (rd x6 x8) = x3 then (cmp_Or_int.l0 k x3 x6 x7 (wrap64 (x8 + 1))) else (some (rd x6 x8))) else (none)) else (none)) else (some x3)
def cmp_Or_int.f (k : Nat) (l0 : List Int) : Option (Int) := cmp_Or_int.l0 k 0 l0 (l0.length : Int) 0
theorem cmp_Or_int.mono_l : ∀ k,(∀ y0 y1 y2 y3,LeO (cmp_Or_int.l0 k y0 y1 y2 y3) (cmp_Or_int.l0 (k + 1) y0 y1 y2 y3))
 | 0 => fun _ _ _ _ r h => by simp [cmp_Or_int.l0] at h
 | k + 1 => by
  have ih0 := cmp_Or_int.mono_l k
  ·intro y0 y1 y2 y3
   unfold cmp_Or_int.l0
   repeat' first
   | (with_reducible exact ih0 _ _ _ _)
   | (with_reducible exact LeO.refl _)
   | (with_reducible exact LeO.none _)
   | (with_reducible refine LeO.ite ?_ ?_)
   | (with_reducible refine LeO.bind ?_ (fun _ => ?_))
   | exact ih0 _ _ _ _
   | exact LeO.none _
   | refine LeO.ite ?_ ?_
   | refine LeO.bind ?_ (fun _ => ?_)
theorem cmp_Or_int.mono : ∀ a0 k,LeO (cmp_Or_int.f k a0) (cmp_Or_int.f (k + 1) a0) := by
 intro a0 k
 have ih0 := cmp_Or_int.mono_l k
 unfold cmp_Or_int.f
 repeat' first
   | (with_reducible exact ih0 _ _ _ _)
   | (with_reducible exact LeO.refl _)
   | (with_reducible exact LeO.none _)
   | (with_reducible refine LeO.ite ?_ ?_)
   | (with_reducible refine LeO.bind ?_ (fun _ => ?_))
   | exact ih0 _ _ _ _
   | exact LeO.none _
   | refine LeO.ite ?_ ?_
   | refine LeO.bind ?_ (fun _ => ?_)
theorem cmp_Or_int.calls (k : Nat) (A0 : Option Addr) (c0 : Nat) (l0 : List Int) (r : Int) (w : World) (hG : GL w) (hr0 : Kd.C (Kd.int .i64) w A0 l0.length l0) (hc0 : l0.length ≤ c0) (h : cmp_Or_int.f k l0 = some r) :
  Calls Tryz.prog 118 #[.slice A0 l0.length c0] w fun e w' => e = .returned (.int .i64 r) ∧ Drawn0 w w' := by
 have HR0 := Aside0.mk hr0
 have HC0 := Aside0.mk hc0
 clear hr0 hc0
 have H : (cmp_Or_int.l0 k 0 l0 (l0.length : Int) 0) = some r := h
 clear h
 have H' := Aside0.mk H
 clear H
 go_enter Tryz.func118,Tryz.ntmps118
 go_wp2
 go_loopg [8] k (fun kq v8 w' => ∃ (x8_1 : Int),v8 = .int .i64 x8_1 ∧ Aside0 (cmp_Or_int.l0 kq 0 l0 (l0.length : Int) x8_1 = some r) ∧ Aside0 (kq ≤ k) ∧ Drawn0 w w')
 case atStart => exact ⟨(0),(by first|rfl|(simp;done)|(simp [*];done)|(simp [qaj];done)),H',⟨Nat.le_refl _⟩,by repeat (first|exact Drawn0.refl _|apply Drawn0.step)⟩
 case round =>
  clear H'
  try clear c1
  obtain ⟨x8_1,rfl,HA,HK1,⟨m1,rfl⟩⟩ := hrel
  cases gk with
  | zero => exact absurd HA.out (by simp [cmp_Or_int.l0])
  | succ k1 =>
   have H := HA.out
   clear HA
   simp only [cmp_Or_int.l0] at H
   by_cases c2 : x8_1 < (l0.length : Int)
   ·rw [if_pos c2] at H
    have c2b0 : decide (x8_1 < (l0.length : Int)) = true := decide_eq_true c2
    clear c2
    by_cases c3 : 0 ≤ x8_1
    ·rw [if_pos c3] at H
     have c3b0 : decide (0 ≤ x8_1) = true := decide_eq_true c3
     clear c3
     by_cases c4 : x8_1 < (l0.length : Int)
     ·rw [if_pos c4] at H
      have c4b0 : decide (x8_1 < (l0.length : Int)) = true := decide_eq_true c4
      clear c4
      by_cases c5 : (rd l0 x8_1) = 0
      ·rw [if_pos c5] at H
       have c5b0 : ((rd l0 x8_1) == 0) = true := beq_iff_eq.mpr c5
       have c5b1 : ((rd l0 x8_1) != 0) = false := bne_eq_false_iff_eq.mpr c5
       clear c5
       have H' := Aside0.mk H
       clear H
       have p186 : 0 ≤ (x8_1 : Int) := of_decide_eq_true (by assumption)
       have q186 : x8_1 < (l0.length : Int) := of_decide_eq_true (by assumption)
       obtain ⟨ad186,e186,hx186_0⟩ := Kd.at_int HR0.out x8_1 p186 q186
       cases e186
       replace p186 := eq_true p186
       replace q186 := eq_true q186
       go_wp2
       go_roundg k1
       case measure => have := HK1.out;omega
       case rel => exact ⟨(wrap64 (x8_1 + 1)),(by first|rfl|(simp;done)|(simp [*];done)|(simp [qaj];done)),H',⟨by have := HK1.out;omega⟩,by repeat (first|exact Drawn0.refl _|apply Drawn0.step)⟩
      ·rw [if_neg c5] at H
       have c5b0 : ((rd l0 x8_1) == 0) = false := beq_eq_false_iff_ne.mpr c5
       have c5b1 : ((rd l0 x8_1) != 0) = true := bne_iff_ne.mpr c5
       obtain rfl := Option.some.inj H
       have p186 : 0 ≤ (x8_1 : Int) := of_decide_eq_true (by assumption)
       have q186 : x8_1 < (l0.length : Int) := of_decide_eq_true (by assumption)
       obtain ⟨ad186,e186,hx186_0⟩ := Kd.at_int HR0.out x8_1 p186 q186
       cases e186
       replace p186 := eq_true p186
       replace q186 := eq_true q186
       go_wp2
       go_ret
       exact ⟨by first|rfl|(simp;done)|(simp [*];done)|(simp [qaj];done),by repeat (first|exact Drawn0.refl _|apply Drawn0.step)⟩
     ·rw [if_neg c4] at H
      exact absurd H (by simp)
    ·rw [if_neg c3] at H
     exact absurd H (by simp)
   ·rw [if_neg c2] at H
    have c2b0 : decide (x8_1 < (l0.length : Int)) = false := decide_eq_false c2
    clear c2
    obtain rfl := Option.some.inj H
    go_wp2
    go_ret
    exact ⟨by first|rfl|(simp;done)|(simp [*];done)|(simp [qaj];done),by repeat (first|exact Drawn0.refl _|apply Drawn0.step)⟩
def cmp_isNaN_int.f (a0 : Int) : Option (Bool) := some (a0 != a0)
theorem cmp_isNaN_int.calls (a0 : Int) (r : Bool) (w : World) (hG : GL w) (h : cmp_isNaN_int.f a0 = some r) :
  Calls Tryz.prog 132 #[.int .i64 a0] w fun e w' => e = .returned (.bool r) ∧ Drawn0 w w' := by
 have H : (some (a0 != a0)) = some r := h
 clear h
 obtain rfl := Option.some.inj H
 go_enter Tryz.func132,Tryz.ntmps132
 go_wp2
 go_ret
 exact ⟨by first|rfl|(simp;done)|(simp [*];done)|(simp [qaj];done),by repeat (first|exact Drawn0.refl _|apply Drawn0.step)⟩
def cmp_Compare_int.f (a0 : Int) (a1 : Int) : Option (Int) := (cmp_isNaN_int.f a0).bind fun t187 => ((cmp_isNaN_int.f a1).bind fun t188 => (if t187 = true then (if t188 = true then (some 0) else (some (-1))) else (if t188 = true then (some 1) else (if a0 < a1 then (some (-1)) else (if a0 > a1 then (some 1) else (some 0))))))
theorem cmp_Compare_int.calls (a0 : Int) (a1 : Int) (r : Int) (w : World) (hG : GL w) (h : cmp_Compare_int.f a0 a1 = some r) :
  Calls Tryz.prog 119 #[.int .i64 a0,.int .i64 a1] w fun e w' => e = .returned (.int .i64 r) ∧ Drawn0 w w' := by
 have H : ((cmp_isNaN_int.f a0).bind fun t187 => ((cmp_isNaN_int.f a1).bind fun t188 => (if t187 = true then (if t188 = true then (some 0) else (some (-1))) else (if t188 = true then (some 1) else (if a0 < a1 then (some (-1)) else (if a0 > a1 then (some 1) else (some 0))))))) = some r := h
 clear h
 replace H := Option.bind_eq_some_iff.mp H
 obtain ⟨t187,A30,H⟩ := H
 replace H : ((cmp_isNaN_int.f a1).bind fun t188 => (if t187 = true then (if t188 = true then (some 0) else (some (-1))) else (if t188 = true then (some 1) else (if a0 < a1 then (some (-1)) else (if a0 > a1 then (some 1) else (some 0)))))) = some r := H
 have A3 := Aside0.mk A30
 clear A30
 replace H := Option.bind_eq_some_iff.mp H
 obtain ⟨t188,A40,H⟩ := H
 replace H : (if t187 = true then (if t188 = true then (some 0) else (some (-1))) else (if t188 = true then (some 1) else (if a0 < a1 then (some (-1)) else (if a0 > a1 then (some 1) else (some 0))))) = some r := H
 have A4 := Aside0.mk A40
 clear A40
 by_cases c5 : t187 = true
 ·subst c5
  have H1 : (if t188 = true then (some 0) else (some (-1))) = some r := by rw [if_pos rfl] at H;exact H
  clear H
  have H := H1
  clear H1
  by_cases c6 : t188 = true
  ·subst c6
   have H1 : (some 0) = some r := by rw [if_pos rfl] at H;exact H
   clear H
   have H := H1
   clear H1
   obtain rfl := Option.some.inj H
   go_enter Tryz.func119,Tryz.ntmps119
   go_wp2_with (first|((with_reducible refine qam (f := 132) rfl ?_);refine goesL_ (some 8) rfl rfl Tryz.func132 (by kernel_rfl) rfl #[.int .i64 a0] rfl (by first|rfl|(simp only [List.map_toArray,List.map_cons,List.map_nil,List.length_drop,List.length_take];rfl)|simp only [List.map_toArray,List.map_cons,List.map_nil]) ?_;(with_reducible refine (cmp_isNaN_int.calls a0 true _ (by first|exact hG|(repeat (first|exact hG|apply GL.drewN|apply GL.drew)))  A3.out).mono ?_);rintro e w' ⟨rfl,⟨nd,rfl⟩⟩;refine ⟨_,rfl,?_⟩)|((with_reducible refine qam (f := 132) rfl ?_);refine goesL_ (some 10) rfl rfl Tryz.func132 (by kernel_rfl) rfl #[.int .i64 a1] rfl (by first|rfl|(simp only [List.map_toArray,List.map_cons,List.map_nil,List.length_drop,List.length_take];rfl)|simp only [List.map_toArray,List.map_cons,List.map_nil]) ?_;(with_reducible refine (cmp_isNaN_int.calls a1 true _ (by first|exact hG|(repeat (first|exact hG|apply GL.drewN|apply GL.drew)))  A4.out).mono ?_);rintro e w' ⟨rfl,⟨nd,rfl⟩⟩;refine ⟨_,rfl,?_⟩))
   go_ret
   exact ⟨by first|rfl|(simp;done)|(simp [*];done)|(simp [qaj];done),by repeat (first|exact Drawn0.refl _|apply Drawn0.step)⟩
  ·replace c6 := Bool.eq_false_iff.mpr c6
   subst c6
   have H1 : (some (-1)) = some r := by rw [if_neg (show ¬ (false = true) by decide)] at H;exact H
   clear H
   have H := H1
   clear H1
   obtain rfl := Option.some.inj H
   go_enter Tryz.func119,Tryz.ntmps119
   go_wp2_with (first|((with_reducible refine qam (f := 132) rfl ?_);refine goesL_ (some 8) rfl rfl Tryz.func132 (by kernel_rfl) rfl #[.int .i64 a0] rfl (by first|rfl|(simp only [List.map_toArray,List.map_cons,List.map_nil,List.length_drop,List.length_take];rfl)|simp only [List.map_toArray,List.map_cons,List.map_nil]) ?_;(with_reducible refine (cmp_isNaN_int.calls a0 true _ (by first|exact hG|(repeat (first|exact hG|apply GL.drewN|apply GL.drew)))  A3.out).mono ?_);rintro e w' ⟨rfl,⟨nd,rfl⟩⟩;refine ⟨_,rfl,?_⟩)|((with_reducible refine qam (f := 132) rfl ?_);refine goesL_ (some 10) rfl rfl Tryz.func132 (by kernel_rfl) rfl #[.int .i64 a1] rfl (by first|rfl|(simp only [List.map_toArray,List.map_cons,List.map_nil,List.length_drop,List.length_take];rfl)|simp only [List.map_toArray,List.map_cons,List.map_nil]) ?_;(with_reducible refine (cmp_isNaN_int.calls a1 false _ (by first|exact hG|(repeat (first|exact hG|apply GL.drewN|apply GL.drew)))  A4.out).mono ?_);rintro e w' ⟨rfl,⟨nd,rfl⟩⟩;refine ⟨_,rfl,?_⟩))
   go_ret
   exact ⟨by first|rfl|(simp;done)|(simp [*];done)|(simp [qaj];done),by repeat (first|exact Drawn0.refl _|apply Drawn0.step)⟩
 ·replace c5 := Bool.eq_false_iff.mpr c5
  subst c5
  have H1 : (if t188 = true then (some 1) else (if a0 < a1 then (some (-1)) else (if a0 > a1 then (some 1) else (some 0)))) = some r := by rw [if_neg (show ¬ (false = true) by decide)] at H;exact H
  clear H
  have H := H1
  clear H1
  by_cases c7 : t188 = true
  ·subst c7
   have H1 : (some 1) = some r := by rw [if_pos rfl] at H;exact H
   clear H
   have H := H1
   clear H1
   obtain rfl := Option.some.inj H
   go_enter Tryz.func119,Tryz.ntmps119
   go_wp2_with (first|((with_reducible refine qam (f := 132) rfl ?_);refine goesL_ (some 8) rfl rfl Tryz.func132 (by kernel_rfl) rfl #[.int .i64 a0] rfl (by first|rfl|(simp only [List.map_toArray,List.map_cons,List.map_nil,List.length_drop,List.length_take];rfl)|simp only [List.map_toArray,List.map_cons,List.map_nil]) ?_;(with_reducible refine (cmp_isNaN_int.calls a0 false _ (by first|exact hG|(repeat (first|exact hG|apply GL.drewN|apply GL.drew)))  A3.out).mono ?_);rintro e w' ⟨rfl,⟨nd,rfl⟩⟩;refine ⟨_,rfl,?_⟩)|((with_reducible refine qam (f := 132) rfl ?_);refine goesL_ (some 10) rfl rfl Tryz.func132 (by kernel_rfl) rfl #[.int .i64 a1] rfl (by first|rfl|(simp only [List.map_toArray,List.map_cons,List.map_nil,List.length_drop,List.length_take];rfl)|simp only [List.map_toArray,List.map_cons,List.map_nil]) ?_;(with_reducible refine (cmp_isNaN_int.calls a1 true _ (by first|exact hG|(repeat (first|exact hG|apply GL.drewN|apply GL.drew)))  A4.out).mono ?_);rintro e w' ⟨rfl,⟨nd,rfl⟩⟩;refine ⟨_,rfl,?_⟩))
   go_ret
   exact ⟨by first|rfl|(simp;done)|(simp [*];done)|(simp [qaj];done),by repeat (first|exact Drawn0.refl _|apply Drawn0.step)⟩
  ·replace c7 := Bool.eq_false_iff.mpr c7
   subst c7
   have H1 : (if a0 < a1 then (some (-1)) else (if a0 > a1 then (some 1) else (some 0))) = some r := by rw [if_neg (show ¬ (false = true) by decide)] at H;exact H
   clear H
   have H := H1
   clear H1
   by_cases c8 : a0 < a1
   ·rw [if_pos c8] at H
    have c8b0 : decide (a0 < a1) = true := decide_eq_true c8
    clear c8
    obtain rfl := Option.some.inj H
    go_enter Tryz.func119,Tryz.ntmps119
    go_wp2_with (first|((with_reducible refine qam (f := 132) rfl ?_);refine goesL_ (some 8) rfl rfl Tryz.func132 (by kernel_rfl) rfl #[.int .i64 a0] rfl (by first|rfl|(simp only [List.map_toArray,List.map_cons,List.map_nil,List.length_drop,List.length_take];rfl)|simp only [List.map_toArray,List.map_cons,List.map_nil]) ?_;(with_reducible refine (cmp_isNaN_int.calls a0 false _ (by first|exact hG|(repeat (first|exact hG|apply GL.drewN|apply GL.drew)))  A3.out).mono ?_);rintro e w' ⟨rfl,⟨nd,rfl⟩⟩;refine ⟨_,rfl,?_⟩)|((with_reducible refine qam (f := 132) rfl ?_);refine goesL_ (some 10) rfl rfl Tryz.func132 (by kernel_rfl) rfl #[.int .i64 a1] rfl (by first|rfl|(simp only [List.map_toArray,List.map_cons,List.map_nil,List.length_drop,List.length_take];rfl)|simp only [List.map_toArray,List.map_cons,List.map_nil]) ?_;(with_reducible refine (cmp_isNaN_int.calls a1 false _ (by first|exact hG|(repeat (first|exact hG|apply GL.drewN|apply GL.drew)))  A4.out).mono ?_);rintro e w' ⟨rfl,⟨nd,rfl⟩⟩;refine ⟨_,rfl,?_⟩))
    go_ret
    exact ⟨by first|rfl|(simp;done)|(simp [*];done)|(simp [qaj];done),by repeat (first|exact Drawn0.refl _|apply Drawn0.step)⟩
   ·rw [if_neg c8] at H
    have c8b0 : decide (a0 < a1) = false := decide_eq_false c8
    clear c8
    by_cases c9 : a0 > a1
    ·rw [if_pos c9] at H
     have c9b0 : decide (a1 < a0) = true := decide_eq_true c9
     clear c9
     obtain rfl := Option.some.inj H
     go_enter Tryz.func119,Tryz.ntmps119
     go_wp2_with (first|((with_reducible refine qam (f := 132) rfl ?_);refine goesL_ (some 8) rfl rfl Tryz.func132 (by kernel_rfl) rfl #[.int .i64 a0] rfl (by first|rfl|(simp only [List.map_toArray,List.map_cons,List.map_nil,List.length_drop,List.length_take];rfl)|simp only [List.map_toArray,List.map_cons,List.map_nil]) ?_;(with_reducible refine (cmp_isNaN_int.calls a0 false _ (by first|exact hG|(repeat (first|exact hG|apply GL.drewN|apply GL.drew)))  A3.out).mono ?_);rintro e w' ⟨rfl,⟨nd,rfl⟩⟩;refine ⟨_,rfl,?_⟩)|((with_reducible refine qam (f := 132) rfl ?_);refine goesL_ (some 10) rfl rfl Tryz.func132 (by kernel_rfl) rfl #[.int .i64 a1] rfl (by first|rfl|(simp only [List.map_toArray,List.map_cons,List.map_nil,List.length_drop,List.length_take];rfl)|simp only [List.map_toArray,List.map_cons,List.map_nil]) ?_;(with_reducible refine (cmp_isNaN_int.calls a1 false _ (by first|exact hG|(repeat (first|exact hG|apply GL.drewN|apply GL.drew)))  A4.out).mono ?_);rintro e w' ⟨rfl,⟨nd,rfl⟩⟩;refine ⟨_,rfl,?_⟩))
     go_ret
     exact ⟨by first|rfl|(simp;done)|(simp [*];done)|(simp [qaj];done),by repeat (first|exact Drawn0.refl _|apply Drawn0.step)⟩
    ·rw [if_neg c9] at H
     have c9b0 : decide (a1 < a0) = false := decide_eq_false c9
     clear c9
     obtain rfl := Option.some.inj H
     go_enter Tryz.func119,Tryz.ntmps119
     go_wp2_with (first|((with_reducible refine qam (f := 132) rfl ?_);refine goesL_ (some 8) rfl rfl Tryz.func132 (by kernel_rfl) rfl #[.int .i64 a0] rfl (by first|rfl|(simp only [List.map_toArray,List.map_cons,List.map_nil,List.length_drop,List.length_take];rfl)|simp only [List.map_toArray,List.map_cons,List.map_nil]) ?_;(with_reducible refine (cmp_isNaN_int.calls a0 false _ (by first|exact hG|(repeat (first|exact hG|apply GL.drewN|apply GL.drew)))  A3.out).mono ?_);rintro e w' ⟨rfl,⟨nd,rfl⟩⟩;refine ⟨_,rfl,?_⟩)|((with_reducible refine qam (f := 132) rfl ?_);refine goesL_ (some 10) rfl rfl Tryz.func132 (by kernel_rfl) rfl #[.int .i64 a1] rfl (by first|rfl|(simp only [List.map_toArray,List.map_cons,List.map_nil,List.length_drop,List.length_take];rfl)|simp only [List.map_toArray,List.map_cons,List.map_nil]) ?_;(with_reducible refine (cmp_isNaN_int.calls a1 false _ (by first|exact hG|(repeat (first|exact hG|apply GL.drewN|apply GL.drew)))  A4.out).mono ?_);rintro e w' ⟨rfl,⟨nd,rfl⟩⟩;refine ⟨_,rfl,?_⟩))
     go_ret
     exact ⟨by first|rfl|(simp;done)|(simp [*];done)|(simp [qaj];done),by repeat (first|exact Drawn0.refl _|apply Drawn0.step)⟩
def version_CompareText_1.f (a0 : Int) : Option (Bool) := (version_digit.f a0).bind fun t189 => (some (!t189))
theorem version_CompareText_1.calls (a0 : Int) (r : Bool) (w : World) (hG : GL w) (h : version_CompareText_1.f a0 = some r) :
  Calls Tryz.prog 133 #[.int .u8 a0] w fun e w' => e = .returned (.bool r) ∧ Drawn0 w w' := by
 have H : ((version_digit.f a0).bind fun t189 => (some (!t189))) = some r := h
 clear h
 replace H := Option.bind_eq_some_iff.mp H
 obtain ⟨t189,A20,H⟩ := H
 replace H : (some (!t189)) = some r := H
 have A2 := Aside0.mk A20
 clear A20
 obtain rfl := Option.some.inj H
 go_enter Tryz.func133,Tryz.ntmps133
 go_wp2_with (first|((with_reducible refine qam (f := 130) rfl ?_);refine goesL_ (some 4) rfl rfl Tryz.func130 (by kernel_rfl) rfl #[.int .u8 a0] rfl (by first|rfl|(simp only [List.map_toArray,List.map_cons,List.map_nil,List.length_drop,List.length_take];rfl)|simp only [List.map_toArray,List.map_cons,List.map_nil]) ?_;(with_reducible refine (version_digit.calls a0 t189 _ (by first|exact hG|(repeat (first|exact hG|apply GL.drewN|apply GL.drew)))  A2.out).mono ?_);rintro e w' ⟨rfl,⟨nd,rfl⟩⟩;refine ⟨_,rfl,?_⟩))
 go_ret
 exact ⟨by first|rfl|(simp;done)|(simp [*];done)|(simp [qaj];done),by repeat (first|exact Drawn0.refl _|apply Drawn0.step)⟩
def version_weight.f (a0 : ByteArray) (a1 : Int) : Option (Int) := if a1 ≥ (a0.size : Int) then (some 0) else (if 0 ≤ a1 then (if a1 < (a0.size : Int) then (if (bt a0 a1) = 126 then (some (-1)) else (if 10 ≤ 62 then (if 62 ≤ 65 then ((strings_IndexByte.f ((⟨#[48,49,50,51,52,53,54,55,56,57,97,98,99,100,101,102,103,104,105,106,107,108,109,110,111,112,113,114,115,116,117,118,119,120,121,122,65,66,67,68,69,70,71,72,73,74,75,76,77,78,79,80,81,82,83,84,85,86,87,88,89,90,46,43,126]⟩ : ByteArray).extract 10 62) (bt a0 a1)).bind fun t190 => (if t190 ≥ 0 then (some (wrap64 (bt a0 a1))) else (some (wrap64 ((wrap64 (bt a0 a1)) + 256))))) else (none)) else (none))) else (none)) else (none))
theorem version_weight.calls (a0 : ByteArray) (a1 : Int) (r : Int) (w : World) (hG : GL w) (h : version_weight.f a0 a1 = some r) :
  Calls Tryz.prog 144 #[.string a0,.int .i64 a1] w fun e w' => e = .returned (.int .i64 r) ∧ Drawn0 w w' := by
 have H : (if a1 ≥ (a0.size : Int) then (some 0) else (if 0 ≤ a1 then (if a1 < (a0.size : Int) then (if (bt a0 a1) = 126 then (some (-1)) else (if 10 ≤ 62 then (if 62 ≤ 65 then ((strings_IndexByte.f ((⟨#[48,49,50,51,52,53,54,55,56,57,97,98,99,100,101,102,103,104,105,106,107,108,109,110,111,112,113,114,115,116,117,118,119,120,121,122,65,66,67,68,69,70,71,72,73,74,75,76,77,78,79,80,81,82,83,84,85,86,87,88,89,90,46,43,126]⟩ : ByteArray).extract 10 62) (bt a0 a1)).bind fun t190 => (if t190 ≥ 0 then (some (wrap64 (bt a0 a1))) else (some (wrap64 ((wrap64 (bt a0 a1)) + 256))))) else (none)) else (none))) else (none)) else (none))) = some r := h
 clear h
 by_cases c3 : a1 ≥ (a0.size : Int)
 ·rw [if_pos c3] at H
  have c3b0 : decide ((a0.size : Int) ≤ a1) = true := decide_eq_true c3
  clear c3
  obtain rfl := Option.some.inj H
  go_enter Tryz.func144,Tryz.ntmps144
  go_wp2
  repeat (go_quiet (fail);try go_wp2)
  go_ret
  exact ⟨by first|rfl|(simp;done)|(simp [*];done)|(simp [qaj];done),by repeat (first|exact Drawn0.refl _|apply Drawn0.step)⟩
 ·rw [if_neg c3] at H
  have c3b0 : decide ((a0.size : Int) ≤ a1) = false := decide_eq_false c3
  clear c3
  by_cases c4 : 0 ≤ a1
  ·rw [if_pos c4] at H
   have c4b0 : decide (0 ≤ a1) = true := decide_eq_true c4
   clear c4
   by_cases c5 : a1 < (a0.size : Int)
   ·rw [if_pos c5] at H
    have c5b0 : decide (a1 < (a0.size : Int)) = true := decide_eq_true c5
    clear c5
    by_cases c7 : (bt a0 a1) = 126
    ·rw [if_pos c7] at H
     have c7b0 : ((bt a0 a1) == 126) = true := beq_iff_eq.mpr c7
     have c7b1 : ((bt a0 a1) != 126) = false := bne_eq_false_iff_eq.mpr c7
     clear c7
     obtain rfl := Option.some.inj H
     have p6 : 0 ≤ (a1 : Int) := of_decide_eq_true (by assumption)
     have q6 : a1 < (a0.size : Int) := of_decide_eq_true (by assumption)
     have hx6 := bt_at a0 a1
     replace p6 := eq_true p6
     replace q6 := eq_true q6
     go_enter Tryz.func144,Tryz.ntmps144
     go_wp2
     repeat (go_quiet (fail);try go_wp2)
     go_ret
     exact ⟨by first|rfl|(simp;done)|(simp [*];done)|(simp [qaj];done),by repeat (first|exact Drawn0.refl _|apply Drawn0.step)⟩
    ·rw [if_neg c7] at H
     have c7b0 : ((bt a0 a1) == 126) = false := beq_eq_false_iff_ne.mpr c7
     have c7b1 : ((bt a0 a1) != 126) = true := bne_iff_ne.mpr c7
     by_cases c8 : 10 ≤ 62
     ·rw [if_pos c8] at H
      have c8b0 := eq_true c8
      have c8b1 : decide (10 ≤ 62) = true := decide_eq_true c8
      clear c8
      by_cases c9 : 62 ≤ 65
      ·rw [if_pos c9] at H
       have c9b0 := eq_true c9
       have c9b1 : decide (62 ≤ 65) = true := decide_eq_true c9
       clear c9
       obtain ⟨ji10,hji10⟩ : ∃ j_ : ByteArray,((⟨#[48,49,50,51,52,53,54,55,56,57,97,98,99,100,101,102,103,104,105,106,107,108,109,110,111,112,113,114,115,116,117,118,119,120,121,122,65,66,67,68,69,70,71,72,73,74,75,76,77,78,79,80,81,82,83,84,85,86,87,88,89,90,46,43,126]⟩ : ByteArray).extract 10 62) = j_ := ⟨_,rfl⟩
       replace H : ((strings_IndexByte.f (ji10) (bt a0 a1)).bind fun t190 => (if t190 ≥ 0 then (some (wrap64 (bt a0 a1))) else (some (wrap64 ((wrap64 (bt a0 a1)) + 256))))) = some r := by first|(rw [hji10] at H;exact H)|(simp only [hji10] at H ⊢;exact H)
       replace H := Option.bind_eq_some_iff.mp H
       obtain ⟨t190,A120,H⟩ := H
       replace H : (if t190 ≥ 0 then (some (wrap64 (bt a0 a1))) else (some (wrap64 ((wrap64 (bt a0 a1)) + 256)))) = some r := H
       have A12 := Aside0.mk A120
       clear A120
       by_cases c13 : t190 ≥ 0
       ·rw [if_pos c13] at H
        have c13b0 : decide (0 ≤ t190) = true := decide_eq_true c13
        clear c13
        obtain rfl := Option.some.inj H
        have p6 : 0 ≤ (a1 : Int) := of_decide_eq_true (by assumption)
        have q6 : a1 < (a0.size : Int) := of_decide_eq_true (by assumption)
        have hx6 := bt_at a0 a1
        replace p6 := eq_true p6
        replace q6 := eq_true q6
        have p11 : 0 ≤ (a1 : Int) := of_decide_eq_true (by assumption)
        have q11 : a1 < (a0.size : Int) := of_decide_eq_true (by assumption)
        have hx11 := bt_at a0 a1
        replace p11 := eq_true p11
        replace q11 := eq_true q11
        go_enter Tryz.func144,Tryz.ntmps144
        go_wp2_with (first|(go_at_call 83;(with_reducible refine (strings_IndexByte.calls ji10 (bt a0 a1) t190 _ (by first|exact hG|(repeat (first|exact hG|apply GL.drewN|apply GL.drew)))  A12.out).mono ?_);rintro e w' ⟨rfl,⟨nd,rfl⟩⟩;(try first|exact ⟨rfl,_,World.drewN_drewN _ _ _⟩|exact ⟨rfl,_,Eq.trans (World.drewN_drewN _ _ _) (congrArg (World.drewN _) (Nat.add_assoc _ _ _))⟩);have p14 : 0 ≤ (a1 : Int) := of_decide_eq_true (by assumption);have q14 : a1 < (a0.size : Int) := of_decide_eq_true (by assumption);have hx14 := bt_at a0 a1;replace p14 := eq_true p14;replace q14 := eq_true q14))
        repeat (go_quiet (first|(go_at_call 83;(with_reducible refine (strings_IndexByte.calls ji10 (bt a0 a1) t190 _ (by first|exact hG|(repeat (first|exact hG|apply GL.drewN|apply GL.drew)))  A12.out).mono ?_);rintro e w' ⟨rfl,⟨nd,rfl⟩⟩;(try first|exact ⟨rfl,_,World.drewN_drewN _ _ _⟩|exact ⟨rfl,_,Eq.trans (World.drewN_drewN _ _ _) (congrArg (World.drewN _) (Nat.add_assoc _ _ _))⟩);have p14 : 0 ≤ (a1 : Int) := of_decide_eq_true (by assumption);have q14 : a1 < (a0.size : Int) := of_decide_eq_true (by assumption);have hx14 := bt_at a0 a1;replace p14 := eq_true p14;replace q14 := eq_true q14));try go_wp2_with (first|(go_at_call 83;(with_reducible refine (strings_IndexByte.calls ji10 (bt a0 a1) t190 _ (by first|exact hG|(repeat (first|exact hG|apply GL.drewN|apply GL.drew)))  A12.out).mono ?_);rintro e w' ⟨rfl,⟨nd,rfl⟩⟩;(try first|exact ⟨rfl,_,World.drewN_drewN _ _ _⟩|exact ⟨rfl,_,Eq.trans (World.drewN_drewN _ _ _) (congrArg (World.drewN _) (Nat.add_assoc _ _ _))⟩);have p14 : 0 ≤ (a1 : Int) := of_decide_eq_true (by assumption);have q14 : a1 < (a0.size : Int) := of_decide_eq_true (by assumption);have hx14 := bt_at a0 a1;replace p14 := eq_true p14;replace q14 := eq_true q14)))
        go_ret
        exact ⟨by first|rfl|(simp;done)|(simp only [← hji10]<;>(first|rfl|simp))|(simp [*];done),by repeat (first|exact Drawn0.refl _|apply Drawn0.step)⟩
       ·rw [if_neg c13] at H
        have c13b0 : decide (0 ≤ t190) = false := decide_eq_false c13
        clear c13
        obtain rfl := Option.some.inj H
        have p6 : 0 ≤ (a1 : Int) := of_decide_eq_true (by assumption)
        have q6 : a1 < (a0.size : Int) := of_decide_eq_true (by assumption)
        have hx6 := bt_at a0 a1
        replace p6 := eq_true p6
        replace q6 := eq_true q6
        have p11 : 0 ≤ (a1 : Int) := of_decide_eq_true (by assumption)
        have q11 : a1 < (a0.size : Int) := of_decide_eq_true (by assumption)
        have hx11 := bt_at a0 a1
        replace p11 := eq_true p11
        replace q11 := eq_true q11
        go_enter Tryz.func144,Tryz.ntmps144
        go_wp2_with (first|(go_at_call 83;(with_reducible refine (strings_IndexByte.calls ji10 (bt a0 a1) t190 _ (by first|exact hG|(repeat (first|exact hG|apply GL.drewN|apply GL.drew)))  A12.out).mono ?_);rintro e w' ⟨rfl,⟨nd,rfl⟩⟩;(try first|exact ⟨rfl,_,World.drewN_drewN _ _ _⟩|exact ⟨rfl,_,Eq.trans (World.drewN_drewN _ _ _) (congrArg (World.drewN _) (Nat.add_assoc _ _ _))⟩);have p15 : 0 ≤ (a1 : Int) := of_decide_eq_true (by assumption);have q15 : a1 < (a0.size : Int) := of_decide_eq_true (by assumption);have hx15 := bt_at a0 a1;replace p15 := eq_true p15;replace q15 := eq_true q15))
        repeat (go_quiet (first|(go_at_call 83;(with_reducible refine (strings_IndexByte.calls ji10 (bt a0 a1) t190 _ (by first|exact hG|(repeat (first|exact hG|apply GL.drewN|apply GL.drew)))  A12.out).mono ?_);rintro e w' ⟨rfl,⟨nd,rfl⟩⟩;(try first|exact ⟨rfl,_,World.drewN_drewN _ _ _⟩|exact ⟨rfl,_,Eq.trans (World.drewN_drewN _ _ _) (congrArg (World.drewN _) (Nat.add_assoc _ _ _))⟩);have p15 : 0 ≤ (a1 : Int) := of_decide_eq_true (by assumption);have q15 : a1 < (a0.size : Int) := of_decide_eq_true (by assumption);have hx15 := bt_at a0 a1;replace p15 := eq_true p15;replace q15 := eq_true q15));try go_wp2_with (first|(go_at_call 83;(with_reducible refine (strings_IndexByte.calls ji10 (bt a0 a1) t190 _ (by first|exact hG|(repeat (first|exact hG|apply GL.drewN|apply GL.drew)))  A12.out).mono ?_);rintro e w' ⟨rfl,⟨nd,rfl⟩⟩;(try first|exact ⟨rfl,_,World.drewN_drewN _ _ _⟩|exact ⟨rfl,_,Eq.trans (World.drewN_drewN _ _ _) (congrArg (World.drewN _) (Nat.add_assoc _ _ _))⟩);have p15 : 0 ≤ (a1 : Int) := of_decide_eq_true (by assumption);have q15 : a1 < (a0.size : Int) := of_decide_eq_true (by assumption);have hx15 := bt_at a0 a1;replace p15 := eq_true p15;replace q15 := eq_true q15)))
        go_ret
        exact ⟨by first|rfl|(simp;done)|(simp only [← hji10]<;>(first|rfl|simp))|(simp [*];done),by repeat (first|exact Drawn0.refl _|apply Drawn0.step)⟩
      ·rw [if_neg c9] at H
       exact absurd H (by simp)
     ·rw [if_neg c8] at H
      exact absurd H (by simp)
   ·rw [if_neg c5] at H
    exact absurd H (by simp)
  ·rw [if_neg c4] at H
   exact absurd H (by simp)
end Go.Proofs.YtjbbgekkombpnaaGreatDoor.PA
