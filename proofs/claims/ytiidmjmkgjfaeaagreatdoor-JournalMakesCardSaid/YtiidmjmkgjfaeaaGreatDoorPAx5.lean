
import Derived.Test.YtiidmjmkgjfaeaaGreatDoorPAx0
import Derived.Test.YtiidmjmkgjfaeaaGreatDoorPAx2
import Derived.Test.YtiidmjmkgjfaeaaGreatDoorPAx4
namespace Go.Proofs.YtiidmjmkgjfaeaaGreatDoor.PA
open Go.RowKit Go.Proofs.YtiidmjmkgjfaeaaGreatDoorW.PrintWords Go.Proofs.YtiidmjmkgjfaeaaGreatDoorW.PrintLast Go.Proofs.YtiidmjmkgjfaeaaGreatDoorW.PrintMore
attribute [local go_sem] max2_int min2_int max_two min_two max_three min_three max_four min_four
set_option maxHeartbeats 8000000
set_option maxRecDepth 100000
set_option linter.unusedVariables false
set_option linter.unusedSimpArgs false
def relation_plain.f (k : Nat) (a0 : ByteArray) : Option (Bool) := (version_Parse.f k a0).bind fun bt136 => (if bt136.2.2.2 = 0 then ((version_Print.f k bt136.1 bt136.2.1 bt136.2.2.1).bind fun t141 => (some (t141.toList == a0.toList))) else (some false))
theorem relation_plain.mono : ∀ a0 k,LeO (relation_plain.f k a0) (relation_plain.f (k + 1) a0) := by
 intro a0 k
 unfold relation_plain.f
 repeat' first
   | (with_reducible exact version_Parse.mono _ _)
   | (with_reducible exact version_Print.mono _ _ _ _)
   | (with_reducible exact LeO.refl _)
   | (with_reducible exact LeO.none _)
   | (with_reducible refine LeO.ite ?_ ?_)
   | (with_reducible refine LeO.bind ?_ (fun _ => ?_))
theorem relation_plain.calls (k : Nat) (a0 : ByteArray) (r : Bool) (w : World) (hG : GL w) (h : relation_plain.f k a0 = some r) :
  Calls Tryz.prog 111 #[.string a0] w fun e w' => e = .returned (.bool r) ∧ Below w.heap.size w w' := by
 have hu106 := Tryz.underlying106
 have HB := Aside0.mk (Below.refl w.heap.size w)
 have H : ((version_Parse.f k a0).bind fun bt136 => (if bt136.2.2.2 = 0 then ((version_Print.f k bt136.1 bt136.2.1 bt136.2.2.1).bind fun t141 => (some (t141.toList == a0.toList))) else (some false))) = some r := h
 clear h
 replace H := Option.bind_eq_some_iff.mp H
 obtain ⟨⟨t136,t137,t138,t139⟩,A20,H⟩ := H
 replace H : (if t139 = 0 then ((version_Print.f k t136 t137 t138).bind fun t141 => (some (t141.toList == a0.toList))) else (some false)) = some r := H
 have A2 := Aside0.mk A20
 clear A20
 by_cases c3 : t139 = 0
 ·rw [if_pos c3] at H
  have c3b0 : (t139 == 0) = true := beq_iff_eq.mpr c3
  have c3b1 : (t139 != 0) = false := bne_eq_false_iff_eq.mpr c3
  clear c3
  replace H := Option.bind_eq_some_iff.mp H
  obtain ⟨t141,A40,H⟩ := H
  replace H : (some (t141.toList == a0.toList)) = some r := H
  have A4 := Aside0.mk A40
  clear A40
  obtain rfl := Option.some.inj H
  go_enter Tryz.func111,Tryz.ntmps111
  go_wp2_with (first|((with_reducible refine qal (f := 89) rfl ?_);refine goesL_ (some 7) rfl rfl Tryz.func89 (by kernel_rfl) rfl #[.string a0] rfl (by first|rfl|(simp only [List.map_toArray,List.map_cons,List.map_nil,List.length_drop,List.length_take];rfl)|simp only [List.map_toArray,List.map_cons,List.map_nil]) ?_;(with_reducible refine (version_Parse.calls k a0 t136 t137 t138 t139 _ (by first|exact hG|exact GL.below hG (by repeat (with_reducible first|exact HB.out|apply qab|apply qaa|apply qac)))  A2.out).mono ?_);rintro e w5 ⟨rfl,hb⟩;refine ⟨_,rfl,?_⟩;have n0_ := Aside0.mk (qan (by repeat (with_reducible first|exact HB.out|apply qab|apply qaa|apply qac)) hb);clear HB;have HB := n0_;clear n0_;(try clear hb);(try clear hb2);(try clear hk);(try clear hi))|((with_reducible refine gate_dst (N := 3) rfl ?_);refine box_event ?hg (N := 3) ?hd (cs := #[.int .i64 0,.string (⟨#[]⟩ : ByteArray),.string (⟨#[]⟩ : ByteArray)]) (t := 106) ?hr ?_;(case hd => rfl);(case hg => rfl);(case hr => first|(go_simp;done)|(go_simp;rfl));intro gb140 hg w6 hbox hb;have n0_ := Aside0.mk (qan (by repeat (with_reducible first|exact HB.out|apply qab|apply qaa|apply qac)) hb);have n1_ := Aside0.mk (hbox);have n2_ := Aside0.mk ((by rw [hg];exact (qao (by repeat (with_reducible first|exact HB.out|apply qab|apply qaa|apply qac))) : w.heap.size ≤ gb140));have n3_ := Aside0.mk ((by rw [hg];exact (qao (by repeat (with_reducible first|exact HB.out|apply qab|apply qaa|apply qac))) : w.heap.size ≤ gb140));clear HB;have HB := n0_;have BK140 := n1_;have GW140 := n2_;have GE140 := n3_;clear n0_ n1_ n2_ n3_;clear hb hbox hg;have hcz7_0 : w6.cell? ⟨gb140,0,none⟩ = some (.int .i64 0) := (qae BK140.out 0).trans rfl;have hcz7_1 : w6.cell? ⟨gb140,1,none⟩ = some (.string (⟨#[]⟩ : ByteArray)) := (qae BK140.out 1).trans rfl;have hcz7_2 : w6.cell? ⟨gb140,2,none⟩ = some (.string (⟨#[]⟩ : ByteArray)) := (qae BK140.out 2).trans rfl;have hfz7_0 := qad BK140.out 0;have hfz7_1 := qad BK140.out 1;have hfz7_2 := qad BK140.out 2)|(go_at_call 108;(with_reducible refine (version_Print.calls k t136 t137 t138 t141 _ (by first|exact hG|exact GL.below hG (by repeat (first|(with_reducible first|exact HB.out|apply qab|apply qaa|apply qac|refine qaf ?_ GE140.out)|exact HB.out)))  A4.out).mono ?_);rintro e w8 ⟨rfl,hb⟩;have n0_ := Aside0.mk (qap (g := gb140) (o := .cells #[.int .i64 t136,.string t137,.string t138] 106 (0,0)) (by (with_reducible repeat (first|refine qah ?_ _|refine qai ?_|refine qag ?_ _));refine blk_put (cs := #[.int .i64 t136,.string t137,.string (⟨#[]⟩ : ByteArray)]) ?_ 2 _ rfl;(with_reducible repeat (first|refine qah ?_ _|refine qai ?_|refine qag ?_ _));refine blk_put (cs := #[.int .i64 t136,.string (⟨#[]⟩ : ByteArray),.string (⟨#[]⟩ : ByteArray)]) ?_ 1 _ rfl;(with_reducible repeat (first|refine qah ?_ _|refine qai ?_|refine qag ?_ _));refine blk_put (cs := #[.int .i64 0,.string (⟨#[]⟩ : ByteArray),.string (⟨#[]⟩ : ByteArray)]) ?_ 0 _ rfl;(with_reducible repeat (first|refine qah ?_ _|refine qai ?_|refine qag ?_ _));exact BK140.out) hb);have n1_ := Aside0.mk (qan (by repeat (first|(with_reducible first|exact HB.out|apply qab|apply qaa|apply qac|refine qaf ?_ GE140.out)|exact HB.out)) hb);clear BK140;clear HB;have BK140 := n0_;have HB := n1_;clear n0_ n1_;(try clear hb);(try clear hb2);(try clear hk);(try clear hi)))
  go_ret
  exact ⟨by first|rfl|(simp [qaj,qak]<;>rfl)|(simp [*,qaj,qak]<;>rfl),by repeat (first|(with_reducible first|exact HB.out|apply qab|apply qaa|apply qac|refine qaf ?_ GE140.out)|exact HB.out)⟩
 ·rw [if_neg c3] at H
  have c3b0 : (t139 == 0) = false := beq_eq_false_iff_ne.mpr c3
  have c3b1 : (t139 != 0) = true := bne_iff_ne.mpr c3
  obtain rfl := Option.some.inj H
  go_enter Tryz.func111,Tryz.ntmps111
  go_wp2_with (first|((with_reducible refine qal (f := 89) rfl ?_);refine goesL_ (some 7) rfl rfl Tryz.func89 (by kernel_rfl) rfl #[.string a0] rfl (by first|rfl|(simp only [List.map_toArray,List.map_cons,List.map_nil,List.length_drop,List.length_take];rfl)|simp only [List.map_toArray,List.map_cons,List.map_nil]) ?_;(with_reducible refine (version_Parse.calls k a0 t136 t137 t138 t139 _ (by first|exact hG|exact GL.below hG (by repeat (with_reducible first|exact HB.out|apply qab|apply qaa|apply qac)))  A2.out).mono ?_);rintro e w9 ⟨rfl,hb⟩;refine ⟨_,rfl,?_⟩;have n0_ := Aside0.mk (qan (by repeat (with_reducible first|exact HB.out|apply qab|apply qaa|apply qac)) hb);clear HB;have HB := n0_;clear n0_;(try clear hb);(try clear hb2);(try clear hk);(try clear hi))|((with_reducible refine gate_dst (N := 3) rfl ?_);refine box_event ?hg (N := 3) ?hd (cs := #[.int .i64 0,.string (⟨#[]⟩ : ByteArray),.string (⟨#[]⟩ : ByteArray)]) (t := 106) ?hr ?_;(case hd => rfl);(case hg => rfl);(case hr => first|(go_simp;done)|(go_simp;rfl));intro gb140 hg w10 hbox hb;have n0_ := Aside0.mk (qan (by repeat (with_reducible first|exact HB.out|apply qab|apply qaa|apply qac)) hb);have n1_ := Aside0.mk (hbox);have n2_ := Aside0.mk ((by rw [hg];exact (qao (by repeat (with_reducible first|exact HB.out|apply qab|apply qaa|apply qac))) : w.heap.size ≤ gb140));have n3_ := Aside0.mk ((by rw [hg];exact (qao (by repeat (with_reducible first|exact HB.out|apply qab|apply qaa|apply qac))) : w.heap.size ≤ gb140));clear HB;have HB := n0_;have BK140 := n1_;have GW140 := n2_;have GE140 := n3_;clear n0_ n1_ n2_ n3_;clear hb hbox hg;have hcz11_0 : w10.cell? ⟨gb140,0,none⟩ = some (.int .i64 0) := (qae BK140.out 0).trans rfl;have hcz11_1 : w10.cell? ⟨gb140,1,none⟩ = some (.string (⟨#[]⟩ : ByteArray)) := (qae BK140.out 1).trans rfl;have hcz11_2 : w10.cell? ⟨gb140,2,none⟩ = some (.string (⟨#[]⟩ : ByteArray)) := (qae BK140.out 2).trans rfl;have hfz11_0 := qad BK140.out 0;have hfz11_1 := qad BK140.out 1;have hfz11_2 := qad BK140.out 2))
  go_ret
  exact ⟨by first|rfl|(simp [qaj,qak]<;>rfl)|(simp [*,qaj,qak]<;>rfl),by repeat (first|(with_reducible first|exact HB.out|apply qab|apply qaa|apply qac|refine qaf ?_ GE140.out)|exact HB.out)⟩
def relation_Right.j0 : Nat → Bool → ByteArray → Int → ByteArray → Option (Bool)
 | 0,_,_,_,_ => none
 | k + 1,x3,x143000,x143001,x143002 => if x3 = true then (some false) else (if x143001 = 0 then (some (x143002.toList == ([] : List UInt8))) else ((relation_plain.f k x143002).bind fun t144 => (some t144)))
def relation_Right.f (k : Nat) (a0_0 : ByteArray) (a0_1 : Int) (a0_2 : ByteArray) : Option (Bool) := (relation_Name.f k a0_0).bind fun t143 => (if t143 = true then (if a0_1 < 0 then (relation_Right.j0 k true a0_0 a0_1 a0_2) else (relation_Right.j0 k (decide (a0_1 > 5)) a0_0 a0_1 a0_2)) else (relation_Right.j0 k true a0_0 a0_1 a0_2))
theorem relation_Right.mono_l : ∀ k,(∀ y0 y1 y2 y3,LeO (relation_Right.j0 k y0 y1 y2 y3) (relation_Right.j0 (k + 1) y0 y1 y2 y3))
 | 0 => fun _ _ _ _ r h => by simp [relation_Right.j0] at h
 | k + 1 => by
  have ih0 := relation_Right.mono_l k
  ·intro y0 y1 y2 y3
   unfold relation_Right.j0
   repeat' first
   | (with_reducible exact ih0 _ _ _ _)
   | (with_reducible exact relation_Name.mono _ _)
   | (with_reducible exact relation_plain.mono _ _)
   | (with_reducible exact LeO.refl _)
   | (with_reducible exact LeO.none _)
   | (with_reducible refine LeO.ite ?_ ?_)
   | (with_reducible refine LeO.bind ?_ (fun _ => ?_))
theorem relation_Right.mono : ∀ a0 a1 a2 k,LeO (relation_Right.f k a0 a1 a2) (relation_Right.f (k + 1) a0 a1 a2) := by
 intro a0 a1 a2 k
 have ih0 := relation_Right.mono_l k
 unfold relation_Right.f
 repeat' first
   | (with_reducible exact ih0 _ _ _ _)
   | (with_reducible exact relation_Name.mono _ _)
   | (with_reducible exact relation_plain.mono _ _)
   | (with_reducible exact LeO.refl _)
   | (with_reducible exact LeO.none _)
   | (with_reducible refine LeO.ite ?_ ?_)
   | (with_reducible refine LeO.bind ?_ (fun _ => ?_))
theorem relation_Right.calls (k : Nat) (a0_0 : ByteArray) (a0_1 : Int) (a0_2 : ByteArray) (r : Bool) (w : World) (hG : GL w) (h : relation_Right.f k a0_0 a0_1 a0_2 = some r) :
  Calls Tryz.prog 80 #[.agg #[.string a0_0,.int .i64 a0_1,.string a0_2]] w fun e w' => e = .returned (.bool r) ∧ Below w.heap.size w w' := by
 have hu46 := Tryz.underlying46
 have HB := Aside0.mk (Below.refl w.heap.size w)
 have H : ((relation_Name.f k a0_0).bind fun t143 => (if t143 = true then (if a0_1 < 0 then (relation_Right.j0 k true a0_0 a0_1 a0_2) else (relation_Right.j0 k (decide (a0_1 > 5)) a0_0 a0_1 a0_2)) else (relation_Right.j0 k true a0_0 a0_1 a0_2))) = some r := h
 clear h
 have HC2 := Aside0.mk H
 clear H
 go_enter Tryz.func80,Tryz.ntmps80
 go_upto_region 1 with (first|((with_reducible refine gate_dst (N := 1) rfl ?_);refine box_event ?hg (N := 1) ?hd (cs := #[.string a0_0,.int .i64 a0_1,.string a0_2]) (t := 46) ?hr ?_;(case hd => rfl);(case hg => rfl);(case hr => first|(go_simp;done)|(go_simp;rfl));intro gb142 hg w3 hbox hb;have n0_ := Aside0.mk (qan (by repeat (with_reducible first|exact HB.out|apply qab|apply qaa|apply qac)) hb);have n1_ := Aside0.mk (hbox);have n2_ := Aside0.mk ((by rw [hg];exact (qao (by repeat (with_reducible first|exact HB.out|apply qab|apply qaa|apply qac))) : w.heap.size ≤ gb142));have n3_ := Aside0.mk ((by rw [hg];exact (qao (by repeat (with_reducible first|exact HB.out|apply qab|apply qaa|apply qac))) : w.heap.size ≤ gb142));clear HB;have HB := n0_;have BK142 := n1_;have GW142 := n2_;have GE142 := n3_;clear n0_ n1_ n2_ n3_;clear hb hbox hg))
 (try simp only [Act.put,List.setIfInBounds_toArray,List.set_cons_zero,List.set_cons_succ])
 go_cut [3] (fun v3 wc => ∃ (kq : Nat) (x3_1 : Bool),v3 = .bool x3_1 ∧ Aside0 (relation_Right.j0 kq x3_1 a0_0 a0_1 a0_2 = some r) ∧ Aside0 (kq ≤ k) ∧ Aside0 (wc.heap[gb142]? = some (.cells #[.string a0_0,.int .i64 a0_1,.string a0_2] 46 (0,0))) ∧ Aside0 (Below w.heap.size w wc))
 case first =>
  have H := HC2.out
  clear HC2
  replace H := Option.bind_eq_some_iff.mp H
  obtain ⟨t143,A40,H⟩ := H
  replace H : (if t143 = true then (if a0_1 < 0 then (relation_Right.j0 k true a0_0 a0_1 a0_2) else (relation_Right.j0 k (decide (a0_1 > 5)) a0_0 a0_1 a0_2)) else (relation_Right.j0 k true a0_0 a0_1 a0_2)) = some r := H
  have A4 := Aside0.mk A40
  clear A40
  by_cases c5 : t143 = true
  ·subst c5
   have H1 : (if a0_1 < 0 then (relation_Right.j0 k true a0_0 a0_1 a0_2) else (relation_Right.j0 k (decide (a0_1 > 5)) a0_0 a0_1 a0_2)) = some r := by rw [if_pos rfl] at H;exact H
   clear H
   have H := H1
   clear H1
   by_cases c6 : a0_1 < 0
   ·rw [if_pos c6] at H
    have c6b0 : decide (a0_1 < 0) = true := decide_eq_true c6
    clear c6
    (first|rw [c6b0]|(simp only [i64_w,i32_w];rw [c6b0]) | skip)
    have H' := Aside0.mk H
    clear H
    have hcz7_0 : w3.cell? ⟨gb142,0,none⟩ = some (.string a0_0) := (qae BK142.out 0).trans rfl
    have hcz7_1 : w3.cell? ⟨gb142,1,none⟩ = some (.int .i64 a0_1) := (qae BK142.out 1).trans rfl
    have hcz7_2 : w3.cell? ⟨gb142,2,none⟩ = some (.string a0_2) := (qae BK142.out 2).trans rfl
    have hfz7_0 := qad BK142.out 0
    have hfz7_1 := qad BK142.out 1
    have hfz7_2 := qad BK142.out 2
    go_wp2_with (first|((with_reducible refine qal (f := 76) rfl ?_);refine goesL_ (some 6) rfl rfl Tryz.func76 (by kernel_rfl) rfl #[.string a0_0] rfl (by first|rfl|(simp only [List.map_toArray,List.map_cons,List.map_nil,List.length_drop,List.length_take];rfl)|simp only [List.map_toArray,List.map_cons,List.map_nil]) ?_;(with_reducible refine (relation_Name.calls k a0_0 true _ (by first|exact hG|exact GL.below hG (by repeat (first|(with_reducible first|exact HB.out|apply qab|apply qaa|apply qac|refine qaf ?_ GE142.out)|exact HB.out)))  A4.out).mono ?_);rintro e w8 ⟨rfl,hb⟩;refine ⟨_,rfl,?_⟩;have n0_ := Aside0.mk (qap (g := gb142) (o := .cells #[.string a0_0,.int .i64 a0_1,.string a0_2] 46 (0,0)) (by (with_reducible repeat (first|refine qah ?_ _|refine qai ?_|refine qag ?_ _));exact BK142.out) hb);have n1_ := Aside0.mk (qan (by repeat (first|(with_reducible first|exact HB.out|apply qab|apply qaa|apply qac|refine qaf ?_ GE142.out)|exact HB.out)) hb);clear BK142;clear HB;have BK142 := n0_;have HB := n1_;clear n0_ n1_;(try clear hb);(try clear hb2);(try clear hk);(try clear hi);have hcz9_0 : w8.cell? ⟨gb142,0,none⟩ = some (.string a0_0) := (qae BK142.out 0).trans rfl;have hcz9_1 : w8.cell? ⟨gb142,1,none⟩ = some (.int .i64 a0_1) := (qae BK142.out 1).trans rfl;have hcz9_2 : w8.cell? ⟨gb142,2,none⟩ = some (.string a0_2) := (qae BK142.out 2).trans rfl;have hfz9_0 := qad BK142.out 0;have hfz9_1 := qad BK142.out 1;have hfz9_2 := qad BK142.out 2))
    go_meet
    case rel => exact ⟨_,(true),(by first|rfl|(simp;done)|(simp [*];done)|(simp [qam];done)),H',⟨by first|omega|exact Nat.le_refl _⟩,⟨by (with_reducible repeat (first|refine qah ?_ _|refine qai ?_|refine qag ?_ _));exact BK142.out⟩,⟨by repeat (first|(with_reducible first|exact HB.out|apply qab|apply qaa|apply qac|refine qaf ?_ GE142.out)|exact HB.out)⟩⟩
   ·rw [if_neg c6] at H
    have c6b0 : decide (a0_1 < 0) = false := decide_eq_false c6
    clear c6
    (first|rw [c6b0]|(simp only [i64_w,i32_w];rw [c6b0]) | skip)
    have H' := Aside0.mk H
    clear H
    have hcz10_0 : w3.cell? ⟨gb142,0,none⟩ = some (.string a0_0) := (qae BK142.out 0).trans rfl
    have hcz10_1 : w3.cell? ⟨gb142,1,none⟩ = some (.int .i64 a0_1) := (qae BK142.out 1).trans rfl
    have hcz10_2 : w3.cell? ⟨gb142,2,none⟩ = some (.string a0_2) := (qae BK142.out 2).trans rfl
    have hfz10_0 := qad BK142.out 0
    have hfz10_1 := qad BK142.out 1
    have hfz10_2 := qad BK142.out 2
    go_wp2_with (first|((with_reducible refine qal (f := 76) rfl ?_);refine goesL_ (some 6) rfl rfl Tryz.func76 (by kernel_rfl) rfl #[.string a0_0] rfl (by first|rfl|(simp only [List.map_toArray,List.map_cons,List.map_nil,List.length_drop,List.length_take];rfl)|simp only [List.map_toArray,List.map_cons,List.map_nil]) ?_;(with_reducible refine (relation_Name.calls k a0_0 true _ (by first|exact hG|exact GL.below hG (by repeat (first|(with_reducible first|exact HB.out|apply qab|apply qaa|apply qac|refine qaf ?_ GE142.out)|exact HB.out)))  A4.out).mono ?_);rintro e w11 ⟨rfl,hb⟩;refine ⟨_,rfl,?_⟩;have n0_ := Aside0.mk (qap (g := gb142) (o := .cells #[.string a0_0,.int .i64 a0_1,.string a0_2] 46 (0,0)) (by (with_reducible repeat (first|refine qah ?_ _|refine qai ?_|refine qag ?_ _));exact BK142.out) hb);have n1_ := Aside0.mk (qan (by repeat (first|(with_reducible first|exact HB.out|apply qab|apply qaa|apply qac|refine qaf ?_ GE142.out)|exact HB.out)) hb);clear BK142;clear HB;have BK142 := n0_;have HB := n1_;clear n0_ n1_;(try clear hb);(try clear hb2);(try clear hk);(try clear hi);have hcz12_0 : w11.cell? ⟨gb142,0,none⟩ = some (.string a0_0) := (qae BK142.out 0).trans rfl;have hcz12_1 : w11.cell? ⟨gb142,1,none⟩ = some (.int .i64 a0_1) := (qae BK142.out 1).trans rfl;have hcz12_2 : w11.cell? ⟨gb142,2,none⟩ = some (.string a0_2) := (qae BK142.out 2).trans rfl;have hfz12_0 := qad BK142.out 0;have hfz12_1 := qad BK142.out 1;have hfz12_2 := qad BK142.out 2))
    go_meet
    case rel => exact ⟨_,(decide (a0_1 > 5)),(by first|rfl|(simp;done)|(simp [*];done)|(simp [qam];done)),H',⟨by first|omega|exact Nat.le_refl _⟩,⟨by (with_reducible repeat (first|refine qah ?_ _|refine qai ?_|refine qag ?_ _));exact BK142.out⟩,⟨by repeat (first|(with_reducible first|exact HB.out|apply qab|apply qaa|apply qac|refine qaf ?_ GE142.out)|exact HB.out)⟩⟩
  ·replace c5 := Bool.eq_false_iff.mpr c5
   subst c5
   have H1 : (relation_Right.j0 k true a0_0 a0_1 a0_2) = some r := by rw [if_neg (show ¬ (false = true) by decide)] at H;exact H
   clear H
   have H := H1
   clear H1
   have H' := Aside0.mk H
   clear H
   have hcz13_0 : w3.cell? ⟨gb142,0,none⟩ = some (.string a0_0) := (qae BK142.out 0).trans rfl
   have hcz13_1 : w3.cell? ⟨gb142,1,none⟩ = some (.int .i64 a0_1) := (qae BK142.out 1).trans rfl
   have hcz13_2 : w3.cell? ⟨gb142,2,none⟩ = some (.string a0_2) := (qae BK142.out 2).trans rfl
   have hfz13_0 := qad BK142.out 0
   have hfz13_1 := qad BK142.out 1
   have hfz13_2 := qad BK142.out 2
   go_wp2_with (first|((with_reducible refine qal (f := 76) rfl ?_);refine goesL_ (some 6) rfl rfl Tryz.func76 (by kernel_rfl) rfl #[.string a0_0] rfl (by first|rfl|(simp only [List.map_toArray,List.map_cons,List.map_nil,List.length_drop,List.length_take];rfl)|simp only [List.map_toArray,List.map_cons,List.map_nil]) ?_;(with_reducible refine (relation_Name.calls k a0_0 false _ (by first|exact hG|exact GL.below hG (by repeat (first|(with_reducible first|exact HB.out|apply qab|apply qaa|apply qac|refine qaf ?_ GE142.out)|exact HB.out)))  A4.out).mono ?_);rintro e w14 ⟨rfl,hb⟩;refine ⟨_,rfl,?_⟩;have n0_ := Aside0.mk (qap (g := gb142) (o := .cells #[.string a0_0,.int .i64 a0_1,.string a0_2] 46 (0,0)) (by (with_reducible repeat (first|refine qah ?_ _|refine qai ?_|refine qag ?_ _));exact BK142.out) hb);have n1_ := Aside0.mk (qan (by repeat (first|(with_reducible first|exact HB.out|apply qab|apply qaa|apply qac|refine qaf ?_ GE142.out)|exact HB.out)) hb);clear BK142;clear HB;have BK142 := n0_;have HB := n1_;clear n0_ n1_;(try clear hb);(try clear hb2);(try clear hk);(try clear hi)))
   go_meet
   case rel => exact ⟨_,(true),(by first|rfl|(simp;done)|(simp [*];done)|(simp [qam];done)),H',⟨by first|omega|exact Nat.le_refl _⟩,⟨by (with_reducible repeat (first|refine qah ?_ _|refine qai ?_|refine qag ?_ _));exact BK142.out⟩,⟨by repeat (first|(with_reducible first|exact HB.out|apply qab|apply qaa|apply qac|refine qaf ?_ GE142.out)|exact HB.out)⟩⟩
 case rest =>
  clear HC2
  try clear p2
  try clear c5
  try clear c6
  try clear c6b0
  try clear c7
  try clear c8
  try clear hcz10_0
  try clear hcz10_1
  try clear hcz10_2
  try clear hcz12_0
  try clear hcz12_1
  try clear hcz12_2
  try clear hcz13_0
  try clear hcz13_1
  try clear hcz13_2
  try clear hcz7_0
  try clear hcz7_1
  try clear hcz7_2
  try clear hcz9_0
  try clear hcz9_1
  try clear hcz9_2
  try clear hfz10_0
  try clear hfz10_1
  try clear hfz10_2
  try clear hfz12_0
  try clear hfz12_1
  try clear hfz12_2
  try clear hfz13_0
  try clear hfz13_1
  try clear hfz13_2
  try clear hfz7_0
  try clear hfz7_1
  try clear hfz7_2
  try clear hfz9_0
  try clear hfz9_1
  try clear hfz9_2
  obtain ⟨kq,x3_1,rfl,HA,HJ1,BK142,HB⟩ := hcut
  cases kq with
  | zero => exact absurd HA.out (by simp [relation_Right.j0])
  | succ kj1 =>
   have H := HA.out
   clear HA
   simp only [relation_Right.j0] at H
   by_cases c15 : x3_1 = true
   ·subst c15
    have H1 : (some false) = some r := by rw [if_pos rfl] at H;exact H
    clear H
    have H := H1
    clear H1
    obtain rfl := Option.some.inj H
    go_wp2
    go_ret
    exact ⟨by first|rfl|(simp [qaj,qak]<;>rfl)|(simp [*,qaj,qak]<;>rfl),by repeat (first|(with_reducible first|exact HB.out|apply qab|apply qaa|apply qac|refine qaf ?_ GE142.out)|exact HB.out)⟩
   ·replace c15 := Bool.eq_false_iff.mpr c15
    subst c15
    have H1 : (if a0_1 = 0 then (some (a0_2.toList == ([] : List UInt8))) else ((relation_plain.f kj1 a0_2).bind fun t144 => (some t144))) = some r := by rw [if_neg (show ¬ (false = true) by decide)] at H;exact H
    clear H
    have H := H1
    clear H1
    by_cases c16 : a0_1 = 0
    ·rw [if_pos c16] at H
     have c16b0 : (a0_1 == 0) = true := beq_iff_eq.mpr c16
     have c16b1 : (a0_1 != 0) = false := bne_eq_false_iff_eq.mpr c16
     clear c16
     obtain rfl := Option.some.inj H
     have hcz17_0 : wc.cell? ⟨gb142,0,none⟩ = some (.string a0_0) := (qae BK142.out 0).trans rfl
     have hcz17_1 : wc.cell? ⟨gb142,1,none⟩ = some (.int .i64 a0_1) := (qae BK142.out 1).trans rfl
     have hcz17_2 : wc.cell? ⟨gb142,2,none⟩ = some (.string a0_2) := (qae BK142.out 2).trans rfl
     have hfz17_0 := qad BK142.out 0
     have hfz17_1 := qad BK142.out 1
     have hfz17_2 := qad BK142.out 2
     go_wp2
     go_ret
     exact ⟨by first|rfl|(simp [qaj,qak]<;>rfl)|(simp [*,qaj,qak]<;>rfl),by repeat (first|(with_reducible first|exact HB.out|apply qab|apply qaa|apply qac|refine qaf ?_ GE142.out)|exact HB.out)⟩
    ·rw [if_neg c16] at H
     have c16b0 : (a0_1 == 0) = false := beq_eq_false_iff_ne.mpr c16
     have c16b1 : (a0_1 != 0) = true := bne_iff_ne.mpr c16
     replace H := Option.bind_eq_some_iff.mp H
     obtain ⟨t144,A180,H⟩ := H
     replace H : (some t144) = some r := H
     have A18 := Aside0.mk A180
     clear A180
     obtain rfl := Option.some.inj H
     have hcz19_0 : wc.cell? ⟨gb142,0,none⟩ = some (.string a0_0) := (qae BK142.out 0).trans rfl
     have hcz19_1 : wc.cell? ⟨gb142,1,none⟩ = some (.int .i64 a0_1) := (qae BK142.out 1).trans rfl
     have hcz19_2 : wc.cell? ⟨gb142,2,none⟩ = some (.string a0_2) := (qae BK142.out 2).trans rfl
     have hfz19_0 := qad BK142.out 0
     have hfz19_1 := qad BK142.out 1
     have hfz19_2 := qad BK142.out 2
     go_wp2_with (first|((with_reducible refine qal (f := 111) rfl ?_);refine goesL_ (some 27) rfl rfl Tryz.func111 (by kernel_rfl) rfl #[.string a0_2] rfl (by first|rfl|(simp only [List.map_toArray,List.map_cons,List.map_nil,List.length_drop,List.length_take];rfl)|simp only [List.map_toArray,List.map_cons,List.map_nil]) ?_;(with_reducible refine (relation_plain.calls kj1 a0_2 t144 _ (by first|exact hG|exact GL.below hG (by repeat (first|(with_reducible first|exact HB.out|apply qab|apply qaa|apply qac|refine qaf ?_ GE142.out)|exact HB.out)))  A18.out).mono ?_);rintro e w20 ⟨rfl,hb⟩;refine ⟨_,rfl,?_⟩;have n0_ := Aside0.mk (qap (g := gb142) (o := .cells #[.string a0_0,.int .i64 a0_1,.string a0_2] 46 (0,0)) (by (with_reducible repeat (first|refine qah ?_ _|refine qai ?_|refine qag ?_ _));exact BK142.out) hb);have n1_ := Aside0.mk (qan (by repeat (first|(with_reducible first|exact HB.out|apply qab|apply qaa|apply qac|refine qaf ?_ GE142.out)|exact HB.out)) hb);clear BK142;clear HB;have BK142 := n0_;have HB := n1_;clear n0_ n1_;(try clear hb);(try clear hb2);(try clear hk);(try clear hi)))
     go_ret
     exact ⟨by first|rfl|(simp [qaj,qak]<;>rfl)|(simp [*,qaj,qak]<;>rfl),by repeat (first|(with_reducible first|exact HB.out|apply qab|apply qaa|apply qac|refine qaf ?_ GE142.out)|exact HB.out)⟩
def depends_Right_1.f (k : Nat) (a0_0 : ByteArray) (a0_1 : Int) (a0_2 : ByteArray) : Option (Bool) := (relation_Right.f k a0_0 a0_1 a0_2).bind fun t146 => (some (!t146))
theorem depends_Right_1.mono : ∀ a0 a1 a2 k,LeO (depends_Right_1.f k a0 a1 a2) (depends_Right_1.f (k + 1) a0 a1 a2) := by
 intro a0 a1 a2 k
 unfold depends_Right_1.f
 repeat' first
   | (with_reducible exact relation_Right.mono _ _ _ _)
   | (with_reducible exact LeO.refl _)
   | (with_reducible exact LeO.none _)
   | (with_reducible refine LeO.ite ?_ ?_)
   | (with_reducible refine LeO.bind ?_ (fun _ => ?_))
theorem depends_Right_1.calls (k : Nat) (a0_0 : ByteArray) (a0_1 : Int) (a0_2 : ByteArray) (r : Bool) (w : World) (hG : GL w) (h : depends_Right_1.f k a0_0 a0_1 a0_2 = some r) :
  Calls Tryz.prog 109 #[.agg #[.string a0_0,.int .i64 a0_1,.string a0_2]] w fun e w' => e = .returned (.bool r) ∧ Below w.heap.size w w' := by
 have hu46 := Tryz.underlying46
 have HB := Aside0.mk (Below.refl w.heap.size w)
 have H : ((relation_Right.f k a0_0 a0_1 a0_2).bind fun t146 => (some (!t146))) = some r := h
 clear h
 replace H := Option.bind_eq_some_iff.mp H
 obtain ⟨t146,A20,H⟩ := H
 replace H : (some (!t146)) = some r := H
 have A2 := Aside0.mk A20
 clear A20
 obtain rfl := Option.some.inj H
 go_enter Tryz.func109,Tryz.ntmps109
 go_wp2_with (first|((with_reducible refine gate_dst (N := 1) rfl ?_);refine box_event ?hg (N := 1) ?hd (cs := #[.string a0_0,.int .i64 a0_1,.string a0_2]) (t := 46) ?hr ?_;(case hd => rfl);(case hg => rfl);(case hr => first|(go_simp;done)|(go_simp;rfl));intro gb145 hg w3 hbox hb;have n0_ := Aside0.mk (qan (by repeat (with_reducible first|exact HB.out|apply qab|apply qaa|apply qac)) hb);have n1_ := Aside0.mk (hbox);have n2_ := Aside0.mk ((by rw [hg];exact (qao (by repeat (with_reducible first|exact HB.out|apply qab|apply qaa|apply qac))) : w.heap.size ≤ gb145));have n3_ := Aside0.mk ((by rw [hg];exact (qao (by repeat (with_reducible first|exact HB.out|apply qab|apply qaa|apply qac))) : w.heap.size ≤ gb145));clear HB;have HB := n0_;have BK145 := n1_;have GW145 := n2_;have GE145 := n3_;clear n0_ n1_ n2_ n3_;clear hb hbox hg;have hcz4_0 : w3.cell? ⟨gb145,0,none⟩ = some (.string a0_0) := (qae BK145.out 0).trans rfl;have hcz4_1 : w3.cell? ⟨gb145,1,none⟩ = some (.int .i64 a0_1) := (qae BK145.out 1).trans rfl;have hcz4_2 : w3.cell? ⟨gb145,2,none⟩ = some (.string a0_2) := (qae BK145.out 2).trans rfl;have hfz4_0 := qad BK145.out 0;have hfz4_1 := qad BK145.out 1;have hfz4_2 := qad BK145.out 2)|((with_reducible refine qal (f := 80) rfl ?_);refine goesL_ (some 4) rfl rfl Tryz.func80 (by kernel_rfl) rfl #[.agg #[.string a0_0,.int .i64 a0_1,.string a0_2]] rfl (by first|rfl|(simp only [List.map_toArray,List.map_cons,List.map_nil,List.length_drop,List.length_take];rfl)|simp only [List.map_toArray,List.map_cons,List.map_nil]) ?_;(with_reducible refine (relation_Right.calls k a0_0 a0_1 a0_2 t146 _ (by first|exact hG|exact GL.below hG (by repeat (first|(with_reducible first|exact HB.out|apply qab|apply qaa|apply qac|refine qaf ?_ GE145.out)|exact HB.out)))  A2.out).mono ?_);rintro e w5 ⟨rfl,hb⟩;refine ⟨_,rfl,?_⟩;have n0_ := Aside0.mk (qap (g := gb145) (o := .cells #[.string a0_0,.int .i64 a0_1,.string a0_2] 46 (0,0)) (by (with_reducible repeat (first|refine qah ?_ _|refine qai ?_|refine qag ?_ _));exact BK145.out) hb);have n1_ := Aside0.mk (qan (by repeat (first|(with_reducible first|exact HB.out|apply qab|apply qaa|apply qac|refine qaf ?_ GE145.out)|exact HB.out)) hb);clear BK145;clear HB;have BK145 := n0_;have HB := n1_;clear n0_ n1_;(try clear hb);(try clear hb2);(try clear hk);(try clear hi)))
 go_ret
 exact ⟨by first|rfl|(simp [qaj,qak]<;>rfl)|(simp [*,qaj,qak]<;>rfl),by repeat (first|(with_reducible first|exact HB.out|apply qab|apply qaa|apply qac|refine qaf ?_ GE145.out)|exact HB.out)⟩
def api_Atom_67_109.l0 : Nat → List (S46) → Int → Int → Option (Int)
 | 0,_,_,_ => none
 | k + 1,x0,x7,x8 => if x8 < x7 then (if 0 ≤ x8 then (if x8 < (x0.length : Int) then ((depends_Right_1.f k ((rd_T46 x0 x8).f0) ((rd_T46 x0 x8).f1) ((rd_T46 x0 x8).f2)).bind fun t148 => (if t148 = true then (some x8) else (api_Atom_67_109.l0 k x0 x7 (wrap64 (x8 + 1))))) else (none)) else (none)) else (some (-1))
def api_Atom_67_109.f (k : Nat) (l0 : List (S46)) (a1 : Nat) : Option (Int) := api_Atom_67_109.l0 k l0 (l0.length : Int) 0
theorem api_Atom_67_109.mono_l : ∀ k,(∀ y0 y1 y2,LeO (api_Atom_67_109.l0 k y0 y1 y2) (api_Atom_67_109.l0 (k + 1) y0 y1 y2))
 | 0 => fun _ _ _ r h => by simp [api_Atom_67_109.l0] at h
 | k + 1 => by
  have ih0 := api_Atom_67_109.mono_l k
  ·intro y0 y1 y2
   unfold api_Atom_67_109.l0
   repeat' first
   | (with_reducible exact ih0 _ _ _)
   | (with_reducible exact depends_Right_1.mono _ _ _ _)
   | (with_reducible exact LeO.refl _)
   | (with_reducible exact LeO.none _)
   | (with_reducible refine LeO.ite ?_ ?_)
   | (with_reducible refine LeO.bind ?_ (fun _ => ?_))
theorem api_Atom_67_109.mono : ∀ a0 a1 k,LeO (api_Atom_67_109.f k a0 a1) (api_Atom_67_109.f (k + 1) a0 a1) := by
 intro a0 a1 k
 have ih0 := api_Atom_67_109.mono_l k
 unfold api_Atom_67_109.f
 repeat' first
   | (with_reducible exact ih0 _ _ _)
   | (with_reducible exact depends_Right_1.mono _ _ _ _)
   | (with_reducible exact LeO.refl _)
   | (with_reducible exact LeO.none _)
   | (with_reducible refine LeO.ite ?_ ?_)
   | (with_reducible refine LeO.bind ?_ (fun _ => ?_))
theorem api_Atom_67_109.calls (k : Nat) (A0 : Option Addr) (c0 : Nat) (l0 : List (S46)) (a1 : Nat) (r : Int) (w : World) (hG : GL w) (hr0 : Kd.C k46 w A0 l0.length l0) (hc0 : l0.length ≤ c0) (h : api_Atom_67_109.f k l0 a1 = some r) :
  Calls Tryz.prog 67 #[.slice A0 l0.length c0,.func (.func 109) #[] #[]] w fun e w' => e = .returned (.int .i64 r) ∧ Below w.heap.size w w' := by
 have hu46 := Tryz.underlying46
 have HR0 := Aside0.mk hr0
 have HC0 := Aside0.mk hc0
 clear hr0 hc0
 have HB := Aside0.mk (Below.refl w.heap.size w)
 have H : (api_Atom_67_109.l0 k l0 (l0.length : Int) 0) = some r := h
 clear h
 have H' := Aside0.mk H
 clear H
 go_enter Tryz.func67,Tryz.ntmps67
 go_wp2
 go_loopg [8] k (fun kq v8 w' => ∃ (x8_1 : Int),v8 = .int .i64 x8_1 ∧ Aside0 (api_Atom_67_109.l0 kq l0 (l0.length : Int) x8_1 = some r) ∧ Aside0 (kq ≤ k) ∧ Aside0 (Below w.heap.size w w'))
 case atStart => exact ⟨(0),(by first|rfl|(simp;done)|(simp [*];done)|(simp [qam];done)),H',⟨Nat.le_refl _⟩,⟨by repeat (with_reducible first|exact HB.out|apply qab|apply qaa|apply qac)⟩⟩
 case round =>
  clear H'
  try clear p2
  obtain ⟨x8_1,rfl,HA,HK1,HB⟩ := hrel
  cases gk with
  | zero => exact absurd HA.out (by simp [api_Atom_67_109.l0])
  | succ k1 =>
   have H := HA.out
   clear HA
   simp only [api_Atom_67_109.l0] at H
   by_cases c3 : x8_1 < (l0.length : Int)
   ·rw [if_pos c3] at H
    have c3b0 : decide (x8_1 < (l0.length : Int)) = true := decide_eq_true c3
    clear c3
    by_cases c4 : 0 ≤ x8_1
    ·rw [if_pos c4] at H
     have c4b0 : decide (0 ≤ x8_1) = true := decide_eq_true c4
     clear c4
     by_cases c5 : x8_1 < (l0.length : Int)
     ·rw [if_pos c5] at H
      have c5b0 : decide (x8_1 < (l0.length : Int)) = true := decide_eq_true c5
      clear c5
      replace H := Option.bind_eq_some_iff.mp H
      obtain ⟨t148,A60,H⟩ := H
      replace H : (if t148 = true then (some x8_1) else (api_Atom_67_109.l0 k1 l0 (l0.length : Int) (wrap64 (x8_1 + 1)))) = some r := H
      have A6 := Aside0.mk A60
      clear A60
      by_cases c7 : t148 = true
      ·subst c7
       have H1 : (some x8_1) = some r := by rw [if_pos rfl] at H;exact H
       clear H
       have H := H1
       clear H1
       obtain rfl := Option.some.inj H
       have p147 : 0 ≤ (x8_1 : Int) := of_decide_eq_true (by assumption)
       have q147 : x8_1 < (l0.length : Int) := of_decide_eq_true (by assumption)
       obtain ⟨ad147,e147,hx147_0,hx147_1,hx147_2⟩ := at_T46 HR0.out x8_1 p147 q147
       cases e147
       replace hx147_0 := (HB.out.cell (World.block_lt_of_cell? w _ hx147_0)).trans hx147_0
       replace hx147_1 := (HB.out.cell (World.block_lt_of_cell? w _ hx147_1)).trans hx147_1
       replace hx147_2 := (HB.out.cell (World.block_lt_of_cell? w _ hx147_2)).trans hx147_2
       replace p147 := eq_true p147
       replace q147 := eq_true q147
       go_wp2_with (first|(go_at_call 109;(with_reducible refine (depends_Right_1.calls k1 ((rd_T46 l0 x8_1).f0) ((rd_T46 l0 x8_1).f1) ((rd_T46 l0 x8_1).f2) true _ (by first|exact hG|exact GL.below hG (by repeat (with_reducible first|exact HB.out|apply qab|apply qaa|apply qac)))  A6.out).mono ?_);rintro e w8 ⟨rfl,hb⟩;have n0_ := Aside0.mk (qan (by repeat (with_reducible first|exact HB.out|apply qab|apply qaa|apply qac)) hb);clear HB;have HB := n0_;clear n0_;(try clear hb);(try clear hb2);(try clear hk);(try clear hi)))
       go_ret
       exact ⟨by first|rfl|(simp [qaj,qak]<;>rfl)|(simp [*,qaj,qak]<;>rfl),by repeat (with_reducible first|exact HB.out|apply qab|apply qaa|apply qac)⟩
      ·replace c7 := Bool.eq_false_iff.mpr c7
       subst c7
       have H1 : (api_Atom_67_109.l0 k1 l0 (l0.length : Int) (wrap64 (x8_1 + 1))) = some r := by rw [if_neg (show ¬ (false = true) by decide)] at H;exact H
       clear H
       have H := H1
       clear H1
       have H' := Aside0.mk H
       clear H
       have p147 : 0 ≤ (x8_1 : Int) := of_decide_eq_true (by assumption)
       have q147 : x8_1 < (l0.length : Int) := of_decide_eq_true (by assumption)
       obtain ⟨ad147,e147,hx147_0,hx147_1,hx147_2⟩ := at_T46 HR0.out x8_1 p147 q147
       cases e147
       replace hx147_0 := (HB.out.cell (World.block_lt_of_cell? w _ hx147_0)).trans hx147_0
       replace hx147_1 := (HB.out.cell (World.block_lt_of_cell? w _ hx147_1)).trans hx147_1
       replace hx147_2 := (HB.out.cell (World.block_lt_of_cell? w _ hx147_2)).trans hx147_2
       replace p147 := eq_true p147
       replace q147 := eq_true q147
       go_wp2_with (first|(go_at_call 109;(with_reducible refine (depends_Right_1.calls k1 ((rd_T46 l0 x8_1).f0) ((rd_T46 l0 x8_1).f1) ((rd_T46 l0 x8_1).f2) false _ (by first|exact hG|exact GL.below hG (by repeat (with_reducible first|exact HB.out|apply qab|apply qaa|apply qac)))  A6.out).mono ?_);rintro e w9 ⟨rfl,hb⟩;have n0_ := Aside0.mk (qan (by repeat (with_reducible first|exact HB.out|apply qab|apply qaa|apply qac)) hb);clear HB;have HB := n0_;clear n0_;(try clear hb);(try clear hb2);(try clear hk);(try clear hi)))
       go_roundg k1
       case measure => have := HK1.out;omega
       case rel => exact ⟨(wrap64 (x8_1 + 1)),(by first|rfl|(simp;done)|(simp [*];done)|(simp [qam];done)),H',⟨by have := HK1.out;omega⟩,⟨by repeat (with_reducible first|exact HB.out|apply qab|apply qaa|apply qac)⟩⟩
     ·rw [if_neg c5] at H
      exact absurd H (by simp)
    ·rw [if_neg c4] at H
     exact absurd H (by simp)
   ·rw [if_neg c3] at H
    have c3b0 : decide (x8_1 < (l0.length : Int)) = false := decide_eq_false c3
    clear c3
    obtain rfl := Option.some.inj H
    go_wp2
    go_ret
    exact ⟨by first|rfl|(simp [qaj,qak]<;>rfl)|(simp [*,qaj,qak]<;>rfl),by repeat (with_reducible first|exact HB.out|apply qab|apply qaa|apply qac)⟩
def api_Atom_47_109.f (k : Nat) (l0 : List (S46)) (a1 : Nat) : Option (Bool) := (api_Atom_67_109.f k l0 a1).bind fun t149 => (some (decide (t149 ≥ 0)))
theorem api_Atom_47_109.mono : ∀ a0 a1 k,LeO (api_Atom_47_109.f k a0 a1) (api_Atom_47_109.f (k + 1) a0 a1) := by
 intro a0 a1 k
 unfold api_Atom_47_109.f
 repeat' first
   | (with_reducible exact api_Atom_67_109.mono _ _ _)
   | (with_reducible exact LeO.refl _)
   | (with_reducible exact LeO.none _)
   | (with_reducible refine LeO.ite ?_ ?_)
   | (with_reducible refine LeO.bind ?_ (fun _ => ?_))
theorem api_Atom_47_109.calls (k : Nat) (A0 : Option Addr) (c0 : Nat) (l0 : List (S46)) (a1 : Nat) (r : Bool) (w : World) (hG : GL w) (hr0 : Kd.C k46 w A0 l0.length l0) (hc0 : l0.length ≤ c0) (h : api_Atom_47_109.f k l0 a1 = some r) :
  Calls Tryz.prog 47 #[.slice A0 l0.length c0,.func (.func 109) #[] #[]] w fun e w' => e = .returned (.bool r) ∧ Below w.heap.size w w' := by
 have HR0 := Aside0.mk hr0
 have HC0 := Aside0.mk hc0
 clear hr0 hc0
 have HB := Aside0.mk (Below.refl w.heap.size w)
 have H : ((api_Atom_67_109.f k l0 a1).bind fun t149 => (some (decide (t149 ≥ 0)))) = some r := h
 clear h
 replace H := Option.bind_eq_some_iff.mp H
 obtain ⟨t149,A30,H⟩ := H
 replace H : (some (decide (t149 ≥ 0))) = some r := H
 have A3 := Aside0.mk A30
 clear A30
 obtain rfl := Option.some.inj H
 go_enter Tryz.func47,Tryz.ntmps47
 go_wp2_with (first|((with_reducible refine qal (f := 67) rfl ?_);refine goesL_ (some 7) rfl rfl Tryz.func67 (by kernel_rfl) rfl #[.slice A0 l0.length c0,.func (.func 109) #[] #[]] rfl (by first|rfl|(simp only [List.map_toArray,List.map_cons,List.map_nil,List.length_drop,List.length_take];rfl)|simp only [List.map_toArray,List.map_cons,List.map_nil]) ?_;(with_reducible refine (api_Atom_67_109.calls k _ _ l0 a1 t149 _ (by first|exact hG|exact GL.below hG (by repeat (with_reducible first|exact HB.out|apply qab|apply qaa|apply qac)))  ?side1 ?side2 A3.out).mono ?_);(case side1 => repeat (first|exact HR0.out|(with_reducible refine Kd.C_alloc ?_ _)|(with_reducible refine Kd.C_drewN ?_ _)|(with_reducible refine Kd.C_drew ?_)));(case side2 => exact HC0.out);rintro e w4 ⟨rfl,hb⟩;refine ⟨_,rfl,?_⟩;have n0_ := Aside0.mk (qan (by repeat (with_reducible first|exact HB.out|apply qab|apply qaa|apply qac)) hb);clear HB;have HB := n0_;clear n0_;(try clear hb);(try clear hb2);(try clear hk);(try clear hi)))
 go_ret
 exact ⟨by first|rfl|(simp [qaj,qak]<;>rfl)|(simp [*,qaj,qak]<;>rfl),by repeat (with_reducible first|exact HB.out|apply qab|apply qaa|apply qac)⟩
def depends_Right.l0 : Nat → List (List (S46)) → List (List (S46)) → Int → Int → Option (Bool)
 | 0,_,_,_,_ => none
 | k + 1,x0,x5,x6,x7 => if x7 < x6 then (if 0 ≤ x7 then (if x7 < (x5.length : Int) then (if ((rd_L4 x5 x7).length : Int) = 0 then (some false) else (if ((rd_L4 x5 x7).length : Int) > 6 then (some false) else ((api_Atom_47_109.f k (rd_L4 x5 x7) 0).bind fun t151 => (if t151 = true then (some false) else (depends_Right.l0 k x0 x5 x6 (wrap64 (x7 + 1))))))) else (none)) else (none)) else (some (decide ((x0.length : Int) ≤ 12)))
def depends_Right.f (k : Nat) (l0 : List (List (S46))) : Option (Bool) := depends_Right.l0 k l0 l0 (l0.length : Int) 0
theorem depends_Right.mono_l : ∀ k,(∀ y0 y1 y2 y3,LeO (depends_Right.l0 k y0 y1 y2 y3) (depends_Right.l0 (k + 1) y0 y1 y2 y3))
 | 0 => fun _ _ _ _ r h => by simp [depends_Right.l0] at h
 | k + 1 => by
  have ih0 := depends_Right.mono_l k
  ·intro y0 y1 y2 y3
   unfold depends_Right.l0
   repeat' first
   | (with_reducible exact ih0 _ _ _ _)
   | (with_reducible exact api_Atom_47_109.mono _ _ _)
   | (with_reducible exact LeO.refl _)
   | (with_reducible exact LeO.none _)
   | (with_reducible refine LeO.ite ?_ ?_)
   | (with_reducible refine LeO.bind ?_ (fun _ => ?_))
theorem depends_Right.mono : ∀ a0 k,LeO (depends_Right.f k a0) (depends_Right.f (k + 1) a0) := by
 intro a0 k
 have ih0 := depends_Right.mono_l k
 unfold depends_Right.f
 repeat' first
   | (with_reducible exact ih0 _ _ _ _)
   | (with_reducible exact api_Atom_47_109.mono _ _ _)
   | (with_reducible exact LeO.refl _)
   | (with_reducible exact LeO.none _)
   | (with_reducible refine LeO.ite ?_ ?_)
   | (with_reducible refine LeO.bind ?_ (fun _ => ?_))
theorem depends_Right.calls (k : Nat) (A0 : Option Addr) (c0 : Nat) (l0 : List (List (S46))) (r : Bool) (w : World) (hG : GL w) (hr0 : Kd.C (Kd.slice 46 k46) w A0 l0.length l0) (hc0 : l0.length ≤ c0) (h : depends_Right.f k l0 = some r) :
  Calls Tryz.prog 78 #[.slice A0 l0.length c0] w fun e w' => e = .returned (.bool r) ∧ Below w.heap.size w w' := by
 have HR0 := Aside0.mk hr0
 have HC0 := Aside0.mk hc0
 clear hr0 hc0
 have HB := Aside0.mk (Below.refl w.heap.size w)
 have H : (depends_Right.l0 k l0 l0 (l0.length : Int) 0) = some r := h
 clear h
 have H' := Aside0.mk H
 clear H
 go_enter Tryz.func78,Tryz.ntmps78
 go_wp2
 go_loopg [7] k (fun kq v7 w' => ∃ (x7_1 : Int),v7 = .int .i64 x7_1 ∧ Aside0 (depends_Right.l0 kq l0 l0 (l0.length : Int) x7_1 = some r) ∧ Aside0 (kq ≤ k) ∧ Aside0 (Below w.heap.size w w'))
 case atStart => exact ⟨(0),(by first|rfl|(simp;done)|(simp [*];done)|(simp [qam];done)),H',⟨Nat.le_refl _⟩,⟨by repeat (with_reducible first|exact HB.out|apply qab|apply qaa|apply qac)⟩⟩
 case round =>
  clear H'
  obtain ⟨x7_1,rfl,HA,HK1,HB⟩ := hrel
  cases gk with
  | zero => exact absurd HA.out (by simp [depends_Right.l0])
  | succ k1 =>
   have H := HA.out
   clear HA
   simp only [depends_Right.l0] at H
   by_cases c2 : x7_1 < (l0.length : Int)
   ·rw [if_pos c2] at H
    have c2b0 : decide (x7_1 < (l0.length : Int)) = true := decide_eq_true c2
    clear c2
    by_cases c3 : 0 ≤ x7_1
    ·rw [if_pos c3] at H
     have c3b0 : decide (0 ≤ x7_1) = true := decide_eq_true c3
     clear c3
     by_cases c4 : x7_1 < (l0.length : Int)
     ·rw [if_pos c4] at H
      have c4b0 : decide (x7_1 < (l0.length : Int)) = true := decide_eq_true c4
      clear c4
      by_cases c5 : ((rd_L4 l0 x7_1).length : Int) = 0
      ·rw [if_pos c5] at H
       have c5b0 : (((rd_L4 l0 x7_1).length : Int) == 0) = true := beq_iff_eq.mpr c5
       have c5b1 : (((rd_L4 l0 x7_1).length : Int) != 0) = false := bne_eq_false_iff_eq.mpr c5
       clear c5
       obtain rfl := Option.some.inj H
       have p150 : 0 ≤ (x7_1 : Int) := of_decide_eq_true (by assumption)
       have q150 : x7_1 < (l0.length : Int) := of_decide_eq_true (by assumption)
       obtain ⟨ad150,A150_0,c150_0,e150,hx150_0,hl150_0,hi150_0⟩ := at_L4 HR0.out x7_1 p150 q150
       cases e150
       replace hx150_0 := (HB.out.cell (World.block_lt_of_cell? w _ hx150_0)).trans hx150_0
       have HR150_0 := Aside0.mk hi150_0
       have HC150_0 := Aside0.mk hl150_0
       clear hi150_0 hl150_0
       replace p150 := eq_true p150
       replace q150 := eq_true q150
       go_wp2
       go_ret
       exact ⟨by first|rfl|(simp [qaj,qak]<;>rfl)|(simp [*,qaj,qak]<;>rfl),by repeat (with_reducible first|exact HB.out|apply qab|apply qaa|apply qac)⟩
      ·rw [if_neg c5] at H
       have c5b0 : (((rd_L4 l0 x7_1).length : Int) == 0) = false := beq_eq_false_iff_ne.mpr c5
       have c5b1 : (((rd_L4 l0 x7_1).length : Int) != 0) = true := bne_iff_ne.mpr c5
       have c5b2 : ¬ ((rd_L4 l0 x7_1) = []) := fun h_ => c5 (by rw [h_];rfl)
       by_cases c6 : ((rd_L4 l0 x7_1).length : Int) > 6
       ·rw [if_pos c6] at H
        have c6b0 : decide (6 < ((rd_L4 l0 x7_1).length : Int)) = true := decide_eq_true c6
        have c6b1 : decide (6 < (rd_L4 l0 x7_1).length) = true := decide_eq_true (by omega)
        clear c6
        obtain rfl := Option.some.inj H
        have p150 : 0 ≤ (x7_1 : Int) := of_decide_eq_true (by assumption)
        have q150 : x7_1 < (l0.length : Int) := of_decide_eq_true (by assumption)
        obtain ⟨ad150,A150_0,c150_0,e150,hx150_0,hl150_0,hi150_0⟩ := at_L4 HR0.out x7_1 p150 q150
        cases e150
        replace hx150_0 := (HB.out.cell (World.block_lt_of_cell? w _ hx150_0)).trans hx150_0
        have HR150_0 := Aside0.mk hi150_0
        have HC150_0 := Aside0.mk hl150_0
        clear hi150_0 hl150_0
        replace p150 := eq_true p150
        replace q150 := eq_true q150
        go_wp2
        go_ret
        exact ⟨by first|rfl|(simp [qaj,qak]<;>rfl)|(simp [*,qaj,qak]<;>rfl),by repeat (with_reducible first|exact HB.out|apply qab|apply qaa|apply qac)⟩
       ·rw [if_neg c6] at H
        have c6b0 : decide (6 < ((rd_L4 l0 x7_1).length : Int)) = false := decide_eq_false c6
        have c6b1 : decide (6 < (rd_L4 l0 x7_1).length) = false := decide_eq_false (by omega)
        clear c6
        replace H := Option.bind_eq_some_iff.mp H
        obtain ⟨t151,A70,H⟩ := H
        replace H : (if t151 = true then (some false) else (depends_Right.l0 k1 l0 l0 (l0.length : Int) (wrap64 (x7_1 + 1)))) = some r := H
        have A7 := Aside0.mk A70
        clear A70
        by_cases c8 : t151 = true
        ·subst c8
         have H1 : (some false) = some r := by rw [if_pos rfl] at H;exact H
         clear H
         have H := H1
         clear H1
         obtain rfl := Option.some.inj H
         have p150 : 0 ≤ (x7_1 : Int) := of_decide_eq_true (by assumption)
         have q150 : x7_1 < (l0.length : Int) := of_decide_eq_true (by assumption)
         obtain ⟨ad150,A150_0,c150_0,e150,hx150_0,hl150_0,hi150_0⟩ := at_L4 HR0.out x7_1 p150 q150
         cases e150
         replace hx150_0 := (HB.out.cell (World.block_lt_of_cell? w _ hx150_0)).trans hx150_0
         have HR150_0 := Aside0.mk hi150_0
         have HC150_0 := Aside0.mk hl150_0
         clear hi150_0 hl150_0
         replace p150 := eq_true p150
         replace q150 := eq_true q150
         go_wp2_with (first|(go_at_call 47;(with_reducible refine (api_Atom_47_109.calls k1 _ _ (rd_L4 l0 x7_1) 0 true _ (by first|exact hG|exact GL.below hG (by repeat (with_reducible first|exact HB.out|apply qab|apply qaa|apply qac)))  ?side1 ?side2 A7.out).mono ?_);(case side1 => repeat (first|exact (Kd.C_below HR150_0.out HB.out)|(with_reducible refine Kd.C_alloc ?_ _)|(with_reducible refine Kd.C_drewN ?_ _)|(with_reducible refine Kd.C_drew ?_)));(case side2 => exact HC150_0.out);rintro e w9 ⟨rfl,hb⟩;have n0_ := Aside0.mk (qan (by repeat (with_reducible first|exact HB.out|apply qab|apply qaa|apply qac)) hb);clear HB;have HB := n0_;clear n0_;(try clear hb);(try clear hb2);(try clear hk);(try clear hi)))
         go_ret
         exact ⟨by first|rfl|(simp [qaj,qak]<;>rfl)|(simp [*,qaj,qak]<;>rfl),by repeat (with_reducible first|exact HB.out|apply qab|apply qaa|apply qac)⟩
        ·replace c8 := Bool.eq_false_iff.mpr c8
         subst c8
         have H1 : (depends_Right.l0 k1 l0 l0 (l0.length : Int) (wrap64 (x7_1 + 1))) = some r := by rw [if_neg (show ¬ (false = true) by decide)] at H;exact H
         clear H
         have H := H1
         clear H1
         have H' := Aside0.mk H
         clear H
         have p150 : 0 ≤ (x7_1 : Int) := of_decide_eq_true (by assumption)
         have q150 : x7_1 < (l0.length : Int) := of_decide_eq_true (by assumption)
         obtain ⟨ad150,A150_0,c150_0,e150,hx150_0,hl150_0,hi150_0⟩ := at_L4 HR0.out x7_1 p150 q150
         cases e150
         replace hx150_0 := (HB.out.cell (World.block_lt_of_cell? w _ hx150_0)).trans hx150_0
         have HR150_0 := Aside0.mk hi150_0
         have HC150_0 := Aside0.mk hl150_0
         clear hi150_0 hl150_0
         replace p150 := eq_true p150
         replace q150 := eq_true q150
         go_wp2_with (first|(go_at_call 47;(with_reducible refine (api_Atom_47_109.calls k1 _ _ (rd_L4 l0 x7_1) 0 false _ (by first|exact hG|exact GL.below hG (by repeat (with_reducible first|exact HB.out|apply qab|apply qaa|apply qac)))  ?side1 ?side2 A7.out).mono ?_);(case side1 => repeat (first|exact (Kd.C_below HR150_0.out HB.out)|(with_reducible refine Kd.C_alloc ?_ _)|(with_reducible refine Kd.C_drewN ?_ _)|(with_reducible refine Kd.C_drew ?_)));(case side2 => exact HC150_0.out);rintro e w10 ⟨rfl,hb⟩;have n0_ := Aside0.mk (qan (by repeat (with_reducible first|exact HB.out|apply qab|apply qaa|apply qac)) hb);clear HB;have HB := n0_;clear n0_;(try clear hb);(try clear hb2);(try clear hk);(try clear hi)))
         go_roundg k1
         case measure => have := HK1.out;omega
         case rel => exact ⟨(wrap64 (x7_1 + 1)),(by first|rfl|(simp;done)|(simp [*];done)|(simp [qam];done)),H',⟨by have := HK1.out;omega⟩,⟨by repeat (with_reducible first|exact HB.out|apply qab|apply qaa|apply qac)⟩⟩
     ·rw [if_neg c4] at H
      exact absurd H (by simp)
    ·rw [if_neg c3] at H
     exact absurd H (by simp)
   ·rw [if_neg c2] at H
    have c2b0 : decide (x7_1 < (l0.length : Int)) = false := decide_eq_false c2
    clear c2
    obtain rfl := Option.some.inj H
    go_wp2
    go_ret
    exact ⟨by first|rfl|(simp [qaj,qak]<;>rfl)|(simp [*,qaj,qak]<;>rfl),by repeat (with_reducible first|exact HB.out|apply qab|apply qaa|apply qac)⟩
def entry_given.f (a0_0 : ByteArray) (a0_1 : Int) (a0_2 : ByteArray) : Option (Bool) := if a0_1 = 0 then (some true) else (some (a0_1 == 3))
theorem entry_given.calls (a0_0 : ByteArray) (a0_1 : Int) (a0_2 : ByteArray) (r : Bool) (w : World) (hG : GL w) (h : entry_given.f a0_0 a0_1 a0_2 = some r) :
  Calls Tryz.prog 81 #[.agg #[.string a0_0,.int .i64 a0_1,.string a0_2]] w fun e w' => e = .returned (.bool r) ∧ Below w.heap.size w w' := by
 have hu46 := Tryz.underlying46
 have HB := Aside0.mk (Below.refl w.heap.size w)
 have H : (if a0_1 = 0 then (some true) else (some (a0_1 == 3))) = some r := h
 clear h
 by_cases c2 : a0_1 = 0
 ·rw [if_pos c2] at H
  have c2b0 : (a0_1 == 0) = true := beq_iff_eq.mpr c2
  have c2b1 : (a0_1 != 0) = false := bne_eq_false_iff_eq.mpr c2
  clear c2
  obtain rfl := Option.some.inj H
  go_enter Tryz.func81,Tryz.ntmps81
  go_wp2_with (first|((with_reducible refine gate_dst (N := 1) rfl ?_);refine box_event ?hg (N := 1) ?hd (cs := #[.string a0_0,.int .i64 a0_1,.string a0_2]) (t := 46) ?hr ?_;(case hd => rfl);(case hg => rfl);(case hr => first|(go_simp;done)|(go_simp;rfl));intro gb153 hg w3 hbox hb;have n0_ := Aside0.mk (qan (by repeat (with_reducible first|exact HB.out|apply qab|apply qaa|apply qac)) hb);have n1_ := Aside0.mk (hbox);have n2_ := Aside0.mk ((by rw [hg];exact (qao (by repeat (with_reducible first|exact HB.out|apply qab|apply qaa|apply qac))) : w.heap.size ≤ gb153));have n3_ := Aside0.mk ((by rw [hg];exact (qao (by repeat (with_reducible first|exact HB.out|apply qab|apply qaa|apply qac))) : w.heap.size ≤ gb153));clear HB;have HB := n0_;have BK153 := n1_;have GW153 := n2_;have GE153 := n3_;clear n0_ n1_ n2_ n3_;clear hb hbox hg;have hcz4_0 : w3.cell? ⟨gb153,0,none⟩ = some (.string a0_0) := (qae BK153.out 0).trans rfl;have hcz4_1 : w3.cell? ⟨gb153,1,none⟩ = some (.int .i64 a0_1) := (qae BK153.out 1).trans rfl;have hcz4_2 : w3.cell? ⟨gb153,2,none⟩ = some (.string a0_2) := (qae BK153.out 2).trans rfl;have hfz4_0 := qad BK153.out 0;have hfz4_1 := qad BK153.out 1;have hfz4_2 := qad BK153.out 2))
  go_ret
  exact ⟨by first|rfl|(simp [qaj,qak]<;>rfl)|(simp [*,qaj,qak]<;>rfl),by repeat (first|(with_reducible first|exact HB.out|apply qab|apply qaa|apply qac|refine qaf ?_ GE153.out)|exact HB.out)⟩
 ·rw [if_neg c2] at H
  have c2b0 : (a0_1 == 0) = false := beq_eq_false_iff_ne.mpr c2
  have c2b1 : (a0_1 != 0) = true := bne_iff_ne.mpr c2
  obtain rfl := Option.some.inj H
  go_enter Tryz.func81,Tryz.ntmps81
  go_wp2_with (first|((with_reducible refine gate_dst (N := 1) rfl ?_);refine box_event ?hg (N := 1) ?hd (cs := #[.string a0_0,.int .i64 a0_1,.string a0_2]) (t := 46) ?hr ?_;(case hd => rfl);(case hg => rfl);(case hr => first|(go_simp;done)|(go_simp;rfl));intro gb153 hg w5 hbox hb;have n0_ := Aside0.mk (qan (by repeat (with_reducible first|exact HB.out|apply qab|apply qaa|apply qac)) hb);have n1_ := Aside0.mk (hbox);have n2_ := Aside0.mk ((by rw [hg];exact (qao (by repeat (with_reducible first|exact HB.out|apply qab|apply qaa|apply qac))) : w.heap.size ≤ gb153));have n3_ := Aside0.mk ((by rw [hg];exact (qao (by repeat (with_reducible first|exact HB.out|apply qab|apply qaa|apply qac))) : w.heap.size ≤ gb153));clear HB;have HB := n0_;have BK153 := n1_;have GW153 := n2_;have GE153 := n3_;clear n0_ n1_ n2_ n3_;clear hb hbox hg;have hcz6_0 : w5.cell? ⟨gb153,0,none⟩ = some (.string a0_0) := (qae BK153.out 0).trans rfl;have hcz6_1 : w5.cell? ⟨gb153,1,none⟩ = some (.int .i64 a0_1) := (qae BK153.out 1).trans rfl;have hcz6_2 : w5.cell? ⟨gb153,2,none⟩ = some (.string a0_2) := (qae BK153.out 2).trans rfl;have hfz6_0 := qad BK153.out 0;have hfz6_1 := qad BK153.out 1;have hfz6_2 := qad BK153.out 2))
  go_ret
  exact ⟨by first|rfl|(simp [qaj,qak]<;>rfl)|(simp [*,qaj,qak]<;>rfl),by repeat (first|(with_reducible first|exact HB.out|apply qab|apply qaa|apply qac|refine qaf ?_ GE153.out)|exact HB.out)⟩
end Go.Proofs.YtiidmjmkgjfaeaaGreatDoor.PA
