
import Derived.Test.YtiidmjmkgjfaeaaGreatDoorPAx0
import Derived.Test.YtiidmjmkgjfaeaaGreatDoorPAx1
import Derived.Test.YtiidmjmkgjfaeaaGreatDoorPAx4
import Derived.Test.YtiidmjmkgjfaeaaGreatDoorPAx8
namespace Go.Proofs.YtiidmjmkgjfaeaaGreatDoor.PA
open Go.RowKit Go.Proofs.YtiidmjmkgjfaeaaGreatDoorW.PrintWords Go.Proofs.YtiidmjmkgjfaeaaGreatDoorW.PrintLast Go.Proofs.YtiidmjmkgjfaeaaGreatDoorW.PrintMore
attribute [local go_sem] max2_int min2_int max_two min_two max_three min_three max_four min_four
set_option maxHeartbeats 8000000
set_option maxRecDepth 100000
set_option linter.unusedVariables false
set_option linter.unusedSimpArgs false
attribute [local go_sem high] eqA31
def relation_Holds.j0 : Nat → Int → Bool → Int → ByteArray → ByteArray → Int → ByteArray → ByteArray → Option (Bool)
 | 0,_,_,_,_,_,_,_,_ => none
 | k + 1,x0,x29,x261000,x261001,x261002,x266000,x266001,x266002 => if x29 = true then (some false) else ((version_Compare.f k x261000 x261001 x261002 x266000 x266001 x266002).bind fun t266 => (if x0 = 1 then (some (decide (t266 < 0))) else (if x0 = 2 then (some (decide (t266 ≤ 0))) else (if x0 = 3 then (some (t266 == 0)) else (if x0 = 4 then (some (decide (t266 ≥ 0))) else (if x0 = 5 then (some (decide (t266 > 0))) else (some false)))))))
def relation_Holds.f (k : Nat) (a0 : Int) (a1 : ByteArray) (a2 : ByteArray) : Option (Bool) := if a0 = 0 then (some true) else ((version_Parse.f k a1).bind fun bt256 => ((version_Parse.f k a2).bind fun bt261 => (if bt256.2.2.2 = 0 then (relation_Holds.j0 k a0 (bt261.2.2.2 != 0) bt256.1 bt256.2.1 bt256.2.2.1 bt261.1 bt261.2.1 bt261.2.2.1) else (relation_Holds.j0 k a0 true bt256.1 bt256.2.1 bt256.2.2.1 bt261.1 bt261.2.1 bt261.2.2.1))))
theorem relation_Holds.mono_l : ∀ k,(∀ y0 y1 y2 y3 y4 y5 y6 y7,LeO (relation_Holds.j0 k y0 y1 y2 y3 y4 y5 y6 y7) (relation_Holds.j0 (k + 1) y0 y1 y2 y3 y4 y5 y6 y7))
 | 0 => fun _ _ _ _ _ _ _ _ r h => by simp [relation_Holds.j0] at h
 | k + 1 => by
  have ih0 := relation_Holds.mono_l k
  ·intro y0 y1 y2 y3 y4 y5 y6 y7
   unfold relation_Holds.j0
   repeat' first
   | (with_reducible exact ih0 _ _ _ _ _ _ _ _)
   | (with_reducible exact version_Compare.mono _ _ _ _ _ _ _)
   | (with_reducible exact version_Parse.mono _ _)
   | (with_reducible exact LeO.refl _)
   | (with_reducible exact LeO.none _)
   | (with_reducible refine LeO.ite ?_ ?_)
   | (with_reducible refine LeO.bind ?_ (fun _ => ?_))
theorem relation_Holds.mono : ∀ a0 a1 a2 k,LeO (relation_Holds.f k a0 a1 a2) (relation_Holds.f (k + 1) a0 a1 a2) := by
 intro a0 a1 a2 k
 have ih0 := relation_Holds.mono_l k
 unfold relation_Holds.f
 repeat' first
   | (with_reducible exact ih0 _ _ _ _ _ _ _ _)
   | (with_reducible exact version_Compare.mono _ _ _ _ _ _ _)
   | (with_reducible exact version_Parse.mono _ _)
   | (with_reducible exact LeO.refl _)
   | (with_reducible exact LeO.none _)
   | (with_reducible refine LeO.ite ?_ ?_)
   | (with_reducible refine LeO.bind ?_ (fun _ => ?_))
theorem relation_Holds.calls (k : Nat) (a0 : Int) (a1 : ByteArray) (a2 : ByteArray) (r : Bool) (w : World) (hG : GL w) (h : relation_Holds.f k a0 a1 a2 = some r) :
  Calls Tryz.prog 69 #[.int .i64 a0,.string a1,.string a2] w fun e w' => e = .returned (.bool r) ∧ Below w.heap.size w w' := by
 have hu106 := Tryz.underlying106
 have HB := Aside0.mk (Below.refl w.heap.size w)
 have H : (if a0 = 0 then (some true) else ((version_Parse.f k a1).bind fun bt256 => ((version_Parse.f k a2).bind fun bt261 => (if bt256.2.2.2 = 0 then (relation_Holds.j0 k a0 (bt261.2.2.2 != 0) bt256.1 bt256.2.1 bt256.2.2.1 bt261.1 bt261.2.1 bt261.2.2.1) else (relation_Holds.j0 k a0 true bt256.1 bt256.2.1 bt256.2.2.1 bt261.1 bt261.2.1 bt261.2.2.1))))) = some r := h
 clear h
 by_cases c4 : a0 = 0
 ·rw [if_pos c4] at H
  have c4b0 : (a0 == 0) = true := beq_iff_eq.mpr c4
  have c4b1 : (a0 != 0) = false := bne_eq_false_iff_eq.mpr c4
  clear c4
  obtain rfl := Option.some.inj H
  go_enter Tryz.func69,Tryz.ntmps69
  go_wp2
  go_ret
  exact ⟨by first|rfl|(simp [qaj,qak]<;>rfl)|(simp [*,qaj,qak]<;>rfl),by repeat (with_reducible first|exact HB.out|apply qab|apply qaa|apply qac)⟩
 ·rw [if_neg c4] at H
  have c4b0 : (a0 == 0) = false := beq_eq_false_iff_ne.mpr c4
  have c4b1 : (a0 != 0) = true := bne_iff_ne.mpr c4
  replace H := Option.bind_eq_some_iff.mp H
  obtain ⟨⟨t256,t257,t258,t259⟩,A50,H⟩ := H
  replace H : ((version_Parse.f k a2).bind fun bt261 => (if t259 = 0 then (relation_Holds.j0 k a0 (bt261.2.2.2 != 0) t256 t257 t258 bt261.1 bt261.2.1 bt261.2.2.1) else (relation_Holds.j0 k a0 true t256 t257 t258 bt261.1 bt261.2.1 bt261.2.2.1))) = some r := H
  have A5 := Aside0.mk A50
  clear A50
  replace H := Option.bind_eq_some_iff.mp H
  obtain ⟨⟨t261,t262,t263,t264⟩,A60,H⟩ := H
  replace H : (if t259 = 0 then (relation_Holds.j0 k a0 (t264 != 0) t256 t257 t258 t261 t262 t263) else (relation_Holds.j0 k a0 true t256 t257 t258 t261 t262 t263)) = some r := H
  have A6 := Aside0.mk A60
  clear A60
  have HC7 := Aside0.mk H
  clear H
  go_enter Tryz.func69,Tryz.ntmps69
  go_upto_region 5 with (first|((with_reducible refine qal (f := 89) rfl ?_);refine goesL_ (some 16) rfl rfl Tryz.func89 (by kernel_rfl) rfl #[.string a1] rfl (by first|rfl|(simp only [List.map_toArray,List.map_cons,List.map_nil,List.length_drop,List.length_take];rfl)|simp only [List.map_toArray,List.map_cons,List.map_nil]) ?_;(with_reducible refine (version_Parse.calls k a1 t256 t257 t258 t259 _ (by first|exact hG|exact GL.below hG (by repeat (with_reducible first|exact HB.out|apply qab|apply qaa|apply qac)))  A5.out).mono ?_);rintro e w8 ⟨rfl,hb⟩;refine ⟨_,rfl,?_⟩;have n0_ := Aside0.mk (qan (by repeat (with_reducible first|exact HB.out|apply qab|apply qaa|apply qac)) hb);clear HB;have HB := n0_;clear n0_;(try clear hb);(try clear hb2);(try clear hk);(try clear hi))|((with_reducible refine gate_dst (N := 7) rfl ?_);refine box_event ?hg (N := 7) ?hd (cs := #[.int .i64 0,.string (⟨#[]⟩ : ByteArray),.string (⟨#[]⟩ : ByteArray)]) (t := 106) ?hr ?_;(case hd => rfl);(case hg => rfl);(case hr => first|(go_simp;done)|(go_simp;rfl));intro gb260 hg w9 hbox hb;have n0_ := Aside0.mk (qan (by repeat (with_reducible first|exact HB.out|apply qab|apply qaa|apply qac)) hb);have n1_ := Aside0.mk (hbox);have n2_ := Aside0.mk ((by rw [hg];exact (qao (by repeat (with_reducible first|exact HB.out|apply qab|apply qaa|apply qac))) : w.heap.size ≤ gb260));have n3_ := Aside0.mk ((by rw [hg];exact (qao (by repeat (with_reducible first|exact HB.out|apply qab|apply qaa|apply qac))) : w.heap.size ≤ gb260));clear HB;have HB := n0_;have BK260 := n1_;have GW260 := n2_;have GE260 := n3_;clear n0_ n1_ n2_ n3_;clear hb hbox hg;have hcz10_0 : w9.cell? ⟨gb260,0,none⟩ = some (.int .i64 0) := (qae BK260.out 0).trans rfl;have hcz10_1 : w9.cell? ⟨gb260,1,none⟩ = some (.string (⟨#[]⟩ : ByteArray)) := (qae BK260.out 1).trans rfl;have hcz10_2 : w9.cell? ⟨gb260,2,none⟩ = some (.string (⟨#[]⟩ : ByteArray)) := (qae BK260.out 2).trans rfl;have hfz10_0 := qad BK260.out 0;have hfz10_1 := qad BK260.out 1;have hfz10_2 := qad BK260.out 2)|((with_reducible refine qal (f := 89) rfl ?_);refine goesL_ (some 21) rfl rfl Tryz.func89 (by kernel_rfl) rfl #[.string a2] rfl (by first|rfl|(simp only [List.map_toArray,List.map_cons,List.map_nil,List.length_drop,List.length_take];rfl)|simp only [List.map_toArray,List.map_cons,List.map_nil]) ?_;(with_reducible refine (version_Parse.calls k a2 t261 t262 t263 t264 _ (by first|exact hG|exact GL.below hG (by repeat (first|(with_reducible first|exact HB.out|apply qab|apply qaa|apply qac|refine qaf ?_ GE260.out)|exact HB.out)))  A6.out).mono ?_);rintro e w11 ⟨rfl,hb⟩;refine ⟨_,rfl,?_⟩;have n0_ := Aside0.mk (qap (g := gb260) (o := .cells #[.int .i64 t256,.string t257,.string t258] 106 (0,0)) (by (with_reducible repeat (first|refine qah ?_ _|refine qai ?_|refine qag ?_ _));refine blk_put (cs := #[.int .i64 t256,.string t257,.string (⟨#[]⟩ : ByteArray)]) ?_ 2 _ rfl;(with_reducible repeat (first|refine qah ?_ _|refine qai ?_|refine qag ?_ _));refine blk_put (cs := #[.int .i64 t256,.string (⟨#[]⟩ : ByteArray),.string (⟨#[]⟩ : ByteArray)]) ?_ 1 _ rfl;(with_reducible repeat (first|refine qah ?_ _|refine qai ?_|refine qag ?_ _));refine blk_put (cs := #[.int .i64 0,.string (⟨#[]⟩ : ByteArray),.string (⟨#[]⟩ : ByteArray)]) ?_ 0 _ rfl;(with_reducible repeat (first|refine qah ?_ _|refine qai ?_|refine qag ?_ _));exact BK260.out) hb);have n1_ := Aside0.mk (qan (by repeat (first|(with_reducible first|exact HB.out|apply qab|apply qaa|apply qac|refine qaf ?_ GE260.out)|exact HB.out)) hb);clear BK260;clear HB;have BK260 := n0_;have HB := n1_;clear n0_ n1_;(try clear hb);(try clear hb2);(try clear hk);(try clear hi))|((with_reducible refine gate_dst (N := 9) rfl ?_);refine box_event ?hg (N := 9) ?hd (cs := #[.int .i64 0,.string (⟨#[]⟩ : ByteArray),.string (⟨#[]⟩ : ByteArray)]) (t := 106) ?hr ?_;(case hd => rfl);(case hg => rfl);(case hr => first|(go_simp;done)|(go_simp;rfl));intro gb265 hg w12 hbox hb;have n0_ := Aside0.mk (qap (g := gb260) (o := .cells #[.int .i64 t256,.string t257,.string t258] 106 (0,0)) (by (with_reducible repeat (first|refine qah ?_ _|refine qai ?_|refine qag ?_ _));exact BK260.out) hb);have n1_ := Aside0.mk (qan (by repeat (first|(with_reducible first|exact HB.out|apply qab|apply qaa|apply qac|refine qaf ?_ GE260.out)|exact HB.out)) hb);have n2_ := Aside0.mk (hbox);have n3_ := Aside0.mk ((by rw [hg];exact (qao (by repeat (first|(with_reducible first|exact HB.out|apply qab|apply qaa|apply qac|refine qaf ?_ GE260.out)|exact HB.out))) : w.heap.size ≤ gb265));have n4_ := Aside0.mk ((by rw [hg];exact (qao (by repeat (first|(with_reducible first|exact HB.out|apply qab|apply qaa|apply qac|refine qaf ?_ GE260.out)|exact HB.out))) : w.heap.size ≤ gb265));have n5_ := Aside0.mk ((by rw [hg];exact Nat.ne_of_lt (blk_lt (g := gb260) (o := .cells #[.int .i64 t256,.string t257,.string t258] 106 (0,0)) (by (with_reducible repeat (first|refine qah ?_ _|refine qai ?_|refine qag ?_ _));exact BK260.out)) : gb260 ≠ gb265));have n6_ := Aside0.mk ((by rw [hg];exact Nat.ne_of_gt (blk_lt (g := gb260) (o := .cells #[.int .i64 t256,.string t257,.string t258] 106 (0,0)) (by (with_reducible repeat (first|refine qah ?_ _|refine qai ?_|refine qag ?_ _));exact BK260.out)) : gb265 ≠ gb260));clear BK260;clear HB;have BK260 := n0_;have HB := n1_;have BK265 := n2_;have GW265 := n3_;have GE265 := n4_;have NB260_265 := n5_;have NB265_260 := n6_;clear n0_ n1_ n2_ n3_ n4_ n5_ n6_;clear hb hbox hg;have hnb13 := NB265_260.out;have hnc13 := NB260_265.out;have hcz14_0 : w12.cell? ⟨gb265,0,none⟩ = some (.int .i64 0) := (qae BK265.out 0).trans rfl;have hcz14_1 : w12.cell? ⟨gb265,1,none⟩ = some (.string (⟨#[]⟩ : ByteArray)) := (qae BK265.out 1).trans rfl;have hcz14_2 : w12.cell? ⟨gb265,2,none⟩ = some (.string (⟨#[]⟩ : ByteArray)) := (qae BK265.out 2).trans rfl;have hfz14_0 := qad BK265.out 0;have hfz14_1 := qad BK265.out 1;have hfz14_2 := qad BK265.out 2))
  (try simp only [Act.put,List.setIfInBounds_toArray,List.set_cons_zero,List.set_cons_succ])
  go_cut [29] (fun v29 wc => ∃ (kq : Nat) (x29_6 : Bool),v29 = .bool x29_6 ∧ Aside0 (relation_Holds.j0 kq a0 x29_6 t256 t257 t258 t261 t262 t263 = some r) ∧ Aside0 (kq ≤ k) ∧ Aside0 (wc.heap[gb260]? = some (.cells #[.int .i64 t256,.string t257,.string t258] 106 (0,0))) ∧ Aside0 (wc.heap[gb265]? = some (.cells #[.int .i64 t261,.string t262,.string t263] 106 (0,0))) ∧ Aside0 (Below w.heap.size w wc))
  case first =>
   have H := HC7.out
   clear HC7
   by_cases c15 : t259 = 0
   ·rw [if_pos c15] at H
    have c15b0 : (t259 == 0) = true := beq_iff_eq.mpr c15
    have c15b1 : (t259 != 0) = false := bne_eq_false_iff_eq.mpr c15
    clear c15
    (first|rw [c15b0]|(simp only [i64_w,i32_w];rw [c15b0]) | skip)
    have H' := Aside0.mk H
    clear H
    go_wp2
    go_meet
    case rel => exact ⟨_,((t264 != 0)),(by first|rfl|(simp;done)|(simp [*];done)|(simp [qam];done)),H',⟨by first|omega|exact Nat.le_refl _⟩,⟨by (with_reducible repeat (first|refine qah ?_ _|refine qai ?_|refine qag ?_ _));refine blk_far ?_ NB260_265.out _;(with_reducible repeat (first|refine qah ?_ _|refine qai ?_|refine qag ?_ _));refine blk_far ?_ NB260_265.out _;(with_reducible repeat (first|refine qah ?_ _|refine qai ?_|refine qag ?_ _));refine blk_far ?_ NB260_265.out _;(with_reducible repeat (first|refine qah ?_ _|refine qai ?_|refine qag ?_ _));exact BK260.out⟩,⟨by (with_reducible repeat (first|refine qah ?_ _|refine qai ?_|refine qag ?_ _));refine blk_put (cs := #[.int .i64 t261,.string t262,.string (⟨#[]⟩ : ByteArray)]) ?_ 2 _ rfl;(with_reducible repeat (first|refine qah ?_ _|refine qai ?_|refine qag ?_ _));refine blk_put (cs := #[.int .i64 t261,.string (⟨#[]⟩ : ByteArray),.string (⟨#[]⟩ : ByteArray)]) ?_ 1 _ rfl;(with_reducible repeat (first|refine qah ?_ _|refine qai ?_|refine qag ?_ _));refine blk_put (cs := #[.int .i64 0,.string (⟨#[]⟩ : ByteArray),.string (⟨#[]⟩ : ByteArray)]) ?_ 0 _ rfl;(with_reducible repeat (first|refine qah ?_ _|refine qai ?_|refine qag ?_ _));exact BK265.out⟩,⟨by repeat (first|(with_reducible first|exact HB.out|apply qab|apply qaa|apply qac|refine qaf ?_ GE260.out|refine qaf ?_ GE265.out)|exact HB.out)⟩⟩
   ·rw [if_neg c15] at H
    have c15b0 : (t259 == 0) = false := beq_eq_false_iff_ne.mpr c15
    have c15b1 : (t259 != 0) = true := bne_iff_ne.mpr c15
    (first|rw [c15b0]|(simp only [i64_w,i32_w];rw [c15b0]) | skip)
    have H' := Aside0.mk H
    clear H
    go_wp2
    go_meet
    case rel => exact ⟨_,(true),(by first|rfl|(simp;done)|(simp [*];done)|(simp [qam];done)),H',⟨by first|omega|exact Nat.le_refl _⟩,⟨by (with_reducible repeat (first|refine qah ?_ _|refine qai ?_|refine qag ?_ _));refine blk_far ?_ NB260_265.out _;(with_reducible repeat (first|refine qah ?_ _|refine qai ?_|refine qag ?_ _));refine blk_far ?_ NB260_265.out _;(with_reducible repeat (first|refine qah ?_ _|refine qai ?_|refine qag ?_ _));refine blk_far ?_ NB260_265.out _;(with_reducible repeat (first|refine qah ?_ _|refine qai ?_|refine qag ?_ _));exact BK260.out⟩,⟨by (with_reducible repeat (first|refine qah ?_ _|refine qai ?_|refine qag ?_ _));refine blk_put (cs := #[.int .i64 t261,.string t262,.string (⟨#[]⟩ : ByteArray)]) ?_ 2 _ rfl;(with_reducible repeat (first|refine qah ?_ _|refine qai ?_|refine qag ?_ _));refine blk_put (cs := #[.int .i64 t261,.string (⟨#[]⟩ : ByteArray),.string (⟨#[]⟩ : ByteArray)]) ?_ 1 _ rfl;(with_reducible repeat (first|refine qah ?_ _|refine qai ?_|refine qag ?_ _));refine blk_put (cs := #[.int .i64 0,.string (⟨#[]⟩ : ByteArray),.string (⟨#[]⟩ : ByteArray)]) ?_ 0 _ rfl;(with_reducible repeat (first|refine qah ?_ _|refine qai ?_|refine qag ?_ _));exact BK265.out⟩,⟨by repeat (first|(with_reducible first|exact HB.out|apply qab|apply qaa|apply qac|refine qaf ?_ GE260.out|refine qaf ?_ GE265.out)|exact HB.out)⟩⟩
  case rest =>
   clear HC7
   try clear c1
   try clear p2
   try clear c4
   try clear c4b0
   try clear c4b1
   try clear c6
   try clear c8
   try clear c13
   try clear c15
   try clear c15b0
   try clear c15b1
   try clear hcz10_0
   try clear hcz10_1
   try clear hcz10_2
   try clear hcz14_0
   try clear hcz14_1
   try clear hcz14_2
   try clear hfz10_0
   try clear hfz10_1
   try clear hfz10_2
   try clear hfz14_0
   try clear hfz14_1
   try clear hfz14_2
   obtain ⟨kq,x29_6,rfl,HA,HJ6,BK260,BK265,HB⟩ := hcut
   cases kq with
   | zero => exact absurd HA.out (by simp [relation_Holds.j0])
   | succ kj6 =>
    have H := HA.out
    clear HA
    simp only [relation_Holds.j0] at H
    by_cases c16 : x29_6 = true
    ·subst c16
     have H1 : (some false) = some r := by rw [if_pos rfl] at H;exact H
     clear H
     have H := H1
     clear H1
     obtain rfl := Option.some.inj H
     go_wp2
     go_ret
     exact ⟨by first|rfl|(simp [qaj,qak]<;>rfl)|(simp [*,qaj,qak]<;>rfl),by repeat (first|(with_reducible first|exact HB.out|apply qab|apply qaa|apply qac|refine qaf ?_ GE260.out|refine qaf ?_ GE265.out)|exact HB.out)⟩
    ·replace c16 := Bool.eq_false_iff.mpr c16
     subst c16
     have H1 : ((version_Compare.f kj6 t256 t257 t258 t261 t262 t263).bind fun t266 => (if a0 = 1 then (some (decide (t266 < 0))) else (if a0 = 2 then (some (decide (t266 ≤ 0))) else (if a0 = 3 then (some (t266 == 0)) else (if a0 = 4 then (some (decide (t266 ≥ 0))) else (if a0 = 5 then (some (decide (t266 > 0))) else (some false))))))) = some r := by rw [if_neg (show ¬ (false = true) by decide)] at H;exact H
     clear H
     have H := H1
     clear H1
     replace H := Option.bind_eq_some_iff.mp H
     obtain ⟨t266,A170,H⟩ := H
     replace H : (if a0 = 1 then (some (decide (t266 < 0))) else (if a0 = 2 then (some (decide (t266 ≤ 0))) else (if a0 = 3 then (some (t266 == 0)) else (if a0 = 4 then (some (decide (t266 ≥ 0))) else (if a0 = 5 then (some (decide (t266 > 0))) else (some false)))))) = some r := H
     have A17 := Aside0.mk A170
     clear A170
     by_cases c18 : a0 = 1
     ·rw [if_pos c18] at H
      have c18b0 : (a0 == 1) = true := beq_iff_eq.mpr c18
      have c18b1 : (a0 != 1) = false := bne_eq_false_iff_eq.mpr c18
      clear c18
      obtain rfl := Option.some.inj H
      have hnb19 := NB260_265.out
      have hnc19 := NB265_260.out
      have hcz20_0 : wc.cell? ⟨gb260,0,none⟩ = some (.int .i64 t256) := (qae BK260.out 0).trans rfl
      have hcz20_1 : wc.cell? ⟨gb260,1,none⟩ = some (.string t257) := (qae BK260.out 1).trans rfl
      have hcz20_2 : wc.cell? ⟨gb260,2,none⟩ = some (.string t258) := (qae BK260.out 2).trans rfl
      have hfz20_0 := qad BK260.out 0
      have hfz20_1 := qad BK260.out 1
      have hfz20_2 := qad BK260.out 2
      have hcz21_0 : wc.cell? ⟨gb265,0,none⟩ = some (.int .i64 t261) := (qae BK265.out 0).trans rfl
      have hcz21_1 : wc.cell? ⟨gb265,1,none⟩ = some (.string t262) := (qae BK265.out 1).trans rfl
      have hcz21_2 : wc.cell? ⟨gb265,2,none⟩ = some (.string t263) := (qae BK265.out 2).trans rfl
      have hfz21_0 := qad BK265.out 0
      have hfz21_1 := qad BK265.out 1
      have hfz21_2 := qad BK265.out 2
      go_wp2_with (first|((with_reducible refine qal (f := 90) rfl ?_);refine goesL_ (some 32) rfl rfl Tryz.func90 (by kernel_rfl) rfl #[.agg #[.int .i64 t256,.string t257,.string t258],.agg #[.int .i64 t261,.string t262,.string t263]] rfl (by first|rfl|(simp only [List.map_toArray,List.map_cons,List.map_nil,List.length_drop,List.length_take];rfl)|simp only [List.map_toArray,List.map_cons,List.map_nil]) ?_;(with_reducible refine (version_Compare.calls kj6 t256 t257 t258 t261 t262 t263 t266 _ (by first|exact hG|exact GL.below hG (by repeat (first|(with_reducible first|exact HB.out|apply qab|apply qaa|apply qac|refine qaf ?_ GE260.out|refine qaf ?_ GE265.out)|exact HB.out)))  A17.out).mono ?_);rintro e w22 ⟨rfl,hb⟩;refine ⟨_,rfl,?_⟩;have n0_ := Aside0.mk (qap (g := gb260) (o := .cells #[.int .i64 t256,.string t257,.string t258] 106 (0,0)) (by (with_reducible repeat (first|refine qah ?_ _|refine qai ?_|refine qag ?_ _));exact BK260.out) hb);have n1_ := Aside0.mk (qap (g := gb265) (o := .cells #[.int .i64 t261,.string t262,.string t263] 106 (0,0)) (by (with_reducible repeat (first|refine qah ?_ _|refine qai ?_|refine qag ?_ _));exact BK265.out) hb);have n2_ := Aside0.mk (qan (by repeat (first|(with_reducible first|exact HB.out|apply qab|apply qaa|apply qac|refine qaf ?_ GE260.out|refine qaf ?_ GE265.out)|exact HB.out)) hb);clear BK260;clear BK265;clear HB;have BK260 := n0_;have BK265 := n1_;have HB := n2_;clear n0_ n1_ n2_;(try clear hb);(try clear hb2);(try clear hk);(try clear hi)))
      go_ret
      exact ⟨by first|rfl|(simp [qaj,qak]<;>rfl)|(simp [*,qaj,qak]<;>rfl),by repeat (first|(with_reducible first|exact HB.out|apply qab|apply qaa|apply qac|refine qaf ?_ GE260.out|refine qaf ?_ GE265.out)|exact HB.out)⟩
     ·rw [if_neg c18] at H
      have c18b0 : (a0 == 1) = false := beq_eq_false_iff_ne.mpr c18
      have c18b1 : (a0 != 1) = true := bne_iff_ne.mpr c18
      by_cases c23 : a0 = 2
      ·rw [if_pos c23] at H
       have c23b0 : (a0 == 2) = true := beq_iff_eq.mpr c23
       have c23b1 : (a0 != 2) = false := bne_eq_false_iff_eq.mpr c23
       clear c23
       obtain rfl := Option.some.inj H
       have hnb24 := NB260_265.out
       have hnc24 := NB265_260.out
       have hcz25_0 : wc.cell? ⟨gb260,0,none⟩ = some (.int .i64 t256) := (qae BK260.out 0).trans rfl
       have hcz25_1 : wc.cell? ⟨gb260,1,none⟩ = some (.string t257) := (qae BK260.out 1).trans rfl
       have hcz25_2 : wc.cell? ⟨gb260,2,none⟩ = some (.string t258) := (qae BK260.out 2).trans rfl
       have hfz25_0 := qad BK260.out 0
       have hfz25_1 := qad BK260.out 1
       have hfz25_2 := qad BK260.out 2
       have hcz26_0 : wc.cell? ⟨gb265,0,none⟩ = some (.int .i64 t261) := (qae BK265.out 0).trans rfl
       have hcz26_1 : wc.cell? ⟨gb265,1,none⟩ = some (.string t262) := (qae BK265.out 1).trans rfl
       have hcz26_2 : wc.cell? ⟨gb265,2,none⟩ = some (.string t263) := (qae BK265.out 2).trans rfl
       have hfz26_0 := qad BK265.out 0
       have hfz26_1 := qad BK265.out 1
       have hfz26_2 := qad BK265.out 2
       go_wp2_with (first|((with_reducible refine qal (f := 90) rfl ?_);refine goesL_ (some 32) rfl rfl Tryz.func90 (by kernel_rfl) rfl #[.agg #[.int .i64 t256,.string t257,.string t258],.agg #[.int .i64 t261,.string t262,.string t263]] rfl (by first|rfl|(simp only [List.map_toArray,List.map_cons,List.map_nil,List.length_drop,List.length_take];rfl)|simp only [List.map_toArray,List.map_cons,List.map_nil]) ?_;(with_reducible refine (version_Compare.calls kj6 t256 t257 t258 t261 t262 t263 t266 _ (by first|exact hG|exact GL.below hG (by repeat (first|(with_reducible first|exact HB.out|apply qab|apply qaa|apply qac|refine qaf ?_ GE260.out|refine qaf ?_ GE265.out)|exact HB.out)))  A17.out).mono ?_);rintro e w27 ⟨rfl,hb⟩;refine ⟨_,rfl,?_⟩;have n0_ := Aside0.mk (qap (g := gb260) (o := .cells #[.int .i64 t256,.string t257,.string t258] 106 (0,0)) (by (with_reducible repeat (first|refine qah ?_ _|refine qai ?_|refine qag ?_ _));exact BK260.out) hb);have n1_ := Aside0.mk (qap (g := gb265) (o := .cells #[.int .i64 t261,.string t262,.string t263] 106 (0,0)) (by (with_reducible repeat (first|refine qah ?_ _|refine qai ?_|refine qag ?_ _));exact BK265.out) hb);have n2_ := Aside0.mk (qan (by repeat (first|(with_reducible first|exact HB.out|apply qab|apply qaa|apply qac|refine qaf ?_ GE260.out|refine qaf ?_ GE265.out)|exact HB.out)) hb);clear BK260;clear BK265;clear HB;have BK260 := n0_;have BK265 := n1_;have HB := n2_;clear n0_ n1_ n2_;(try clear hb);(try clear hb2);(try clear hk);(try clear hi)))
       go_ret
       exact ⟨by first|rfl|(simp [qaj,qak]<;>rfl)|(simp [*,qaj,qak]<;>rfl),by repeat (first|(with_reducible first|exact HB.out|apply qab|apply qaa|apply qac|refine qaf ?_ GE260.out|refine qaf ?_ GE265.out)|exact HB.out)⟩
      ·rw [if_neg c23] at H
       have c23b0 : (a0 == 2) = false := beq_eq_false_iff_ne.mpr c23
       have c23b1 : (a0 != 2) = true := bne_iff_ne.mpr c23
       by_cases c28 : a0 = 3
       ·rw [if_pos c28] at H
        have c28b0 : (a0 == 3) = true := beq_iff_eq.mpr c28
        have c28b1 : (a0 != 3) = false := bne_eq_false_iff_eq.mpr c28
        clear c28
        obtain rfl := Option.some.inj H
        have hnb29 := NB260_265.out
        have hnc29 := NB265_260.out
        have hcz30_0 : wc.cell? ⟨gb260,0,none⟩ = some (.int .i64 t256) := (qae BK260.out 0).trans rfl
        have hcz30_1 : wc.cell? ⟨gb260,1,none⟩ = some (.string t257) := (qae BK260.out 1).trans rfl
        have hcz30_2 : wc.cell? ⟨gb260,2,none⟩ = some (.string t258) := (qae BK260.out 2).trans rfl
        have hfz30_0 := qad BK260.out 0
        have hfz30_1 := qad BK260.out 1
        have hfz30_2 := qad BK260.out 2
        have hcz31_0 : wc.cell? ⟨gb265,0,none⟩ = some (.int .i64 t261) := (qae BK265.out 0).trans rfl
        have hcz31_1 : wc.cell? ⟨gb265,1,none⟩ = some (.string t262) := (qae BK265.out 1).trans rfl
        have hcz31_2 : wc.cell? ⟨gb265,2,none⟩ = some (.string t263) := (qae BK265.out 2).trans rfl
        have hfz31_0 := qad BK265.out 0
        have hfz31_1 := qad BK265.out 1
        have hfz31_2 := qad BK265.out 2
        go_wp2_with (first|((with_reducible refine qal (f := 90) rfl ?_);refine goesL_ (some 32) rfl rfl Tryz.func90 (by kernel_rfl) rfl #[.agg #[.int .i64 t256,.string t257,.string t258],.agg #[.int .i64 t261,.string t262,.string t263]] rfl (by first|rfl|(simp only [List.map_toArray,List.map_cons,List.map_nil,List.length_drop,List.length_take];rfl)|simp only [List.map_toArray,List.map_cons,List.map_nil]) ?_;(with_reducible refine (version_Compare.calls kj6 t256 t257 t258 t261 t262 t263 t266 _ (by first|exact hG|exact GL.below hG (by repeat (first|(with_reducible first|exact HB.out|apply qab|apply qaa|apply qac|refine qaf ?_ GE260.out|refine qaf ?_ GE265.out)|exact HB.out)))  A17.out).mono ?_);rintro e w32 ⟨rfl,hb⟩;refine ⟨_,rfl,?_⟩;have n0_ := Aside0.mk (qap (g := gb260) (o := .cells #[.int .i64 t256,.string t257,.string t258] 106 (0,0)) (by (with_reducible repeat (first|refine qah ?_ _|refine qai ?_|refine qag ?_ _));exact BK260.out) hb);have n1_ := Aside0.mk (qap (g := gb265) (o := .cells #[.int .i64 t261,.string t262,.string t263] 106 (0,0)) (by (with_reducible repeat (first|refine qah ?_ _|refine qai ?_|refine qag ?_ _));exact BK265.out) hb);have n2_ := Aside0.mk (qan (by repeat (first|(with_reducible first|exact HB.out|apply qab|apply qaa|apply qac|refine qaf ?_ GE260.out|refine qaf ?_ GE265.out)|exact HB.out)) hb);clear BK260;clear BK265;clear HB;have BK260 := n0_;have BK265 := n1_;have HB := n2_;clear n0_ n1_ n2_;(try clear hb);(try clear hb2);(try clear hk);(try clear hi)))
        go_ret
        exact ⟨by first|rfl|(simp [qaj,qak]<;>rfl)|(simp [*,qaj,qak]<;>rfl),by repeat (first|(with_reducible first|exact HB.out|apply qab|apply qaa|apply qac|refine qaf ?_ GE260.out|refine qaf ?_ GE265.out)|exact HB.out)⟩
       ·rw [if_neg c28] at H
        have c28b0 : (a0 == 3) = false := beq_eq_false_iff_ne.mpr c28
        have c28b1 : (a0 != 3) = true := bne_iff_ne.mpr c28
        by_cases c33 : a0 = 4
        ·rw [if_pos c33] at H
         have c33b0 : (a0 == 4) = true := beq_iff_eq.mpr c33
         have c33b1 : (a0 != 4) = false := bne_eq_false_iff_eq.mpr c33
         clear c33
         obtain rfl := Option.some.inj H
         have hnb34 := NB260_265.out
         have hnc34 := NB265_260.out
         have hcz35_0 : wc.cell? ⟨gb260,0,none⟩ = some (.int .i64 t256) := (qae BK260.out 0).trans rfl
         have hcz35_1 : wc.cell? ⟨gb260,1,none⟩ = some (.string t257) := (qae BK260.out 1).trans rfl
         have hcz35_2 : wc.cell? ⟨gb260,2,none⟩ = some (.string t258) := (qae BK260.out 2).trans rfl
         have hfz35_0 := qad BK260.out 0
         have hfz35_1 := qad BK260.out 1
         have hfz35_2 := qad BK260.out 2
         have hcz36_0 : wc.cell? ⟨gb265,0,none⟩ = some (.int .i64 t261) := (qae BK265.out 0).trans rfl
         have hcz36_1 : wc.cell? ⟨gb265,1,none⟩ = some (.string t262) := (qae BK265.out 1).trans rfl
         have hcz36_2 : wc.cell? ⟨gb265,2,none⟩ = some (.string t263) := (qae BK265.out 2).trans rfl
         have hfz36_0 := qad BK265.out 0
         have hfz36_1 := qad BK265.out 1
         have hfz36_2 := qad BK265.out 2
         go_wp2_with (first|((with_reducible refine qal (f := 90) rfl ?_);refine goesL_ (some 32) rfl rfl Tryz.func90 (by kernel_rfl) rfl #[.agg #[.int .i64 t256,.string t257,.string t258],.agg #[.int .i64 t261,.string t262,.string t263]] rfl (by first|rfl|(simp only [List.map_toArray,List.map_cons,List.map_nil,List.length_drop,List.length_take];rfl)|simp only [List.map_toArray,List.map_cons,List.map_nil]) ?_;(with_reducible refine (version_Compare.calls kj6 t256 t257 t258 t261 t262 t263 t266 _ (by first|exact hG|exact GL.below hG (by repeat (first|(with_reducible first|exact HB.out|apply qab|apply qaa|apply qac|refine qaf ?_ GE260.out|refine qaf ?_ GE265.out)|exact HB.out)))  A17.out).mono ?_);rintro e w37 ⟨rfl,hb⟩;refine ⟨_,rfl,?_⟩;have n0_ := Aside0.mk (qap (g := gb260) (o := .cells #[.int .i64 t256,.string t257,.string t258] 106 (0,0)) (by (with_reducible repeat (first|refine qah ?_ _|refine qai ?_|refine qag ?_ _));exact BK260.out) hb);have n1_ := Aside0.mk (qap (g := gb265) (o := .cells #[.int .i64 t261,.string t262,.string t263] 106 (0,0)) (by (with_reducible repeat (first|refine qah ?_ _|refine qai ?_|refine qag ?_ _));exact BK265.out) hb);have n2_ := Aside0.mk (qan (by repeat (first|(with_reducible first|exact HB.out|apply qab|apply qaa|apply qac|refine qaf ?_ GE260.out|refine qaf ?_ GE265.out)|exact HB.out)) hb);clear BK260;clear BK265;clear HB;have BK260 := n0_;have BK265 := n1_;have HB := n2_;clear n0_ n1_ n2_;(try clear hb);(try clear hb2);(try clear hk);(try clear hi)))
         go_ret
         exact ⟨by first|rfl|(simp [qaj,qak]<;>rfl)|(simp [*,qaj,qak]<;>rfl),by repeat (first|(with_reducible first|exact HB.out|apply qab|apply qaa|apply qac|refine qaf ?_ GE260.out|refine qaf ?_ GE265.out)|exact HB.out)⟩
        ·rw [if_neg c33] at H
         have c33b0 : (a0 == 4) = false := beq_eq_false_iff_ne.mpr c33
         have c33b1 : (a0 != 4) = true := bne_iff_ne.mpr c33
         by_cases c38 : a0 = 5
         ·rw [if_pos c38] at H
          have c38b0 : (a0 == 5) = true := beq_iff_eq.mpr c38
          have c38b1 : (a0 != 5) = false := bne_eq_false_iff_eq.mpr c38
          clear c38
          obtain rfl := Option.some.inj H
          have hnb39 := NB260_265.out
          have hnc39 := NB265_260.out
          have hcz40_0 : wc.cell? ⟨gb260,0,none⟩ = some (.int .i64 t256) := (qae BK260.out 0).trans rfl
          have hcz40_1 : wc.cell? ⟨gb260,1,none⟩ = some (.string t257) := (qae BK260.out 1).trans rfl
          have hcz40_2 : wc.cell? ⟨gb260,2,none⟩ = some (.string t258) := (qae BK260.out 2).trans rfl
          have hfz40_0 := qad BK260.out 0
          have hfz40_1 := qad BK260.out 1
          have hfz40_2 := qad BK260.out 2
          have hcz41_0 : wc.cell? ⟨gb265,0,none⟩ = some (.int .i64 t261) := (qae BK265.out 0).trans rfl
          have hcz41_1 : wc.cell? ⟨gb265,1,none⟩ = some (.string t262) := (qae BK265.out 1).trans rfl
          have hcz41_2 : wc.cell? ⟨gb265,2,none⟩ = some (.string t263) := (qae BK265.out 2).trans rfl
          have hfz41_0 := qad BK265.out 0
          have hfz41_1 := qad BK265.out 1
          have hfz41_2 := qad BK265.out 2
          go_wp2_with (first|((with_reducible refine qal (f := 90) rfl ?_);refine goesL_ (some 32) rfl rfl Tryz.func90 (by kernel_rfl) rfl #[.agg #[.int .i64 t256,.string t257,.string t258],.agg #[.int .i64 t261,.string t262,.string t263]] rfl (by first|rfl|(simp only [List.map_toArray,List.map_cons,List.map_nil,List.length_drop,List.length_take];rfl)|simp only [List.map_toArray,List.map_cons,List.map_nil]) ?_;(with_reducible refine (version_Compare.calls kj6 t256 t257 t258 t261 t262 t263 t266 _ (by first|exact hG|exact GL.below hG (by repeat (first|(with_reducible first|exact HB.out|apply qab|apply qaa|apply qac|refine qaf ?_ GE260.out|refine qaf ?_ GE265.out)|exact HB.out)))  A17.out).mono ?_);rintro e w42 ⟨rfl,hb⟩;refine ⟨_,rfl,?_⟩;have n0_ := Aside0.mk (qap (g := gb260) (o := .cells #[.int .i64 t256,.string t257,.string t258] 106 (0,0)) (by (with_reducible repeat (first|refine qah ?_ _|refine qai ?_|refine qag ?_ _));exact BK260.out) hb);have n1_ := Aside0.mk (qap (g := gb265) (o := .cells #[.int .i64 t261,.string t262,.string t263] 106 (0,0)) (by (with_reducible repeat (first|refine qah ?_ _|refine qai ?_|refine qag ?_ _));exact BK265.out) hb);have n2_ := Aside0.mk (qan (by repeat (first|(with_reducible first|exact HB.out|apply qab|apply qaa|apply qac|refine qaf ?_ GE260.out|refine qaf ?_ GE265.out)|exact HB.out)) hb);clear BK260;clear BK265;clear HB;have BK260 := n0_;have BK265 := n1_;have HB := n2_;clear n0_ n1_ n2_;(try clear hb);(try clear hb2);(try clear hk);(try clear hi)))
          go_ret
          exact ⟨by first|rfl|(simp [qaj,qak]<;>rfl)|(simp [*,qaj,qak]<;>rfl),by repeat (first|(with_reducible first|exact HB.out|apply qab|apply qaa|apply qac|refine qaf ?_ GE260.out|refine qaf ?_ GE265.out)|exact HB.out)⟩
         ·rw [if_neg c38] at H
          have c38b0 : (a0 == 5) = false := beq_eq_false_iff_ne.mpr c38
          have c38b1 : (a0 != 5) = true := bne_iff_ne.mpr c38
          obtain rfl := Option.some.inj H
          have hnb43 := NB260_265.out
          have hnc43 := NB265_260.out
          have hcz44_0 : wc.cell? ⟨gb260,0,none⟩ = some (.int .i64 t256) := (qae BK260.out 0).trans rfl
          have hcz44_1 : wc.cell? ⟨gb260,1,none⟩ = some (.string t257) := (qae BK260.out 1).trans rfl
          have hcz44_2 : wc.cell? ⟨gb260,2,none⟩ = some (.string t258) := (qae BK260.out 2).trans rfl
          have hfz44_0 := qad BK260.out 0
          have hfz44_1 := qad BK260.out 1
          have hfz44_2 := qad BK260.out 2
          have hcz45_0 : wc.cell? ⟨gb265,0,none⟩ = some (.int .i64 t261) := (qae BK265.out 0).trans rfl
          have hcz45_1 : wc.cell? ⟨gb265,1,none⟩ = some (.string t262) := (qae BK265.out 1).trans rfl
          have hcz45_2 : wc.cell? ⟨gb265,2,none⟩ = some (.string t263) := (qae BK265.out 2).trans rfl
          have hfz45_0 := qad BK265.out 0
          have hfz45_1 := qad BK265.out 1
          have hfz45_2 := qad BK265.out 2
          go_wp2_with (first|((with_reducible refine qal (f := 90) rfl ?_);refine goesL_ (some 32) rfl rfl Tryz.func90 (by kernel_rfl) rfl #[.agg #[.int .i64 t256,.string t257,.string t258],.agg #[.int .i64 t261,.string t262,.string t263]] rfl (by first|rfl|(simp only [List.map_toArray,List.map_cons,List.map_nil,List.length_drop,List.length_take];rfl)|simp only [List.map_toArray,List.map_cons,List.map_nil]) ?_;(with_reducible refine (version_Compare.calls kj6 t256 t257 t258 t261 t262 t263 t266 _ (by first|exact hG|exact GL.below hG (by repeat (first|(with_reducible first|exact HB.out|apply qab|apply qaa|apply qac|refine qaf ?_ GE260.out|refine qaf ?_ GE265.out)|exact HB.out)))  A17.out).mono ?_);rintro e w46 ⟨rfl,hb⟩;refine ⟨_,rfl,?_⟩;have n0_ := Aside0.mk (qap (g := gb260) (o := .cells #[.int .i64 t256,.string t257,.string t258] 106 (0,0)) (by (with_reducible repeat (first|refine qah ?_ _|refine qai ?_|refine qag ?_ _));exact BK260.out) hb);have n1_ := Aside0.mk (qap (g := gb265) (o := .cells #[.int .i64 t261,.string t262,.string t263] 106 (0,0)) (by (with_reducible repeat (first|refine qah ?_ _|refine qai ?_|refine qag ?_ _));exact BK265.out) hb);have n2_ := Aside0.mk (qan (by repeat (first|(with_reducible first|exact HB.out|apply qab|apply qaa|apply qac|refine qaf ?_ GE260.out|refine qaf ?_ GE265.out)|exact HB.out)) hb);clear BK260;clear BK265;clear HB;have BK260 := n0_;have BK265 := n1_;have HB := n2_;clear n0_ n1_ n2_;(try clear hb);(try clear hb2);(try clear hk);(try clear hi)))
          go_ret
          exact ⟨by first|rfl|(simp [qaj,qak]<;>rfl)|(simp [*,qaj,qak]<;>rfl),by repeat (first|(with_reducible first|exact HB.out|apply qab|apply qaa|apply qac|refine qaf ?_ GE260.out|refine qaf ?_ GE265.out)|exact HB.out)⟩
def relation_Provides.f (k : Nat) (a0_0 : ByteArray) (a0_1 : Int) (a0_2 : ByteArray) (a1_0 : ByteArray) (a1_1 : Int) (a1_2 : ByteArray) : Option (Bool) := if a0_0.toList = a1_0.toList then (if a0_1 = 0 then (some true) else (if a1_1 = 3 then ((relation_Holds.f k a0_1 a1_2 a0_2).bind fun t269 => (some t269)) else (some false))) else (some false)
theorem relation_Provides.mono : ∀ a0 a1 a2 a3 a4 a5 k,LeO (relation_Provides.f k a0 a1 a2 a3 a4 a5) (relation_Provides.f (k + 1) a0 a1 a2 a3 a4 a5) := by
 intro a0 a1 a2 a3 a4 a5 k
 unfold relation_Provides.f
 repeat' first
   | (with_reducible exact relation_Holds.mono _ _ _ _)
   | (with_reducible exact LeO.refl _)
   | (with_reducible exact LeO.none _)
   | (with_reducible refine LeO.ite ?_ ?_)
   | (with_reducible refine LeO.bind ?_ (fun _ => ?_))
theorem relation_Provides.calls (k : Nat) (a0_0 : ByteArray) (a0_1 : Int) (a0_2 : ByteArray) (a1_0 : ByteArray) (a1_1 : Int) (a1_2 : ByteArray) (r : Bool) (w : World) (hG : GL w) (h : relation_Provides.f k a0_0 a0_1 a0_2 a1_0 a1_1 a1_2 = some r) :
  Calls Tryz.prog 51 #[.agg #[.string a0_0,.int .i64 a0_1,.string a0_2],.agg #[.string a1_0,.int .i64 a1_1,.string a1_2]] w fun e w' => e = .returned (.bool r) ∧ Below w.heap.size w w' := by
 have hu46 := Tryz.underlying46
 have HB := Aside0.mk (Below.refl w.heap.size w)
 have H : (if a0_0.toList = a1_0.toList then (if a0_1 = 0 then (some true) else (if a1_1 = 3 then ((relation_Holds.f k a0_1 a1_2 a0_2).bind fun t269 => (some t269)) else (some false))) else (some false)) = some r := h
 clear h
 by_cases c3 : a0_0.toList = a1_0.toList
 ·rw [if_pos c3] at H
  have c3b0 : (a0_0.toList == a1_0.toList) = true := beq_iff_eq.mpr c3
  have c3b1 : (a0_0.toList != a1_0.toList) = false := bne_eq_false_iff_eq.mpr c3
  clear c3
  by_cases c4 : a0_1 = 0
  ·rw [if_pos c4] at H
   have c4b0 : (a0_1 == 0) = true := beq_iff_eq.mpr c4
   have c4b1 : (a0_1 != 0) = false := bne_eq_false_iff_eq.mpr c4
   clear c4
   obtain rfl := Option.some.inj H
   go_enter Tryz.func51,Tryz.ntmps51
   go_wp2_with (first|((with_reducible refine gate_dst (N := 2) rfl ?_);refine box_event ?hg (N := 2) ?hd (cs := #[.string a0_0,.int .i64 a0_1,.string a0_2]) (t := 46) ?hr ?_;(case hd => rfl);(case hg => rfl);(case hr => first|(go_simp;done)|(go_simp;rfl));intro gb267 hg w5 hbox hb;have n0_ := Aside0.mk (qan (by repeat (with_reducible first|exact HB.out|apply qab|apply qaa|apply qac)) hb);have n1_ := Aside0.mk (hbox);have n2_ := Aside0.mk ((by rw [hg];exact (qao (by repeat (with_reducible first|exact HB.out|apply qab|apply qaa|apply qac))) : w.heap.size ≤ gb267));have n3_ := Aside0.mk ((by rw [hg];exact (qao (by repeat (with_reducible first|exact HB.out|apply qab|apply qaa|apply qac))) : w.heap.size ≤ gb267));clear HB;have HB := n0_;have BK267 := n1_;have GW267 := n2_;have GE267 := n3_;clear n0_ n1_ n2_ n3_;clear hb hbox hg)|((with_reducible refine gate_dst (N := 3) rfl ?_);refine box_event ?hg (N := 3) ?hd (cs := #[.string a1_0,.int .i64 a1_1,.string a1_2]) (t := 46) ?hr ?_;(case hd => rfl);(case hg => rfl);(case hr => first|(go_simp;done)|(go_simp;rfl));intro gb268 hg w6 hbox hb;have n0_ := Aside0.mk (qap (g := gb267) (o := .cells #[.string a0_0,.int .i64 a0_1,.string a0_2] 46 (0,0)) (by (with_reducible repeat (first|refine qah ?_ _|refine qai ?_|refine qag ?_ _));exact BK267.out) hb);have n1_ := Aside0.mk (qan (by repeat (first|(with_reducible first|exact HB.out|apply qab|apply qaa|apply qac|refine qaf ?_ GE267.out)|exact HB.out)) hb);have n2_ := Aside0.mk (hbox);have n3_ := Aside0.mk ((by rw [hg];exact (qao (by repeat (first|(with_reducible first|exact HB.out|apply qab|apply qaa|apply qac|refine qaf ?_ GE267.out)|exact HB.out))) : w.heap.size ≤ gb268));have n4_ := Aside0.mk ((by rw [hg];exact (qao (by repeat (first|(with_reducible first|exact HB.out|apply qab|apply qaa|apply qac|refine qaf ?_ GE267.out)|exact HB.out))) : w.heap.size ≤ gb268));have n5_ := Aside0.mk ((by rw [hg];exact Nat.ne_of_lt (blk_lt (g := gb267) (o := .cells #[.string a0_0,.int .i64 a0_1,.string a0_2] 46 (0,0)) (by (with_reducible repeat (first|refine qah ?_ _|refine qai ?_|refine qag ?_ _));exact BK267.out)) : gb267 ≠ gb268));have n6_ := Aside0.mk ((by rw [hg];exact Nat.ne_of_gt (blk_lt (g := gb267) (o := .cells #[.string a0_0,.int .i64 a0_1,.string a0_2] 46 (0,0)) (by (with_reducible repeat (first|refine qah ?_ _|refine qai ?_|refine qag ?_ _));exact BK267.out)) : gb268 ≠ gb267));clear BK267;clear HB;have BK267 := n0_;have HB := n1_;have BK268 := n2_;have GW268 := n3_;have GE268 := n4_;have NB267_268 := n5_;have NB268_267 := n6_;clear n0_ n1_ n2_ n3_ n4_ n5_ n6_;clear hb hbox hg;have hnb7 := NB267_268.out;have hnc7 := NB268_267.out;have hcz8_0 : w6.cell? ⟨gb267,0,none⟩ = some (.string a0_0) := (qae BK267.out 0).trans rfl;have hcz8_1 : w6.cell? ⟨gb267,1,none⟩ = some (.int .i64 a0_1) := (qae BK267.out 1).trans rfl;have hcz8_2 : w6.cell? ⟨gb267,2,none⟩ = some (.string a0_2) := (qae BK267.out 2).trans rfl;have hfz8_0 := qad BK267.out 0;have hfz8_1 := qad BK267.out 1;have hfz8_2 := qad BK267.out 2;have hcz9_0 : w6.cell? ⟨gb268,0,none⟩ = some (.string a1_0) := (qae BK268.out 0).trans rfl;have hcz9_1 : w6.cell? ⟨gb268,1,none⟩ = some (.int .i64 a1_1) := (qae BK268.out 1).trans rfl;have hcz9_2 : w6.cell? ⟨gb268,2,none⟩ = some (.string a1_2) := (qae BK268.out 2).trans rfl;have hfz9_0 := qad BK268.out 0;have hfz9_1 := qad BK268.out 1;have hfz9_2 := qad BK268.out 2))
   go_ret
   exact ⟨by first|rfl|(simp [qaj,qak]<;>rfl)|(simp [*,qaj,qak]<;>rfl),by repeat (first|(with_reducible first|exact HB.out|apply qab|apply qaa|apply qac|refine qaf ?_ GE267.out|refine qaf ?_ GE268.out)|exact HB.out)⟩
  ·rw [if_neg c4] at H
   have c4b0 : (a0_1 == 0) = false := beq_eq_false_iff_ne.mpr c4
   have c4b1 : (a0_1 != 0) = true := bne_iff_ne.mpr c4
   by_cases c10 : a1_1 = 3
   ·rw [if_pos c10] at H
    have c10b0 : (a1_1 == 3) = true := beq_iff_eq.mpr c10
    have c10b1 : (a1_1 != 3) = false := bne_eq_false_iff_eq.mpr c10
    clear c10
    replace H := Option.bind_eq_some_iff.mp H
    obtain ⟨t269,A110,H⟩ := H
    replace H : (some t269) = some r := H
    have A11 := Aside0.mk A110
    clear A110
    obtain rfl := Option.some.inj H
    go_enter Tryz.func51,Tryz.ntmps51
    go_wp2_with (first|((with_reducible refine gate_dst (N := 2) rfl ?_);refine box_event ?hg (N := 2) ?hd (cs := #[.string a0_0,.int .i64 a0_1,.string a0_2]) (t := 46) ?hr ?_;(case hd => rfl);(case hg => rfl);(case hr => first|(go_simp;done)|(go_simp;rfl));intro gb267 hg w12 hbox hb;have n0_ := Aside0.mk (qan (by repeat (with_reducible first|exact HB.out|apply qab|apply qaa|apply qac)) hb);have n1_ := Aside0.mk (hbox);have n2_ := Aside0.mk ((by rw [hg];exact (qao (by repeat (with_reducible first|exact HB.out|apply qab|apply qaa|apply qac))) : w.heap.size ≤ gb267));have n3_ := Aside0.mk ((by rw [hg];exact (qao (by repeat (with_reducible first|exact HB.out|apply qab|apply qaa|apply qac))) : w.heap.size ≤ gb267));clear HB;have HB := n0_;have BK267 := n1_;have GW267 := n2_;have GE267 := n3_;clear n0_ n1_ n2_ n3_;clear hb hbox hg)|((with_reducible refine gate_dst (N := 3) rfl ?_);refine box_event ?hg (N := 3) ?hd (cs := #[.string a1_0,.int .i64 a1_1,.string a1_2]) (t := 46) ?hr ?_;(case hd => rfl);(case hg => rfl);(case hr => first|(go_simp;done)|(go_simp;rfl));intro gb268 hg w13 hbox hb;have n0_ := Aside0.mk (qap (g := gb267) (o := .cells #[.string a0_0,.int .i64 a0_1,.string a0_2] 46 (0,0)) (by (with_reducible repeat (first|refine qah ?_ _|refine qai ?_|refine qag ?_ _));exact BK267.out) hb);have n1_ := Aside0.mk (qan (by repeat (first|(with_reducible first|exact HB.out|apply qab|apply qaa|apply qac|refine qaf ?_ GE267.out)|exact HB.out)) hb);have n2_ := Aside0.mk (hbox);have n3_ := Aside0.mk ((by rw [hg];exact (qao (by repeat (first|(with_reducible first|exact HB.out|apply qab|apply qaa|apply qac|refine qaf ?_ GE267.out)|exact HB.out))) : w.heap.size ≤ gb268));have n4_ := Aside0.mk ((by rw [hg];exact (qao (by repeat (first|(with_reducible first|exact HB.out|apply qab|apply qaa|apply qac|refine qaf ?_ GE267.out)|exact HB.out))) : w.heap.size ≤ gb268));have n5_ := Aside0.mk ((by rw [hg];exact Nat.ne_of_lt (blk_lt (g := gb267) (o := .cells #[.string a0_0,.int .i64 a0_1,.string a0_2] 46 (0,0)) (by (with_reducible repeat (first|refine qah ?_ _|refine qai ?_|refine qag ?_ _));exact BK267.out)) : gb267 ≠ gb268));have n6_ := Aside0.mk ((by rw [hg];exact Nat.ne_of_gt (blk_lt (g := gb267) (o := .cells #[.string a0_0,.int .i64 a0_1,.string a0_2] 46 (0,0)) (by (with_reducible repeat (first|refine qah ?_ _|refine qai ?_|refine qag ?_ _));exact BK267.out)) : gb268 ≠ gb267));clear BK267;clear HB;have BK267 := n0_;have HB := n1_;have BK268 := n2_;have GW268 := n3_;have GE268 := n4_;have NB267_268 := n5_;have NB268_267 := n6_;clear n0_ n1_ n2_ n3_ n4_ n5_ n6_;clear hb hbox hg;have hnb14 := NB267_268.out;have hnc14 := NB268_267.out;have hcz15_0 : w13.cell? ⟨gb267,0,none⟩ = some (.string a0_0) := (qae BK267.out 0).trans rfl;have hcz15_1 : w13.cell? ⟨gb267,1,none⟩ = some (.int .i64 a0_1) := (qae BK267.out 1).trans rfl;have hcz15_2 : w13.cell? ⟨gb267,2,none⟩ = some (.string a0_2) := (qae BK267.out 2).trans rfl;have hfz15_0 := qad BK267.out 0;have hfz15_1 := qad BK267.out 1;have hfz15_2 := qad BK267.out 2;have hcz16_0 : w13.cell? ⟨gb268,0,none⟩ = some (.string a1_0) := (qae BK268.out 0).trans rfl;have hcz16_1 : w13.cell? ⟨gb268,1,none⟩ = some (.int .i64 a1_1) := (qae BK268.out 1).trans rfl;have hcz16_2 : w13.cell? ⟨gb268,2,none⟩ = some (.string a1_2) := (qae BK268.out 2).trans rfl;have hfz16_0 := qad BK268.out 0;have hfz16_1 := qad BK268.out 1;have hfz16_2 := qad BK268.out 2)|(go_at_call 69;(with_reducible refine (relation_Holds.calls k a0_1 a1_2 a0_2 t269 _ (by first|exact hG|exact GL.below hG (by repeat (first|(with_reducible first|exact HB.out|apply qab|apply qaa|apply qac|refine qaf ?_ GE267.out|refine qaf ?_ GE268.out)|exact HB.out)))  A11.out).mono ?_);rintro e w17 ⟨rfl,hb⟩;have n0_ := Aside0.mk (qap (g := gb267) (o := .cells #[.string a0_0,.int .i64 a0_1,.string a0_2] 46 (0,0)) (by (with_reducible repeat (first|refine qah ?_ _|refine qai ?_|refine qag ?_ _));exact BK267.out) hb);have n1_ := Aside0.mk (qap (g := gb268) (o := .cells #[.string a1_0,.int .i64 a1_1,.string a1_2] 46 (0,0)) (by (with_reducible repeat (first|refine qah ?_ _|refine qai ?_|refine qag ?_ _));exact BK268.out) hb);have n2_ := Aside0.mk (qan (by repeat (first|(with_reducible first|exact HB.out|apply qab|apply qaa|apply qac|refine qaf ?_ GE267.out|refine qaf ?_ GE268.out)|exact HB.out)) hb);clear BK267;clear BK268;clear HB;have BK267 := n0_;have BK268 := n1_;have HB := n2_;clear n0_ n1_ n2_;(try clear hb);(try clear hb2);(try clear hk);(try clear hi)))
    go_ret
    exact ⟨by first|rfl|(simp [qaj,qak]<;>rfl)|(simp [*,qaj,qak]<;>rfl),by repeat (first|(with_reducible first|exact HB.out|apply qab|apply qaa|apply qac|refine qaf ?_ GE267.out|refine qaf ?_ GE268.out)|exact HB.out)⟩
   ·rw [if_neg c10] at H
    have c10b0 : (a1_1 == 3) = false := beq_eq_false_iff_ne.mpr c10
    have c10b1 : (a1_1 != 3) = true := bne_iff_ne.mpr c10
    obtain rfl := Option.some.inj H
    go_enter Tryz.func51,Tryz.ntmps51
    go_wp2_with (first|((with_reducible refine gate_dst (N := 2) rfl ?_);refine box_event ?hg (N := 2) ?hd (cs := #[.string a0_0,.int .i64 a0_1,.string a0_2]) (t := 46) ?hr ?_;(case hd => rfl);(case hg => rfl);(case hr => first|(go_simp;done)|(go_simp;rfl));intro gb267 hg w18 hbox hb;have n0_ := Aside0.mk (qan (by repeat (with_reducible first|exact HB.out|apply qab|apply qaa|apply qac)) hb);have n1_ := Aside0.mk (hbox);have n2_ := Aside0.mk ((by rw [hg];exact (qao (by repeat (with_reducible first|exact HB.out|apply qab|apply qaa|apply qac))) : w.heap.size ≤ gb267));have n3_ := Aside0.mk ((by rw [hg];exact (qao (by repeat (with_reducible first|exact HB.out|apply qab|apply qaa|apply qac))) : w.heap.size ≤ gb267));clear HB;have HB := n0_;have BK267 := n1_;have GW267 := n2_;have GE267 := n3_;clear n0_ n1_ n2_ n3_;clear hb hbox hg)|((with_reducible refine gate_dst (N := 3) rfl ?_);refine box_event ?hg (N := 3) ?hd (cs := #[.string a1_0,.int .i64 a1_1,.string a1_2]) (t := 46) ?hr ?_;(case hd => rfl);(case hg => rfl);(case hr => first|(go_simp;done)|(go_simp;rfl));intro gb268 hg w19 hbox hb;have n0_ := Aside0.mk (qap (g := gb267) (o := .cells #[.string a0_0,.int .i64 a0_1,.string a0_2] 46 (0,0)) (by (with_reducible repeat (first|refine qah ?_ _|refine qai ?_|refine qag ?_ _));exact BK267.out) hb);have n1_ := Aside0.mk (qan (by repeat (first|(with_reducible first|exact HB.out|apply qab|apply qaa|apply qac|refine qaf ?_ GE267.out)|exact HB.out)) hb);have n2_ := Aside0.mk (hbox);have n3_ := Aside0.mk ((by rw [hg];exact (qao (by repeat (first|(with_reducible first|exact HB.out|apply qab|apply qaa|apply qac|refine qaf ?_ GE267.out)|exact HB.out))) : w.heap.size ≤ gb268));have n4_ := Aside0.mk ((by rw [hg];exact (qao (by repeat (first|(with_reducible first|exact HB.out|apply qab|apply qaa|apply qac|refine qaf ?_ GE267.out)|exact HB.out))) : w.heap.size ≤ gb268));have n5_ := Aside0.mk ((by rw [hg];exact Nat.ne_of_lt (blk_lt (g := gb267) (o := .cells #[.string a0_0,.int .i64 a0_1,.string a0_2] 46 (0,0)) (by (with_reducible repeat (first|refine qah ?_ _|refine qai ?_|refine qag ?_ _));exact BK267.out)) : gb267 ≠ gb268));have n6_ := Aside0.mk ((by rw [hg];exact Nat.ne_of_gt (blk_lt (g := gb267) (o := .cells #[.string a0_0,.int .i64 a0_1,.string a0_2] 46 (0,0)) (by (with_reducible repeat (first|refine qah ?_ _|refine qai ?_|refine qag ?_ _));exact BK267.out)) : gb268 ≠ gb267));clear BK267;clear HB;have BK267 := n0_;have HB := n1_;have BK268 := n2_;have GW268 := n3_;have GE268 := n4_;have NB267_268 := n5_;have NB268_267 := n6_;clear n0_ n1_ n2_ n3_ n4_ n5_ n6_;clear hb hbox hg;have hnb20 := NB267_268.out;have hnc20 := NB268_267.out;have hcz21_0 : w19.cell? ⟨gb267,0,none⟩ = some (.string a0_0) := (qae BK267.out 0).trans rfl;have hcz21_1 : w19.cell? ⟨gb267,1,none⟩ = some (.int .i64 a0_1) := (qae BK267.out 1).trans rfl;have hcz21_2 : w19.cell? ⟨gb267,2,none⟩ = some (.string a0_2) := (qae BK267.out 2).trans rfl;have hfz21_0 := qad BK267.out 0;have hfz21_1 := qad BK267.out 1;have hfz21_2 := qad BK267.out 2;have hcz22_0 : w19.cell? ⟨gb268,0,none⟩ = some (.string a1_0) := (qae BK268.out 0).trans rfl;have hcz22_1 : w19.cell? ⟨gb268,1,none⟩ = some (.int .i64 a1_1) := (qae BK268.out 1).trans rfl;have hcz22_2 : w19.cell? ⟨gb268,2,none⟩ = some (.string a1_2) := (qae BK268.out 2).trans rfl;have hfz22_0 := qad BK268.out 0;have hfz22_1 := qad BK268.out 1;have hfz22_2 := qad BK268.out 2))
    go_ret
    exact ⟨by first|rfl|(simp [qaj,qak]<;>rfl)|(simp [*,qaj,qak]<;>rfl),by repeat (first|(with_reducible first|exact HB.out|apply qab|apply qaa|apply qac|refine qaf ?_ GE267.out|refine qaf ?_ GE268.out)|exact HB.out)⟩
 ·rw [if_neg c3] at H
  have c3b0 : (a0_0.toList == a1_0.toList) = false := beq_eq_false_iff_ne.mpr c3
  have c3b1 : (a0_0.toList != a1_0.toList) = true := bne_iff_ne.mpr c3
  obtain rfl := Option.some.inj H
  go_enter Tryz.func51,Tryz.ntmps51
  go_wp2_with (first|((with_reducible refine gate_dst (N := 2) rfl ?_);refine box_event ?hg (N := 2) ?hd (cs := #[.string a0_0,.int .i64 a0_1,.string a0_2]) (t := 46) ?hr ?_;(case hd => rfl);(case hg => rfl);(case hr => first|(go_simp;done)|(go_simp;rfl));intro gb267 hg w23 hbox hb;have n0_ := Aside0.mk (qan (by repeat (with_reducible first|exact HB.out|apply qab|apply qaa|apply qac)) hb);have n1_ := Aside0.mk (hbox);have n2_ := Aside0.mk ((by rw [hg];exact (qao (by repeat (with_reducible first|exact HB.out|apply qab|apply qaa|apply qac))) : w.heap.size ≤ gb267));have n3_ := Aside0.mk ((by rw [hg];exact (qao (by repeat (with_reducible first|exact HB.out|apply qab|apply qaa|apply qac))) : w.heap.size ≤ gb267));clear HB;have HB := n0_;have BK267 := n1_;have GW267 := n2_;have GE267 := n3_;clear n0_ n1_ n2_ n3_;clear hb hbox hg)|((with_reducible refine gate_dst (N := 3) rfl ?_);refine box_event ?hg (N := 3) ?hd (cs := #[.string a1_0,.int .i64 a1_1,.string a1_2]) (t := 46) ?hr ?_;(case hd => rfl);(case hg => rfl);(case hr => first|(go_simp;done)|(go_simp;rfl));intro gb268 hg w24 hbox hb;have n0_ := Aside0.mk (qap (g := gb267) (o := .cells #[.string a0_0,.int .i64 a0_1,.string a0_2] 46 (0,0)) (by (with_reducible repeat (first|refine qah ?_ _|refine qai ?_|refine qag ?_ _));exact BK267.out) hb);have n1_ := Aside0.mk (qan (by repeat (first|(with_reducible first|exact HB.out|apply qab|apply qaa|apply qac|refine qaf ?_ GE267.out)|exact HB.out)) hb);have n2_ := Aside0.mk (hbox);have n3_ := Aside0.mk ((by rw [hg];exact (qao (by repeat (first|(with_reducible first|exact HB.out|apply qab|apply qaa|apply qac|refine qaf ?_ GE267.out)|exact HB.out))) : w.heap.size ≤ gb268));have n4_ := Aside0.mk ((by rw [hg];exact (qao (by repeat (first|(with_reducible first|exact HB.out|apply qab|apply qaa|apply qac|refine qaf ?_ GE267.out)|exact HB.out))) : w.heap.size ≤ gb268));have n5_ := Aside0.mk ((by rw [hg];exact Nat.ne_of_lt (blk_lt (g := gb267) (o := .cells #[.string a0_0,.int .i64 a0_1,.string a0_2] 46 (0,0)) (by (with_reducible repeat (first|refine qah ?_ _|refine qai ?_|refine qag ?_ _));exact BK267.out)) : gb267 ≠ gb268));have n6_ := Aside0.mk ((by rw [hg];exact Nat.ne_of_gt (blk_lt (g := gb267) (o := .cells #[.string a0_0,.int .i64 a0_1,.string a0_2] 46 (0,0)) (by (with_reducible repeat (first|refine qah ?_ _|refine qai ?_|refine qag ?_ _));exact BK267.out)) : gb268 ≠ gb267));clear BK267;clear HB;have BK267 := n0_;have HB := n1_;have BK268 := n2_;have GW268 := n3_;have GE268 := n4_;have NB267_268 := n5_;have NB268_267 := n6_;clear n0_ n1_ n2_ n3_ n4_ n5_ n6_;clear hb hbox hg;have hnb25 := NB267_268.out;have hnc25 := NB268_267.out;have hcz26_0 : w24.cell? ⟨gb267,0,none⟩ = some (.string a0_0) := (qae BK267.out 0).trans rfl;have hcz26_1 : w24.cell? ⟨gb267,1,none⟩ = some (.int .i64 a0_1) := (qae BK267.out 1).trans rfl;have hcz26_2 : w24.cell? ⟨gb267,2,none⟩ = some (.string a0_2) := (qae BK267.out 2).trans rfl;have hfz26_0 := qad BK267.out 0;have hfz26_1 := qad BK267.out 1;have hfz26_2 := qad BK267.out 2;have hcz27_0 : w24.cell? ⟨gb268,0,none⟩ = some (.string a1_0) := (qae BK268.out 0).trans rfl;have hcz27_1 : w24.cell? ⟨gb268,1,none⟩ = some (.int .i64 a1_1) := (qae BK268.out 1).trans rfl;have hcz27_2 : w24.cell? ⟨gb268,2,none⟩ = some (.string a1_2) := (qae BK268.out 2).trans rfl;have hfz27_0 := qad BK268.out 0;have hfz27_1 := qad BK268.out 1;have hfz27_2 := qad BK268.out 2))
  go_ret
  exact ⟨by first|rfl|(simp [qaj,qak]<;>rfl)|(simp [*,qaj,qak]<;>rfl),by repeat (first|(with_reducible first|exact HB.out|apply qab|apply qaa|apply qac|refine qaf ?_ GE267.out|refine qaf ?_ GE268.out)|exact HB.out)⟩
def keelsonlaw22_sameSteps.l0 : Nat → List (S31) → List (S31) → Int → Option (Bool)
 | 0,_,_,_ => none
 | k + 1,x0,x1,x5 => if x5 < (x0.length : Int) then (if 0 ≤ x5 then (if x5 < (x1.length : Int) then (if (!(((rd_T31 x0 x5).f0) == ((rd_T31 x1 x5).f0)) || (!((((rd_T31 x0 x5).f1).toList) == (((rd_T31 x1 x5).f1).toList)) || (!((((rd_T31 x0 x5).f2).toList) == (((rd_T31 x1 x5).f2).toList))))) = true then (some false) else (keelsonlaw22_sameSteps.l0 k x0 x1 (wrap64 (x5 + 1)))) else (none)) else (none)) else (some true)
def keelsonlaw22_sameSteps.f (k : Nat) (l0 : List (S31)) (l1 : List (S31)) : Option (Bool) := if (l0.length : Int) = (l1.length : Int) then (keelsonlaw22_sameSteps.l0 k l0 l1 0) else (some false)
theorem keelsonlaw22_sameSteps.mono_l : ∀ k,(∀ y0 y1 y2,LeO (keelsonlaw22_sameSteps.l0 k y0 y1 y2) (keelsonlaw22_sameSteps.l0 (k + 1) y0 y1 y2))
 | 0 => fun _ _ _ r h => by simp [keelsonlaw22_sameSteps.l0] at h
 | k + 1 => by
  have ih0 := keelsonlaw22_sameSteps.mono_l k
  ·intro y0 y1 y2
   unfold keelsonlaw22_sameSteps.l0
   repeat' first
   | (with_reducible exact ih0 _ _ _)
   | (with_reducible exact LeO.refl _)
   | (with_reducible exact LeO.none _)
   | (with_reducible refine LeO.ite ?_ ?_)
   | (with_reducible refine LeO.bind ?_ (fun _ => ?_))
theorem keelsonlaw22_sameSteps.mono : ∀ a0 a1 k,LeO (keelsonlaw22_sameSteps.f k a0 a1) (keelsonlaw22_sameSteps.f (k + 1) a0 a1) := by
 intro a0 a1 k
 have ih0 := keelsonlaw22_sameSteps.mono_l k
 unfold keelsonlaw22_sameSteps.f
 repeat' first
   | (with_reducible exact ih0 _ _ _)
   | (with_reducible exact LeO.refl _)
   | (with_reducible exact LeO.none _)
   | (with_reducible refine LeO.ite ?_ ?_)
   | (with_reducible refine LeO.bind ?_ (fun _ => ?_))
theorem keelsonlaw22_sameSteps.calls (k : Nat) (A0 : Option Addr) (c0 : Nat) (l0 : List (S31)) (A1 : Option Addr) (c1 : Nat) (l1 : List (S31)) (r : Bool) (w : World) (hG : GL w) (hr0 : Kd.C k31 w A0 l0.length l0) (hc0 : l0.length ≤ c0) (hr1 : Kd.C k31 w A1 l1.length l1) (hc1 : l1.length ≤ c1) (h : keelsonlaw22_sameSteps.f k l0 l1 = some r) :
  Calls Tryz.prog 10 #[.slice A0 l0.length c0,.slice A1 l1.length c1] w fun e w' => e = .returned (.bool r) ∧ Drawn0 w w' := by
 have hu31 := Tryz.underlying31
 have HR0 := Aside0.mk hr0
 have HC0 := Aside0.mk hc0
 clear hr0 hc0
 have HR1 := Aside0.mk hr1
 have HC1 := Aside0.mk hc1
 clear hr1 hc1
 have H : (if (l0.length : Int) = (l1.length : Int) then (keelsonlaw22_sameSteps.l0 k l0 l1 0) else (some false)) = some r := h
 clear h
 by_cases c3 : (l0.length : Int) = (l1.length : Int)
 ·rw [if_pos c3] at H
  have c3b0 : ((l0.length : Int) == (l1.length : Int)) = true := beq_iff_eq.mpr c3
  have c3b1 : ((l0.length : Int) != (l1.length : Int)) = false := bne_eq_false_iff_eq.mpr c3
  have c3b2 : (l0.length == l1.length) = true := by first|simpa using c3|(simp at c3 ⊢;omega)
  clear c3
  have H' := Aside0.mk H
  clear H
  go_enter Tryz.func10,Tryz.ntmps10
  go_wp2
  repeat (go_quiet (fail);try go_wp2)
  go_loopg [5] k (fun kq v5 w' => ∃ (x5_1 : Int),v5 = .int .i64 x5_1 ∧ Aside0 (keelsonlaw22_sameSteps.l0 kq l0 l1 x5_1 = some r) ∧ Aside0 (kq ≤ k) ∧ Drawn0 w w')
  case atStart => exact ⟨(0),(by first|rfl|(simp;done)|(simp [*];done)|(simp [qam];done)),H',⟨Nat.le_refl _⟩,by repeat (first|exact Drawn0.refl _|apply Drawn0.step)⟩
  case round =>
   clear H'
   try clear c1
   try clear p2
   try clear c3
   try clear c3b0
   try clear c3b1
   try clear c3b2
   obtain ⟨x5_1,rfl,HA,HK1,⟨m1,rfl⟩⟩ := hrel
   cases gk with
   | zero => exact absurd HA.out (by simp [keelsonlaw22_sameSteps.l0])
   | succ k1 =>
    have H := HA.out
    clear HA
    simp only [keelsonlaw22_sameSteps.l0] at H
    by_cases c4 : x5_1 < (l0.length : Int)
    ·rw [if_pos c4] at H
     have c4b0 : decide (x5_1 < (l0.length : Int)) = true := decide_eq_true c4
     clear c4
     by_cases c5 : 0 ≤ x5_1
     ·rw [if_pos c5] at H
      have c5b0 : decide (0 ≤ x5_1) = true := decide_eq_true c5
      clear c5
      by_cases c6 : x5_1 < (l1.length : Int)
      ·rw [if_pos c6] at H
       have c6b0 : decide (x5_1 < (l1.length : Int)) = true := decide_eq_true c6
       clear c6
       by_cases c7 : (!(((rd_T31 l0 x5_1).f0) == ((rd_T31 l1 x5_1).f0)) || (!((((rd_T31 l0 x5_1).f1).toList) == (((rd_T31 l1 x5_1).f1).toList)) || (!((((rd_T31 l0 x5_1).f2).toList) == (((rd_T31 l1 x5_1).f2).toList))))) = true
       ·rw [if_pos c7] at H
        have c7b0 : (!(((rd_T31 l0 x5_1).f0) == ((rd_T31 l1 x5_1).f0)) || (!((((rd_T31 l0 x5_1).f1).toList) == (((rd_T31 l1 x5_1).f1).toList)) || (!((((rd_T31 l0 x5_1).f2).toList) == (((rd_T31 l1 x5_1).f2).toList))))) = true := c7
        clear c7
        obtain rfl := Option.some.inj H
        have p276 : 0 ≤ (x5_1 : Int) := of_decide_eq_true (by assumption)
        have q276 : x5_1 < (l0.length : Int) := of_decide_eq_true (by assumption)
        obtain ⟨ad276,e276,hx276_0,hx276_1,hx276_2⟩ := at_T31 HR0.out x5_1 p276 q276
        cases e276
        replace p276 := eq_true p276
        replace q276 := eq_true q276
        have p277 : 0 ≤ (x5_1 : Int) := of_decide_eq_true (by assumption)
        have q277 : x5_1 < (l1.length : Int) := of_decide_eq_true (by assumption)
        obtain ⟨ad277,e277,hx277_0,hx277_1,hx277_2⟩ := at_T31 HR1.out x5_1 p277 q277
        cases e277
        replace p277 := eq_true p277
        replace q277 := eq_true q277
        go_wp2
        repeat (go_quiet (fail);try go_wp2)
        go_ret
        exact ⟨by first|rfl|(simp;done)|(simp [*];done)|(simp [qam];done),by repeat (first|exact Drawn0.refl _|apply Drawn0.step)⟩
       ·rw [if_neg c7] at H
        have c7b0 : (!(((rd_T31 l0 x5_1).f0) == ((rd_T31 l1 x5_1).f0)) || (!((((rd_T31 l0 x5_1).f1).toList) == (((rd_T31 l1 x5_1).f1).toList)) || (!((((rd_T31 l0 x5_1).f2).toList) == (((rd_T31 l1 x5_1).f2).toList))))) = false := by simpa using c7
        clear c7
        have H' := Aside0.mk H
        clear H
        have p276 : 0 ≤ (x5_1 : Int) := of_decide_eq_true (by assumption)
        have q276 : x5_1 < (l0.length : Int) := of_decide_eq_true (by assumption)
        obtain ⟨ad276,e276,hx276_0,hx276_1,hx276_2⟩ := at_T31 HR0.out x5_1 p276 q276
        cases e276
        replace p276 := eq_true p276
        replace q276 := eq_true q276
        have p277 : 0 ≤ (x5_1 : Int) := of_decide_eq_true (by assumption)
        have q277 : x5_1 < (l1.length : Int) := of_decide_eq_true (by assumption)
        obtain ⟨ad277,e277,hx277_0,hx277_1,hx277_2⟩ := at_T31 HR1.out x5_1 p277 q277
        cases e277
        replace p277 := eq_true p277
        replace q277 := eq_true q277
        go_wp2
        repeat (go_quiet (fail);try go_wp2)
        go_roundg k1
        case measure => have := HK1.out;omega
        case rel => exact ⟨(wrap64 (x5_1 + 1)),(by first|rfl|(simp;done)|(simp [*];done)|(simp [qam];done)),H',⟨by have := HK1.out;omega⟩,by repeat (first|exact Drawn0.refl _|apply Drawn0.step)⟩
      ·rw [if_neg c6] at H
       exact absurd H (by simp)
     ·rw [if_neg c5] at H
      exact absurd H (by simp)
    ·rw [if_neg c4] at H
     have c4b0 : decide (x5_1 < (l0.length : Int)) = false := decide_eq_false c4
     clear c4
     obtain rfl := Option.some.inj H
     go_wp2
     repeat (go_quiet (fail);try go_wp2)
     go_ret
     exact ⟨by first|rfl|(simp;done)|(simp [*];done)|(simp [qam];done),by repeat (first|exact Drawn0.refl _|apply Drawn0.step)⟩
 ·rw [if_neg c3] at H
  have c3b0 : ((l0.length : Int) == (l1.length : Int)) = false := beq_eq_false_iff_ne.mpr c3
  have c3b1 : ((l0.length : Int) != (l1.length : Int)) = true := bne_iff_ne.mpr c3
  have c3b2 : (l0.length == l1.length) = false := by first|simpa using c3|(simp at c3 ⊢;omega)
  obtain rfl := Option.some.inj H
  go_enter Tryz.func10,Tryz.ntmps10
  go_wp2
  repeat (go_quiet (fail);try go_wp2)
  go_ret
  exact ⟨by first|rfl|(simp;done)|(simp [*];done)|(simp [qam];done),by repeat (first|exact Drawn0.refl _|apply Drawn0.step)⟩
def keelsonlaw22_light.l0 : Nat → List (S46) → Int → Option (Bool)
 | 0,_,_ => none
 | k + 1,x0,x3 => if x3 < (x0.length : Int) then (if 0 ≤ x3 then (if (((rd_T46 x0 x3).f0).size : Int) > 100 then (some false) else (if (((rd_T46 x0 x3).f2).size : Int) > 100 then (some false) else (keelsonlaw22_light.l0 k x0 (wrap64 (x3 + 1))))) else (none)) else (some true)
def keelsonlaw22_light.f (k : Nat) (l0 : List (S46)) : Option (Bool) := if (l0.length : Int) > 20 then (some false) else (keelsonlaw22_light.l0 k l0 0)
theorem keelsonlaw22_light.mono_l : ∀ k,(∀ y0 y1,LeO (keelsonlaw22_light.l0 k y0 y1) (keelsonlaw22_light.l0 (k + 1) y0 y1))
 | 0 => fun _ _ r h => by simp [keelsonlaw22_light.l0] at h
 | k + 1 => by
  have ih0 := keelsonlaw22_light.mono_l k
  ·intro y0 y1
   unfold keelsonlaw22_light.l0
   repeat' first
   | (with_reducible exact ih0 _ _)
   | (with_reducible exact LeO.refl _)
   | (with_reducible exact LeO.none _)
   | (with_reducible refine LeO.ite ?_ ?_)
   | (with_reducible refine LeO.bind ?_ (fun _ => ?_))
theorem keelsonlaw22_light.mono : ∀ a0 k,LeO (keelsonlaw22_light.f k a0) (keelsonlaw22_light.f (k + 1) a0) := by
 intro a0 k
 have ih0 := keelsonlaw22_light.mono_l k
 unfold keelsonlaw22_light.f
 repeat' first
   | (with_reducible exact ih0 _ _)
   | (with_reducible exact LeO.refl _)
   | (with_reducible exact LeO.none _)
   | (with_reducible refine LeO.ite ?_ ?_)
   | (with_reducible refine LeO.bind ?_ (fun _ => ?_))
theorem keelsonlaw22_light.calls (k : Nat) (A0 : Option Addr) (c0 : Nat) (l0 : List (S46)) (r : Bool) (w : World) (hG : GL w) (hr0 : Kd.C k46 w A0 l0.length l0) (hc0 : l0.length ≤ c0) (h : keelsonlaw22_light.f k l0 = some r) :
  Calls Tryz.prog 60 #[.slice A0 l0.length c0] w fun e w' => e = .returned (.bool r) ∧ Drawn0 w w' := by
 have HR0 := Aside0.mk hr0
 have HC0 := Aside0.mk hc0
 clear hr0 hc0
 have H : (if (l0.length : Int) > 20 then (some false) else (keelsonlaw22_light.l0 k l0 0)) = some r := h
 clear h
 by_cases c2 : (l0.length : Int) > 20
 ·rw [if_pos c2] at H
  have c2b0 : decide (20 < (l0.length : Int)) = true := decide_eq_true c2
  have c2b1 : decide (20 < l0.length) = true := decide_eq_true (by omega)
  clear c2
  obtain rfl := Option.some.inj H
  go_enter Tryz.func60,Tryz.ntmps60
  go_wp2
  go_ret
  exact ⟨by first|rfl|(simp;done)|(simp [*];done)|(simp [qam];done),by repeat (first|exact Drawn0.refl _|apply Drawn0.step)⟩
 ·rw [if_neg c2] at H
  have c2b0 : decide (20 < (l0.length : Int)) = false := decide_eq_false c2
  have c2b1 : decide (20 < l0.length) = false := decide_eq_false (by omega)
  clear c2
  have H' := Aside0.mk H
  clear H
  go_enter Tryz.func60,Tryz.ntmps60
  go_wp2
  go_loopg [3] k (fun kq v3 w' => ∃ (x3_1 : Int),v3 = .int .i64 x3_1 ∧ Aside0 (keelsonlaw22_light.l0 kq l0 x3_1 = some r) ∧ Aside0 (kq ≤ k) ∧ Drawn0 w w')
  case atStart => exact ⟨(0),(by first|rfl|(simp;done)|(simp [*];done)|(simp [qam];done)),H',⟨Nat.le_refl _⟩,by repeat (first|exact Drawn0.refl _|apply Drawn0.step)⟩
  case round =>
   clear H'
   try clear c2
   try clear c2b0
   try clear c2b1
   try clear p2
   obtain ⟨x3_1,rfl,HA,HK1,⟨m1,rfl⟩⟩ := hrel
   cases gk with
   | zero => exact absurd HA.out (by simp [keelsonlaw22_light.l0])
   | succ k1 =>
    have H := HA.out
    clear HA
    simp only [keelsonlaw22_light.l0] at H
    by_cases c3 : x3_1 < (l0.length : Int)
    ·rw [if_pos c3] at H
     have c3b0 : decide (x3_1 < (l0.length : Int)) = true := decide_eq_true c3
     clear c3
     by_cases c4 : 0 ≤ x3_1
     ·rw [if_pos c4] at H
      have c4b0 : decide (0 ≤ x3_1) = true := decide_eq_true c4
      clear c4
      by_cases c5 : (((rd_T46 l0 x3_1).f0).size : Int) > 100
      ·rw [if_pos c5] at H
       have c5b0 : decide (100 < (((rd_T46 l0 x3_1).f0).size : Int)) = true := decide_eq_true c5
       have c5b1 : decide (100 < ((rd_T46 l0 x3_1).f0).size) = true := decide_eq_true (by omega)
       clear c5
       obtain rfl := Option.some.inj H
       have p300 : 0 ≤ (x3_1 : Int) := of_decide_eq_true (by assumption)
       have q300 : x3_1 < (l0.length : Int) := of_decide_eq_true (by assumption)
       obtain ⟨ad300,e300,hx300_0,hx300_1,hx300_2⟩ := at_T46 HR0.out x3_1 p300 q300
       cases e300
       replace p300 := eq_true p300
       replace q300 := eq_true q300
       go_wp2
       go_ret
       exact ⟨by first|rfl|(simp;done)|(simp [*];done)|(simp [qam];done),by repeat (first|exact Drawn0.refl _|apply Drawn0.step)⟩
      ·rw [if_neg c5] at H
       have c5b0 : decide (100 < (((rd_T46 l0 x3_1).f0).size : Int)) = false := decide_eq_false c5
       have c5b1 : decide (100 < ((rd_T46 l0 x3_1).f0).size) = false := decide_eq_false (by omega)
       clear c5
       by_cases c6 : (((rd_T46 l0 x3_1).f2).size : Int) > 100
       ·rw [if_pos c6] at H
        have c6b0 : decide (100 < (((rd_T46 l0 x3_1).f2).size : Int)) = true := decide_eq_true c6
        have c6b1 : decide (100 < ((rd_T46 l0 x3_1).f2).size) = true := decide_eq_true (by omega)
        clear c6
        obtain rfl := Option.some.inj H
        have p300 : 0 ≤ (x3_1 : Int) := of_decide_eq_true (by assumption)
        have q300 : x3_1 < (l0.length : Int) := of_decide_eq_true (by assumption)
        obtain ⟨ad300,e300,hx300_0,hx300_1,hx300_2⟩ := at_T46 HR0.out x3_1 p300 q300
        cases e300
        replace p300 := eq_true p300
        replace q300 := eq_true q300
        have p301 : 0 ≤ (x3_1 : Int) := of_decide_eq_true (by assumption)
        have q301 : x3_1 < (l0.length : Int) := of_decide_eq_true (by assumption)
        obtain ⟨ad301,e301,hx301_0,hx301_1,hx301_2⟩ := at_T46 HR0.out x3_1 p301 q301
        obtain rfl : ad300 = ad301 := (by injection e301)
        replace p301 := eq_true p301
        replace q301 := eq_true q301
        go_wp2
        go_ret
        exact ⟨by first|rfl|(simp;done)|(simp [*];done)|(simp [qam];done),by repeat (first|exact Drawn0.refl _|apply Drawn0.step)⟩
       ·rw [if_neg c6] at H
        have c6b0 : decide (100 < (((rd_T46 l0 x3_1).f2).size : Int)) = false := decide_eq_false c6
        have c6b1 : decide (100 < ((rd_T46 l0 x3_1).f2).size) = false := decide_eq_false (by omega)
        clear c6
        have H' := Aside0.mk H
        clear H
        have p300 : 0 ≤ (x3_1 : Int) := of_decide_eq_true (by assumption)
        have q300 : x3_1 < (l0.length : Int) := of_decide_eq_true (by assumption)
        obtain ⟨ad300,e300,hx300_0,hx300_1,hx300_2⟩ := at_T46 HR0.out x3_1 p300 q300
        cases e300
        replace p300 := eq_true p300
        replace q300 := eq_true q300
        have p301 : 0 ≤ (x3_1 : Int) := of_decide_eq_true (by assumption)
        have q301 : x3_1 < (l0.length : Int) := of_decide_eq_true (by assumption)
        obtain ⟨ad301,e301,hx301_0,hx301_1,hx301_2⟩ := at_T46 HR0.out x3_1 p301 q301
        obtain rfl : ad300 = ad301 := (by injection e301)
        replace p301 := eq_true p301
        replace q301 := eq_true q301
        go_wp2
        go_roundg k1
        case measure => have := HK1.out;omega
        case rel => exact ⟨(wrap64 (x3_1 + 1)),(by first|rfl|(simp;done)|(simp [*];done)|(simp [qam];done)),H',⟨by have := HK1.out;omega⟩,by repeat (first|exact Drawn0.refl _|apply Drawn0.step)⟩
     ·rw [if_neg c4] at H
      exact absurd H (by simp)
    ·rw [if_neg c3] at H
     have c3b0 : decide (x3_1 < (l0.length : Int)) = false := decide_eq_false c3
     clear c3
     obtain rfl := Option.some.inj H
     go_wp2
     go_ret
     exact ⟨by first|rfl|(simp;done)|(simp [*];done)|(simp [qam];done),by repeat (first|exact Drawn0.refl _|apply Drawn0.step)⟩
end Go.Proofs.YtiidmjmkgjfaeaaGreatDoor.PA
