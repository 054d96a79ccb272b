
import Derived.Test.YtooomjcdlfdnmaaGreatDoorPAx0
import Derived.Test.YtooomjcdlfdnmaaGreatDoorPAx4
import Derived.Test.YtooomjcdlfdnmaaGreatDoorPAx6
namespace Go.Proofs.YtooomjcdlfdnmaaGreatDoor.PA
open Go.RowKit Go.Proofs.YtooomjcdlfdnmaaGreatDoorW.PrintWords Go.Proofs.YtooomjcdlfdnmaaGreatDoorW.PrintLast Go.Proofs.YtooomjcdlfdnmaaGreatDoorW.PrintMore
attribute [local go_sem] max2_int min2_int max_two min_two max_three min_three max_four min_four
set_option maxHeartbeats 8000000
set_option maxRecDepth 100000
set_option linter.unusedVariables false
set_option linter.unusedSimpArgs false
def version_Order.j0 : Nat → Int → Int → Bool → Int → ByteArray → ByteArray → Int → ByteArray → ByteArray → Option (Int)
 | 0,_,_,_,_,_,_,_,_,_ => none
 | k + 1,x6,x8,x19,x322000,x322001,x322002,x327000,x327001,x327002 => if x19 = true then (some 0) else (if x6 = 0 then (if x8 = 0 then ((version_Compare.f k x322000 x322001 x322002 x327000 x327001 x327002).bind fun t327 => (some t327)) else (some 1)) else (some (-1)))
def version_Order.f (k : Nat) (a0 : ByteArray) (a1 : ByteArray) : Option (Int) := (version_Parse.f k a0).bind fun bt317 => ((version_Parse.f k a1).bind fun bt322 => (if bt317.2.2.2 = 0 then (version_Order.j0 k bt317.2.2.2 bt322.2.2.2 false bt317.1 bt317.2.1 bt317.2.2.1 bt322.1 bt322.2.1 bt322.2.2.1) else (version_Order.j0 k bt317.2.2.2 bt322.2.2.2 (bt322.2.2.2 != 0) bt317.1 bt317.2.1 bt317.2.2.1 bt322.1 bt322.2.1 bt322.2.2.1)))
theorem version_Order.mono_l : ∀ k,(∀ y0 y1 y2 y3 y4 y5 y6 y7 y8,LeO (version_Order.j0 k y0 y1 y2 y3 y4 y5 y6 y7 y8) (version_Order.j0 (k + 1) y0 y1 y2 y3 y4 y5 y6 y7 y8))
 | 0 => fun _ _ _ _ _ _ _ _ _ r h => by simp [version_Order.j0] at h
 | k + 1 => by
  have ih0 := version_Order.mono_l k
  ·intro y0 y1 y2 y3 y4 y5 y6 y7 y8
   unfold version_Order.j0
   repeat' first
   | (with_reducible exact ih0 _ _ _ _ _ _ _ _ _)
   | (with_reducible exact version_Compare.mono _ _ _ _ _ _ _)
   | (with_reducible exact version_Parse.mono _ _)
   | (with_reducible exact LeO.refl _)
   | (with_reducible exact LeO.none _)
   | (with_reducible refine LeO.ite ?_ ?_)
   | (with_reducible refine LeO.bind ?_ (fun _ => ?_))
   | exact ih0 _ _ _ _ _ _ _ _ _
   | exact version_Compare.mono _ _ _ _ _ _ _
   | exact version_Parse.mono _ _
   | exact LeO.none _
   | refine LeO.ite ?_ ?_
   | refine LeO.bind ?_ (fun _ => ?_)
theorem version_Order.mono : ∀ a0 a1 k,LeO (version_Order.f k a0 a1) (version_Order.f (k + 1) a0 a1) := by
 intro a0 a1 k
 have ih0 := version_Order.mono_l k
 unfold version_Order.f
 repeat' first
   | (with_reducible exact ih0 _ _ _ _ _ _ _ _ _)
   | (with_reducible exact version_Compare.mono _ _ _ _ _ _ _)
   | (with_reducible exact version_Parse.mono _ _)
   | (with_reducible exact LeO.refl _)
   | (with_reducible exact LeO.none _)
   | (with_reducible refine LeO.ite ?_ ?_)
   | (with_reducible refine LeO.bind ?_ (fun _ => ?_))
   | exact ih0 _ _ _ _ _ _ _ _ _
   | exact version_Compare.mono _ _ _ _ _ _ _
   | exact version_Parse.mono _ _
   | exact LeO.none _
   | refine LeO.ite ?_ ?_
   | refine LeO.bind ?_ (fun _ => ?_)
theorem version_Order.calls (k : Nat) (a0 : ByteArray) (a1 : ByteArray) (r : Int) (w : World) (hG : GL w) (h : version_Order.f k a0 a1 = some r) :
  Calls Tryz.prog 57 #[.string a0,.string a1] w fun e w' => e = .returned (.int .i64 r) ∧ Below w.heap.size w w' := by
 have hu128 := Tryz.underlying128
 have HB := Aside0.mk (Below.refl w.heap.size w)
 have H : ((version_Parse.f k a0).bind fun bt317 => ((version_Parse.f k a1).bind fun bt322 => (if bt317.2.2.2 = 0 then (version_Order.j0 k bt317.2.2.2 bt322.2.2.2 false bt317.1 bt317.2.1 bt317.2.2.1 bt322.1 bt322.2.1 bt322.2.2.1) else (version_Order.j0 k bt317.2.2.2 bt322.2.2.2 (bt322.2.2.2 != 0) bt317.1 bt317.2.1 bt317.2.2.1 bt322.1 bt322.2.1 bt322.2.2.1)))) = some r := h
 clear h
 replace H := Option.bind_eq_some_iff.mp H
 obtain ⟨⟨t317,t318,t319,t320⟩,A30,H⟩ := H
 replace H : ((version_Parse.f k a1).bind fun bt322 => (if t320 = 0 then (version_Order.j0 k t320 bt322.2.2.2 false t317 t318 t319 bt322.1 bt322.2.1 bt322.2.2.1) else (version_Order.j0 k t320 bt322.2.2.2 (bt322.2.2.2 != 0) t317 t318 t319 bt322.1 bt322.2.1 bt322.2.2.1))) = some r := H
 have A3 := Aside0.mk A30
 clear A30
 replace H := Option.bind_eq_some_iff.mp H
 obtain ⟨⟨t322,t323,t324,t325⟩,A40,H⟩ := H
 replace H : (if t320 = 0 then (version_Order.j0 k t320 t325 false t317 t318 t319 t322 t323 t324) else (version_Order.j0 k t320 t325 (t325 != 0) t317 t318 t319 t322 t323 t324)) = some r := H
 have A4 := Aside0.mk A40
 clear A40
 have HC5 := Aside0.mk H
 clear H
 go_enter Tryz.func57,Tryz.ntmps57
 go_upto_region 3 with (first|((with_reducible refine qan (f := 115) rfl ?_);refine goesL_ (some 11) rfl rfl Tryz.func115 (by kernel_rfl) rfl #[.string a0] rfl (by first|rfl|(simp only [List.map_toArray,List.map_cons,List.map_nil,List.length_drop,List.length_take];rfl)|simp only [List.map_toArray,List.map_cons,List.map_nil]) ?_;(with_reducible refine (version_Parse.calls k a0 t317 t318 t319 t320 _ (by first|exact hG|exact GL.below hG (by repeat (with_reducible first|exact HB.out|apply qab|apply qaa|apply qac)))  A3.out).mono ?_);rintro e w6 ⟨rfl,hb⟩;refine ⟨_,rfl,?_⟩;have n0_ := Aside0.mk (qap (by repeat (with_reducible first|exact HB.out|apply qab|apply qaa|apply qac)) hb);clear HB;have HB := n0_;clear n0_;(try clear hb);(try clear hb2);(try clear hk);(try clear hi))|((with_reducible refine gate_dst (N := 5) rfl ?_);refine box_event ?hg (N := 5) ?hd (cs := #[.int .i64 0,.string (⟨#[]⟩ : ByteArray),.string (⟨#[]⟩ : ByteArray)]) (t := 128) ?hr ?_;(case hd => rfl);(case hg => rfl);(case hr => first|(go_simp;done)|(go_simp;rfl));intro gb321 hg w7 hbox hb;have n0_ := Aside0.mk (qap (by repeat (with_reducible first|exact HB.out|apply qab|apply qaa|apply qac)) hb);have n1_ := Aside0.mk (hbox);have n2_ := Aside0.mk ((by rw [hg];exact (qaq (by repeat (with_reducible first|exact HB.out|apply qab|apply qaa|apply qac))) : w.heap.size ≤ gb321));have n3_ := Aside0.mk ((by rw [hg];exact (qaq (by repeat (with_reducible first|exact HB.out|apply qab|apply qaa|apply qac))) : w.heap.size ≤ gb321));clear HB;have HB := n0_;have BK321 := n1_;have GW321 := n2_;have GE321 := n3_;clear n0_ n1_ n2_ n3_;clear hb hbox hg;have hcz8_0 : w7.cell? ⟨gb321,0,none⟩ = some (.int .i64 0) := (qaf BK321.out 0).trans rfl;have hcz8_1 : w7.cell? ⟨gb321,1,none⟩ = some (.string (⟨#[]⟩ : ByteArray)) := (qaf BK321.out 1).trans rfl;have hcz8_2 : w7.cell? ⟨gb321,2,none⟩ = some (.string (⟨#[]⟩ : ByteArray)) := (qaf BK321.out 2).trans rfl;have hfz8_0 := qad BK321.out 0;have hfz8_1 := qad BK321.out 1;have hfz8_2 := qad BK321.out 2)|((with_reducible refine qan (f := 115) rfl ?_);refine goesL_ (some 16) rfl rfl Tryz.func115 (by kernel_rfl) rfl #[.string a1] rfl (by first|rfl|(simp only [List.map_toArray,List.map_cons,List.map_nil,List.length_drop,List.length_take];rfl)|simp only [List.map_toArray,List.map_cons,List.map_nil]) ?_;(with_reducible refine (version_Parse.calls k a1 t322 t323 t324 t325 _ (by first|exact hG|exact GL.below hG (by repeat (first|(with_reducible first|exact HB.out|apply qab|apply qaa|apply qac|refine qae ?_ GE321.out)|exact HB.out)))  A4.out).mono ?_);rintro e w9 ⟨rfl,hb⟩;refine ⟨_,rfl,?_⟩;have n0_ := Aside0.mk (qar (g := gb321) (o := .cells #[.int .i64 t317,.string t318,.string t319] 128 (0,0)) (by (with_reducible repeat (first|refine qah ?_ _|refine qaj ?_|refine qag ?_ _));refine blk_put (cs := #[.int .i64 t317,.string t318,.string (⟨#[]⟩ : ByteArray)]) ?_ 2 _ rfl;(with_reducible repeat (first|refine qah ?_ _|refine qaj ?_|refine qag ?_ _));refine blk_put (cs := #[.int .i64 t317,.string (⟨#[]⟩ : ByteArray),.string (⟨#[]⟩ : ByteArray)]) ?_ 1 _ rfl;(with_reducible repeat (first|refine qah ?_ _|refine qaj ?_|refine qag ?_ _));refine blk_put (cs := #[.int .i64 0,.string (⟨#[]⟩ : ByteArray),.string (⟨#[]⟩ : ByteArray)]) ?_ 0 _ rfl;(with_reducible repeat (first|refine qah ?_ _|refine qaj ?_|refine qag ?_ _));exact BK321.out) hb);have n1_ := Aside0.mk (qap (by repeat (first|(with_reducible first|exact HB.out|apply qab|apply qaa|apply qac|refine qae ?_ GE321.out)|exact HB.out)) hb);clear BK321;clear HB;have BK321 := n0_;have HB := n1_;clear n0_ n1_;(try clear hb);(try clear hb2);(try clear hk);(try clear hi))|((with_reducible refine gate_dst (N := 7) rfl ?_);refine box_event ?hg (N := 7) ?hd (cs := #[.int .i64 0,.string (⟨#[]⟩ : ByteArray),.string (⟨#[]⟩ : ByteArray)]) (t := 128) ?hr ?_;(case hd => rfl);(case hg => rfl);(case hr => first|(go_simp;done)|(go_simp;rfl));intro gb326 hg w10 hbox hb;have n0_ := Aside0.mk (qar (g := gb321) (o := .cells #[.int .i64 t317,.string t318,.string t319] 128 (0,0)) (by (with_reducible repeat (first|refine qah ?_ _|refine qaj ?_|refine qag ?_ _));exact BK321.out) hb);have n1_ := Aside0.mk (qap (by repeat (first|(with_reducible first|exact HB.out|apply qab|apply qaa|apply qac|refine qae ?_ GE321.out)|exact HB.out)) hb);have n2_ := Aside0.mk (hbox);have n3_ := Aside0.mk ((by rw [hg];exact (qaq (by repeat (first|(with_reducible first|exact HB.out|apply qab|apply qaa|apply qac|refine qae ?_ GE321.out)|exact HB.out))) : w.heap.size ≤ gb326));have n4_ := Aside0.mk ((by rw [hg];exact (qaq (by repeat (first|(with_reducible first|exact HB.out|apply qab|apply qaa|apply qac|refine qae ?_ GE321.out)|exact HB.out))) : w.heap.size ≤ gb326));have n5_ := Aside0.mk ((by rw [hg];exact Nat.ne_of_lt (blk_lt (g := gb321) (o := .cells #[.int .i64 t317,.string t318,.string t319] 128 (0,0)) (by (with_reducible repeat (first|refine qah ?_ _|refine qaj ?_|refine qag ?_ _));exact BK321.out)) : gb321 ≠ gb326));have n6_ := Aside0.mk ((by rw [hg];exact Nat.ne_of_gt (blk_lt (g := gb321) (o := .cells #[.int .i64 t317,.string t318,.string t319] 128 (0,0)) (by (with_reducible repeat (first|refine qah ?_ _|refine qaj ?_|refine qag ?_ _));exact BK321.out)) : gb326 ≠ gb321));clear BK321;clear HB;have BK321 := n0_;have HB := n1_;have BK326 := n2_;have GW326 := n3_;have GE326 := n4_;have NB321_326 := n5_;have NB326_321 := n6_;clear n0_ n1_ n2_ n3_ n4_ n5_ n6_;clear hb hbox hg;have hnb11 := NB326_321.out;have hnc11 := NB321_326.out;have hcz12_0 : w10.cell? ⟨gb326,0,none⟩ = some (.int .i64 0) := (qaf BK326.out 0).trans rfl;have hcz12_1 : w10.cell? ⟨gb326,1,none⟩ = some (.string (⟨#[]⟩ : ByteArray)) := (qaf BK326.out 1).trans rfl;have hcz12_2 : w10.cell? ⟨gb326,2,none⟩ = some (.string (⟨#[]⟩ : ByteArray)) := (qaf BK326.out 2).trans rfl;have hfz12_0 := qad BK326.out 0;have hfz12_1 := qad BK326.out 1;have hfz12_2 := qad BK326.out 2))
 (try simp only [Act.put,List.setIfInBounds_toArray,List.set_cons_zero,List.set_cons_succ])
 go_cut [19] (fun v19 wc => ∃ (kq : Nat) (x19_4 : Bool),v19 = .bool x19_4 ∧ Aside0 (version_Order.j0 kq t320 t325 x19_4 t317 t318 t319 t322 t323 t324 = some r) ∧ Aside0 (kq ≤ k) ∧ Aside0 (wc.heap[gb321]? = some (.cells #[.int .i64 t317,.string t318,.string t319] 128 (0,0))) ∧ Aside0 (wc.heap[gb326]? = some (.cells #[.int .i64 t322,.string t323,.string t324] 128 (0,0))) ∧ Aside0 (Below w.heap.size w wc))
 case first =>
  have H := HC5.out
  clear HC5
  by_cases c13 : t320 = 0
  ·rw [if_pos c13] at H
   have c13b0 : (t320 == 0) = true := beq_iff_eq.mpr c13
   have c13b1 : (t320 != 0) = false := bne_eq_false_iff_eq.mpr c13
   clear c13
   (first|rw [c13b0]|(simp only [i64_w,i32_w];rw [c13b0]) | skip)
   have H' := Aside0.mk H
   clear H
   go_wp2
   go_meet
   case rel => exact ⟨_,(false),(by first|rfl|(simp;done)|(simp [*];done)|(simp [qao];done)),H',⟨by first|omega|exact Nat.le_refl _⟩,⟨by (with_reducible repeat (first|refine qah ?_ _|refine qaj ?_|refine qag ?_ _));refine blk_far ?_ NB321_326.out _;(with_reducible repeat (first|refine qah ?_ _|refine qaj ?_|refine qag ?_ _));refine blk_far ?_ NB321_326.out _;(with_reducible repeat (first|refine qah ?_ _|refine qaj ?_|refine qag ?_ _));refine blk_far ?_ NB321_326.out _;(with_reducible repeat (first|refine qah ?_ _|refine qaj ?_|refine qag ?_ _));exact BK321.out⟩,⟨by (with_reducible repeat (first|refine qah ?_ _|refine qaj ?_|refine qag ?_ _));refine blk_put (cs := #[.int .i64 t322,.string t323,.string (⟨#[]⟩ : ByteArray)]) ?_ 2 _ rfl;(with_reducible repeat (first|refine qah ?_ _|refine qaj ?_|refine qag ?_ _));refine blk_put (cs := #[.int .i64 t322,.string (⟨#[]⟩ : ByteArray),.string (⟨#[]⟩ : ByteArray)]) ?_ 1 _ rfl;(with_reducible repeat (first|refine qah ?_ _|refine qaj ?_|refine qag ?_ _));refine blk_put (cs := #[.int .i64 0,.string (⟨#[]⟩ : ByteArray),.string (⟨#[]⟩ : ByteArray)]) ?_ 0 _ rfl;(with_reducible repeat (first|refine qah ?_ _|refine qaj ?_|refine qag ?_ _));exact BK326.out⟩,⟨by repeat (first|(with_reducible first|exact HB.out|apply qab|apply qaa|apply qac|refine qae ?_ GE321.out|refine qae ?_ GE326.out)|exact HB.out)⟩⟩
  ·rw [if_neg c13] at H
   have c13b0 : (t320 == 0) = false := beq_eq_false_iff_ne.mpr c13
   have c13b1 : (t320 != 0) = true := bne_iff_ne.mpr c13
   (first|rw [c13b0]|(simp only [i64_w,i32_w];rw [c13b0]) | skip)
   have H' := Aside0.mk H
   clear H
   go_wp2
   go_meet
   case rel => exact ⟨_,((t325 != 0)),(by first|rfl|(simp;done)|(simp [*];done)|(simp [qao];done)),H',⟨by first|omega|exact Nat.le_refl _⟩,⟨by (with_reducible repeat (first|refine qah ?_ _|refine qaj ?_|refine qag ?_ _));refine blk_far ?_ NB321_326.out _;(with_reducible repeat (first|refine qah ?_ _|refine qaj ?_|refine qag ?_ _));refine blk_far ?_ NB321_326.out _;(with_reducible repeat (first|refine qah ?_ _|refine qaj ?_|refine qag ?_ _));refine blk_far ?_ NB321_326.out _;(with_reducible repeat (first|refine qah ?_ _|refine qaj ?_|refine qag ?_ _));exact BK321.out⟩,⟨by (with_reducible repeat (first|refine qah ?_ _|refine qaj ?_|refine qag ?_ _));refine blk_put (cs := #[.int .i64 t322,.string t323,.string (⟨#[]⟩ : ByteArray)]) ?_ 2 _ rfl;(with_reducible repeat (first|refine qah ?_ _|refine qaj ?_|refine qag ?_ _));refine blk_put (cs := #[.int .i64 t322,.string (⟨#[]⟩ : ByteArray),.string (⟨#[]⟩ : ByteArray)]) ?_ 1 _ rfl;(with_reducible repeat (first|refine qah ?_ _|refine qaj ?_|refine qag ?_ _));refine blk_put (cs := #[.int .i64 0,.string (⟨#[]⟩ : ByteArray),.string (⟨#[]⟩ : ByteArray)]) ?_ 0 _ rfl;(with_reducible repeat (first|refine qah ?_ _|refine qaj ?_|refine qag ?_ _));exact BK326.out⟩,⟨by repeat (first|(with_reducible first|exact HB.out|apply qab|apply qaa|apply qac|refine qae ?_ GE321.out|refine qae ?_ GE326.out)|exact HB.out)⟩⟩
 case rest =>
  clear HC5
  try clear c1
  try clear p2
  try clear c5
  try clear c11
  try clear c13
  try clear c13b0
  try clear c13b1
  try clear hcz12_0
  try clear hcz12_1
  try clear hcz12_2
  try clear hcz8_0
  try clear hcz8_1
  try clear hcz8_2
  try clear hfz12_0
  try clear hfz12_1
  try clear hfz12_2
  try clear hfz8_0
  try clear hfz8_1
  try clear hfz8_2
  obtain ⟨kq,x19_4,rfl,HA,HJ4,BK321,BK326,HB⟩ := hcut
  cases kq with
  | zero => exact absurd HA.out (by simp [version_Order.j0])
  | succ kj4 =>
   have H := HA.out
   clear HA
   simp only [version_Order.j0] at H
   by_cases c14 : x19_4 = true
   ·subst c14
    have H1 : (some 0) = some r := by rw [if_pos rfl] at H;exact H
    clear H
    have H := H1
    clear H1
    obtain rfl := Option.some.inj H
    go_wp2
    go_ret
    exact ⟨by first|rfl|(simp [qal,qam]<;>rfl)|(simp [*,qal,qam]<;>rfl),by repeat (first|(with_reducible first|exact HB.out|apply qab|apply qaa|apply qac|refine qae ?_ GE321.out|refine qae ?_ GE326.out)|exact HB.out)⟩
   ·replace c14 := Bool.eq_false_iff.mpr c14
    subst c14
    have H1 : (if t320 = 0 then (if t325 = 0 then ((version_Compare.f kj4 t317 t318 t319 t322 t323 t324).bind fun t327 => (some t327)) else (some 1)) else (some (-1))) = some r := by rw [if_neg (show ¬ (false = true) by decide)] at H;exact H
    clear H
    have H := H1
    clear H1
    by_cases c15 : t320 = 0
    ·rw [if_pos c15] at H
     have c15b0 : (t320 == 0) = true := beq_iff_eq.mpr c15
     have c15b1 : (t320 != 0) = false := bne_eq_false_iff_eq.mpr c15
     clear c15
     by_cases c16 : t325 = 0
     ·rw [if_pos c16] at H
      have c16b0 : (t325 == 0) = true := beq_iff_eq.mpr c16
      have c16b1 : (t325 != 0) = false := bne_eq_false_iff_eq.mpr c16
      clear c16
      replace H := Option.bind_eq_some_iff.mp H
      obtain ⟨t327,A170,H⟩ := H
      replace H : (some t327) = some r := H
      have A17 := Aside0.mk A170
      clear A170
      obtain rfl := Option.some.inj H
      have hnb18 := NB321_326.out
      have hnc18 := NB326_321.out
      have hcz19_0 : wc.cell? ⟨gb321,0,none⟩ = some (.int .i64 t317) := (qaf BK321.out 0).trans rfl
      have hcz19_1 : wc.cell? ⟨gb321,1,none⟩ = some (.string t318) := (qaf BK321.out 1).trans rfl
      have hcz19_2 : wc.cell? ⟨gb321,2,none⟩ = some (.string t319) := (qaf BK321.out 2).trans rfl
      have hfz19_0 := qad BK321.out 0
      have hfz19_1 := qad BK321.out 1
      have hfz19_2 := qad BK321.out 2
      have hcz20_0 : wc.cell? ⟨gb326,0,none⟩ = some (.int .i64 t322) := (qaf BK326.out 0).trans rfl
      have hcz20_1 : wc.cell? ⟨gb326,1,none⟩ = some (.string t323) := (qaf BK326.out 1).trans rfl
      have hcz20_2 : wc.cell? ⟨gb326,2,none⟩ = some (.string t324) := (qaf BK326.out 2).trans rfl
      have hfz20_0 := qad BK326.out 0
      have hfz20_1 := qad BK326.out 1
      have hfz20_2 := qad BK326.out 2
      go_wp2_with (first|((with_reducible refine qan (f := 116) rfl ?_);refine goesL_ (some 34) rfl rfl Tryz.func116 (by kernel_rfl) rfl #[.agg #[.int .i64 t317,.string t318,.string t319],.agg #[.int .i64 t322,.string t323,.string t324]] rfl (by first|rfl|(simp only [List.map_toArray,List.map_cons,List.map_nil,List.length_drop,List.length_take];rfl)|simp only [List.map_toArray,List.map_cons,List.map_nil]) ?_;(with_reducible refine (version_Compare.calls kj4 t317 t318 t319 t322 t323 t324 t327 _ (by first|exact hG|exact GL.below hG (by repeat (first|(with_reducible first|exact HB.out|apply qab|apply qaa|apply qac|refine qae ?_ GE321.out|refine qae ?_ GE326.out)|exact HB.out)))  A17.out).mono ?_);rintro e w21 ⟨rfl,hb⟩;refine ⟨_,rfl,?_⟩;have n0_ := Aside0.mk (qar (g := gb321) (o := .cells #[.int .i64 t317,.string t318,.string t319] 128 (0,0)) (by (with_reducible repeat (first|refine qah ?_ _|refine qaj ?_|refine qag ?_ _));exact BK321.out) hb);have n1_ := Aside0.mk (qar (g := gb326) (o := .cells #[.int .i64 t322,.string t323,.string t324] 128 (0,0)) (by (with_reducible repeat (first|refine qah ?_ _|refine qaj ?_|refine qag ?_ _));exact BK326.out) hb);have n2_ := Aside0.mk (qap (by repeat (first|(with_reducible first|exact HB.out|apply qab|apply qaa|apply qac|refine qae ?_ GE321.out|refine qae ?_ GE326.out)|exact HB.out)) hb);clear BK321;clear BK326;clear HB;have BK321 := n0_;have BK326 := n1_;have HB := n2_;clear n0_ n1_ n2_;(try clear hb);(try clear hb2);(try clear hk);(try clear hi)))
      go_ret
      exact ⟨by first|rfl|(simp [qal,qam]<;>rfl)|(simp [*,qal,qam]<;>rfl),by repeat (first|(with_reducible first|exact HB.out|apply qab|apply qaa|apply qac|refine qae ?_ GE321.out|refine qae ?_ GE326.out)|exact HB.out)⟩
     ·rw [if_neg c16] at H
      have c16b0 : (t325 == 0) = false := beq_eq_false_iff_ne.mpr c16
      have c16b1 : (t325 != 0) = true := bne_iff_ne.mpr c16
      obtain rfl := Option.some.inj H
      go_wp2
      go_ret
      exact ⟨by first|rfl|(simp [qal,qam]<;>rfl)|(simp [*,qal,qam]<;>rfl),by repeat (first|(with_reducible first|exact HB.out|apply qab|apply qaa|apply qac|refine qae ?_ GE321.out|refine qae ?_ GE326.out)|exact HB.out)⟩
    ·rw [if_neg c15] at H
     have c15b0 : (t320 == 0) = false := beq_eq_false_iff_ne.mpr c15
     have c15b1 : (t320 != 0) = true := bne_iff_ne.mpr c15
     obtain rfl := Option.some.inj H
     go_wp2
     go_ret
     exact ⟨by first|rfl|(simp [qal,qam]<;>rfl)|(simp [*,qal,qam]<;>rfl),by repeat (first|(with_reducible first|exact HB.out|apply qab|apply qaa|apply qac|refine qae ?_ GE321.out|refine qae ?_ GE326.out)|exact HB.out)⟩
end Go.Proofs.YtooomjcdlfdnmaaGreatDoor.PA
