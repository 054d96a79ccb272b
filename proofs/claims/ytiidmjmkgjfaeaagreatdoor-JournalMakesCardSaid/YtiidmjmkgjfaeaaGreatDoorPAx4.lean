
import Derived.Test.YtiidmjmkgjfaeaaGreatDoorPAx0
import Derived.Test.YtiidmjmkgjfaeaaGreatDoorPAx2
import Derived.Test.YtiidmjmkgjfaeaaGreatDoorPAx3
namespace Go.Proofs.YtiidmjmkgjfaeaaGreatDoor.PA
open Go.RowKit Go.Proofs.YtiidmjmkgjfaeaaGreatDoorW.PrintWords Go.Proofs.YtiidmjmkgjfaeaaGreatDoorW.PrintLast Go.Proofs.YtiidmjmkgjfaeaaGreatDoorW.PrintMore
attribute [local go_sem] max2_int min2_int max_two min_two max_three min_three max_four min_four
set_option maxHeartbeats 8000000
set_option maxRecDepth 100000
set_option linter.unusedVariables false
set_option linter.unusedSimpArgs false
def version_Parse.j0 : Nat → ByteArray → Int → ByteArray → ByteArray → Option (Int × ByteArray × ByteArray × Int)
 | 0,_,_,_,_ => none
 | k + 1,x5,x117000,x117001,x117002 => (strings_LastIndexByte.f x5 45).bind fun t124 => (if t124 ≥ 0 then (if 0 ≤ t124 then (if t124 ≤ (x5.size : Int) then (if 0 ≤ (wrap64 (t124 + 1)) then (if (wrap64 (t124 + 1)) ≤ (x5.size : Int) then (if (x5.extract ((wrap64 (t124 + 1)) : Int).toNat x5.size).toList = ([] : List UInt8) then (some (0,(⟨#[]⟩ : ByteArray),(⟨#[]⟩ : ByteArray),4)) else ((version_Right.f k x117000 (x5.extract 0 (t124 : Int).toNat) (x5.extract ((wrap64 (t124 + 1)) : Int).toNat x5.size)).bind fun t125 => (if t125 = true then (some (x117000,x5.extract 0 (t124 : Int).toNat,x5.extract ((wrap64 (t124 + 1)) : Int).toNat x5.size,0)) else (some (0,(⟨#[]⟩ : ByteArray),(⟨#[]⟩ : ByteArray),4))))) else (none)) else (none)) else (none)) else (none)) else ((version_Right.f k x117000 x5 x117002).bind fun t126 => (if t126 = true then (some (x117000,x5,x117002,0)) else (some (0,(⟨#[]⟩ : ByteArray),(⟨#[]⟩ : ByteArray),4)))))
def version_Parse.f (k : Nat) (a0 : ByteArray) : Option (Int × ByteArray × ByteArray × Int) := if (a0.size : Int) > 60 then (some (0,(⟨#[]⟩ : ByteArray),(⟨#[]⟩ : ByteArray),9)) else ((strings_Cut.f a0 (⟨#[58]⟩ : ByteArray)).bind fun bt117 => (if bt117.2.2 = true then ((strconv_Atoi.f bt117.1).bind fun bt120 => (if bt120.2.isNone = true then (if bt120.1 < 0 then (some (0,(⟨#[]⟩ : ByteArray),(⟨#[]⟩ : ByteArray),4)) else ((strconv_Itoa.f bt120.1).bind fun t123 => (if t123.toList = bt117.1.toList then (version_Parse.j0 k bt117.2.1 bt120.1 (⟨#[]⟩ : ByteArray) (⟨#[]⟩ : ByteArray)) else (some (0,(⟨#[]⟩ : ByteArray),(⟨#[]⟩ : ByteArray),4))))) else (some (0,(⟨#[]⟩ : ByteArray),(⟨#[]⟩ : ByteArray),4)))) else (version_Parse.j0 k a0 0 (⟨#[]⟩ : ByteArray) (⟨#[]⟩ : ByteArray))))
theorem version_Parse.mono_l : ∀ k,(∀ y0 y1 y2 y3,LeO (version_Parse.j0 k y0 y1 y2 y3) (version_Parse.j0 (k + 1) y0 y1 y2 y3))
 | 0 => fun _ _ _ _ r h => by simp [version_Parse.j0] at h
 | k + 1 => by
  have ih0 := version_Parse.mono_l k
  ·intro y0 y1 y2 y3
   unfold version_Parse.j0
   repeat' first
   | (with_reducible exact ih0 _ _ _ _)
   | (with_reducible exact version_Right.mono _ _ _ _)
   | (with_reducible exact LeO.refl _)
   | (with_reducible exact LeO.none _)
   | (with_reducible refine LeO.ite ?_ ?_)
   | (with_reducible refine LeO.bind ?_ (fun _ => ?_))
theorem version_Parse.mono : ∀ a0 k,LeO (version_Parse.f k a0) (version_Parse.f (k + 1) a0) := by
 intro a0 k
 have ih0 := version_Parse.mono_l k
 unfold version_Parse.f
 repeat' first
   | (with_reducible exact ih0 _ _ _ _)
   | (with_reducible exact version_Right.mono _ _ _ _)
   | (with_reducible exact LeO.refl _)
   | (with_reducible exact LeO.none _)
   | (with_reducible refine LeO.ite ?_ ?_)
   | (with_reducible refine LeO.bind ?_ (fun _ => ?_))
def version_Parse.T14 : Bool × List (List Nat × List Nat) := (true,[([],[]),([],[]),([0,1],[0,1]),([],[]),([],[]),([4],[4]),([3,5],[3,5]),([0,1,2],[]),([7,2,0,1,2],[2,7]),([0,1,2,3,4,5,6,7,8],[]),([9,6,8,0,1,2,3,4,5,6,7,8],[6,9])])
def version_Parse.B14 : List Nat := [0,0,3,0,0,16,56,7,135,511,1023]
theorem version_Parse.tab14 : rtab .any (opsOf Tryz.f89 14) = version_Parse.T14 := by kernel_rfl
theorem version_Parse.bits14 : waitsOk version_Parse.T14.2 version_Parse.B14 = true := by kernel_rfl
theorem version_Parse.calls (k : Nat) (a0 : ByteArray) (r1 : Int) (r2 : ByteArray) (r3 : ByteArray) (r4 : Int) (w : World) (hG : GL w) (h : version_Parse.f k a0 = some (r1,r2,r3,r4)) :
  Calls Tryz.prog 89 #[.string a0] w fun e w' => e = .returned (.tuple #[.agg #[.int .i64 r1,.string r2,.string r3],.int .i64 r4]) ∧ Below w.heap.size w w' := by
 have hu106 := Tryz.underlying106
 have hu129 := Tryz.underlying129
 have HB := Aside0.mk (Below.refl w.heap.size w)
 have H : (if (a0.size : Int) > 60 then (some (0,(⟨#[]⟩ : ByteArray),(⟨#[]⟩ : ByteArray),9)) else ((strings_Cut.f a0 (⟨#[58]⟩ : ByteArray)).bind fun bt117 => (if bt117.2.2 = true then ((strconv_Atoi.f bt117.1).bind fun bt120 => (if bt120.2.isNone = true then (if bt120.1 < 0 then (some (0,(⟨#[]⟩ : ByteArray),(⟨#[]⟩ : ByteArray),4)) else ((strconv_Itoa.f bt120.1).bind fun t123 => (if t123.toList = bt117.1.toList then (version_Parse.j0 k bt117.2.1 bt120.1 (⟨#[]⟩ : ByteArray) (⟨#[]⟩ : ByteArray)) else (some (0,(⟨#[]⟩ : ByteArray),(⟨#[]⟩ : ByteArray),4))))) else (some (0,(⟨#[]⟩ : ByteArray),(⟨#[]⟩ : ByteArray),4)))) else (version_Parse.j0 k a0 0 (⟨#[]⟩ : ByteArray) (⟨#[]⟩ : ByteArray))))) = some (r1,r2,r3,r4) := h
 clear h
 by_cases c2 : (a0.size : Int) > 60
 ·rw [if_pos c2] at H
  have c2b0 : decide (60 < (a0.size : Int)) = true := decide_eq_true c2
  have c2b1 : decide (60 < a0.size) = true := decide_eq_true (by omega)
  clear c2
  simp only [Option.some.injEq,Prod.mk.injEq] at H
  obtain ⟨rfl,rfl,rfl,rfl⟩ := H
  go_enter Tryz.func89,Tryz.ntmps89
  go_wp2_with (first|((with_reducible refine gate_dst (N := 2) rfl ?_);refine box_event ?hg (N := 2) ?hd (cs := #[.int .i64 0,.string (⟨#[]⟩ : ByteArray),.string (⟨#[]⟩ : ByteArray)]) (t := 106) ?hr ?_;(case hd => rfl);(case hg => rfl);(case hr => first|(go_simp;done)|(go_simp;rfl));intro gb115 hg w3 hbox hb;have n0_ := Aside0.mk (qan (by repeat (with_reducible first|exact HB.out|apply qab|apply qaa|apply qac)) hb);have n1_ := Aside0.mk (hbox);have n2_ := Aside0.mk ((by rw [hg];exact (qao (by repeat (with_reducible first|exact HB.out|apply qab|apply qaa|apply qac))) : w.heap.size ≤ gb115));have n3_ := Aside0.mk ((by rw [hg];exact (qao (by repeat (with_reducible first|exact HB.out|apply qab|apply qaa|apply qac))) : w.heap.size ≤ gb115));clear HB;have HB := n0_;have BK115 := n1_;have GW115 := n2_;have GE115 := n3_;clear n0_ n1_ n2_ n3_;clear hb hbox hg;have hcz4_0 : w3.cell? ⟨gb115,0,none⟩ = some (.int .i64 0) := (qae BK115.out 0).trans rfl;have hcz4_1 : w3.cell? ⟨gb115,1,none⟩ = some (.string (⟨#[]⟩ : ByteArray)) := (qae BK115.out 1).trans rfl;have hcz4_2 : w3.cell? ⟨gb115,2,none⟩ = some (.string (⟨#[]⟩ : ByteArray)) := (qae BK115.out 2).trans rfl;have hfz4_0 := qad BK115.out 0;have hfz4_1 := qad BK115.out 1;have hfz4_2 := qad BK115.out 2))
  refine bodyPost_ret (results_ct rfl _ _ gb115 106 #[.int .i64 0,.string (⟨#[]⟩ : ByteArray),.string (⟨#[]⟩ : ByteArray)] (0,0) _ rfl (by (with_reducible repeat (first|refine qah ?_ _|refine qai ?_|refine qag ?_ _));refine blk_put (cs := #[.int .i64 0,.string (⟨#[]⟩ : ByteArray),.string (⟨#[]⟩ : ByteArray)]) ?_ 2 _ rfl;(with_reducible repeat (first|refine qah ?_ _|refine qai ?_|refine qag ?_ _));refine blk_put (cs := #[.int .i64 0,.string (⟨#[]⟩ : ByteArray),.string (⟨#[]⟩ : ByteArray)]) ?_ 1 _ rfl;(with_reducible repeat (first|refine qah ?_ _|refine qai ?_|refine qag ?_ _));refine blk_put (cs := #[.int .i64 0,.string (⟨#[]⟩ : ByteArray),.string (⟨#[]⟩ : ByteArray)]) ?_ 0 _ rfl;(with_reducible repeat (first|refine qah ?_ _|refine qai ?_|refine qag ?_ _));exact BK115.out) Tryz.underlying106 rfl (by kernel_rfl)) rfl ?_
  exact ⟨by first|rfl|(simp [qaj,qak]<;>rfl)|(simp [*,qaj,qak]<;>rfl),by repeat (first|(with_reducible first|exact HB.out|apply qab|apply qaa|apply qac|refine qaf ?_ GE115.out)|exact HB.out)⟩
 ·rw [if_neg c2] at H
  have c2b0 : decide (60 < (a0.size : Int)) = false := decide_eq_false c2
  have c2b1 : decide (60 < a0.size) = false := decide_eq_false (by omega)
  clear c2
  replace H := Option.bind_eq_some_iff.mp H
  obtain ⟨⟨t117,t118,t119⟩,A50,H⟩ := H
  replace H : (if t119 = true then ((strconv_Atoi.f t117).bind fun bt120 => (if bt120.2.isNone = true then (if bt120.1 < 0 then (some (0,(⟨#[]⟩ : ByteArray),(⟨#[]⟩ : ByteArray),4)) else ((strconv_Itoa.f bt120.1).bind fun t123 => (if t123.toList = t117.toList then (version_Parse.j0 k t118 bt120.1 (⟨#[]⟩ : ByteArray) (⟨#[]⟩ : ByteArray)) else (some (0,(⟨#[]⟩ : ByteArray),(⟨#[]⟩ : ByteArray),4))))) else (some (0,(⟨#[]⟩ : ByteArray),(⟨#[]⟩ : ByteArray),4)))) else (version_Parse.j0 k a0 0 (⟨#[]⟩ : ByteArray) (⟨#[]⟩ : ByteArray))) = some (r1,r2,r3,r4) := H
  have A5 := Aside0.mk A50
  clear A50
  have HC6 := Aside0.mk H
  clear H
  go_enter Tryz.func89,Tryz.ntmps89
  go_upto_if 23 with (first|((with_reducible refine gate_dst (N := 2) rfl ?_);refine box_event ?hg (N := 2) ?hd (cs := #[.int .i64 0,.string (⟨#[]⟩ : ByteArray),.string (⟨#[]⟩ : ByteArray)]) (t := 106) ?hr ?_;(case hd => rfl);(case hg => rfl);(case hr => first|(go_simp;done)|(go_simp;rfl));intro gb115 hg w7 hbox hb;have n0_ := Aside0.mk (qan (by repeat (with_reducible first|exact HB.out|apply qab|apply qaa|apply qac)) hb);have n1_ := Aside0.mk (hbox);have n2_ := Aside0.mk ((by rw [hg];exact (qao (by repeat (with_reducible first|exact HB.out|apply qab|apply qaa|apply qac))) : w.heap.size ≤ gb115));have n3_ := Aside0.mk ((by rw [hg];exact (qao (by repeat (with_reducible first|exact HB.out|apply qab|apply qaa|apply qac))) : w.heap.size ≤ gb115));clear HB;have HB := n0_;have BK115 := n1_;have GW115 := n2_;have GE115 := n3_;clear n0_ n1_ n2_ n3_;clear hb hbox hg)|((with_reducible refine gate_dst (N := 4) rfl ?_);refine box_event ?hg (N := 4) ?hd (cs := #[.int .i64 0,.string (⟨#[]⟩ : ByteArray),.string (⟨#[]⟩ : ByteArray)]) (t := 106) ?hr ?_;(case hd => rfl);(case hg => rfl);(case hr => first|(go_simp;done)|(go_simp;rfl));intro gb116 hg w8 hbox hb;have n0_ := Aside0.mk (qap (g := gb115) (o := .cells #[.int .i64 0,.string (⟨#[]⟩ : ByteArray),.string (⟨#[]⟩ : ByteArray)] 106 (0,0)) (by (with_reducible repeat (first|refine qah ?_ _|refine qai ?_|refine qag ?_ _));exact BK115.out) hb);have n1_ := Aside0.mk (qan (by repeat (first|(with_reducible first|exact HB.out|apply qab|apply qaa|apply qac|refine qaf ?_ GE115.out)|exact HB.out)) hb);have n2_ := Aside0.mk (hbox);have n3_ := Aside0.mk ((by rw [hg];exact (qao (by repeat (first|(with_reducible first|exact HB.out|apply qab|apply qaa|apply qac|refine qaf ?_ GE115.out)|exact HB.out))) : w.heap.size ≤ gb116));have n4_ := Aside0.mk ((by rw [hg];exact (qao (by repeat (first|(with_reducible first|exact HB.out|apply qab|apply qaa|apply qac|refine qaf ?_ GE115.out)|exact HB.out))) : w.heap.size ≤ gb116));have n5_ := Aside0.mk ((by rw [hg];exact Nat.ne_of_lt (blk_lt (g := gb115) (o := .cells #[.int .i64 0,.string (⟨#[]⟩ : ByteArray),.string (⟨#[]⟩ : ByteArray)] 106 (0,0)) (by (with_reducible repeat (first|refine qah ?_ _|refine qai ?_|refine qag ?_ _));exact BK115.out)) : gb115 ≠ gb116));have n6_ := Aside0.mk ((by rw [hg];exact Nat.ne_of_gt (blk_lt (g := gb115) (o := .cells #[.int .i64 0,.string (⟨#[]⟩ : ByteArray),.string (⟨#[]⟩ : ByteArray)] 106 (0,0)) (by (with_reducible repeat (first|refine qah ?_ _|refine qai ?_|refine qag ?_ _));exact BK115.out)) : gb116 ≠ gb115));clear BK115;clear HB;have BK115 := n0_;have HB := n1_;have BK116 := n2_;have GW116 := n3_;have GE116 := n4_;have NB115_116 := n5_;have NB116_115 := n6_;clear n0_ n1_ n2_ n3_ n4_ n5_ n6_;clear hb hbox hg)|((with_reducible refine qal (f := 123) rfl ?_);refine goesL_ (some 19) rfl rfl Tryz.func123 (by kernel_rfl) rfl #[.string a0,.string (⟨#[58]⟩ : ByteArray)] rfl (by first|rfl|(simp only [List.map_toArray,List.map_cons,List.map_nil,List.length_drop,List.length_take];rfl)|simp only [List.map_toArray,List.map_cons,List.map_nil]) ?_;(with_reducible refine (strings_Cut.calls a0 (⟨#[58]⟩ : ByteArray) t117 t118 t119 _ (by first|exact hG|exact GL.below hG (by repeat (first|(with_reducible first|exact HB.out|apply qab|apply qaa|apply qac|refine qaf ?_ GE115.out|refine qaf ?_ GE116.out)|exact HB.out)))  A5.out).mono ?_);rintro e w' ⟨rfl,⟨nd,rfl⟩⟩;refine ⟨_,rfl,?_⟩))
  (try simp only [Act.put,List.setIfInBounds_toArray,List.set_cons_zero,List.set_cons_succ])
  go_cut [5] (fun v5 wc => ∃ (kq : Nat) (x5_5 : ByteArray) (x116000_5 : Int) (x116001_5 : ByteArray) (x116002_5 : ByteArray) (x117000_5 : Int),v5 = .string x5_5 ∧ Aside0 (version_Parse.j0 kq x5_5 x117000_5 (⟨#[]⟩ : ByteArray) (⟨#[]⟩ : ByteArray) = some (r1,r2,r3,r4)) ∧ Aside0 (kq ≤ k) ∧ Aside0 (wc.heap[gb115]? = some (.cells #[.int .i64 x116000_5,.string x116001_5,.string x116002_5] 106 (0,0))) ∧ Aside0 (wc.heap[gb116]? = some (.cells #[.int .i64 x117000_5,.string (⟨#[]⟩ : ByteArray),.string (⟨#[]⟩ : ByteArray)] 106 (0,0))) ∧ Aside0 (Below w.heap.size w wc))
  case first =>
   have H := HC6.out
   clear HC6
   by_cases c9 : t119 = true
   ·subst c9
    have H1 : ((strconv_Atoi.f t117).bind fun bt120 => (if bt120.2.isNone = true then (if bt120.1 < 0 then (some (0,(⟨#[]⟩ : ByteArray),(⟨#[]⟩ : ByteArray),4)) else ((strconv_Itoa.f bt120.1).bind fun t123 => (if t123.toList = t117.toList then (version_Parse.j0 k t118 bt120.1 (⟨#[]⟩ : ByteArray) (⟨#[]⟩ : ByteArray)) else (some (0,(⟨#[]⟩ : ByteArray),(⟨#[]⟩ : ByteArray),4))))) else (some (0,(⟨#[]⟩ : ByteArray),(⟨#[]⟩ : ByteArray),4)))) = some (r1,r2,r3,r4) := by rw [if_pos rfl] at H;exact H
    clear H
    have H := H1
    clear H1
    replace H := Option.bind_eq_some_iff.mp H
    obtain ⟨⟨t120,t121⟩,A100,H⟩ := H
    replace H : (if t121.isNone = true then (if t120 < 0 then (some (0,(⟨#[]⟩ : ByteArray),(⟨#[]⟩ : ByteArray),4)) else ((strconv_Itoa.f t120).bind fun t123 => (if t123.toList = t117.toList then (version_Parse.j0 k t118 t120 (⟨#[]⟩ : ByteArray) (⟨#[]⟩ : ByteArray)) else (some (0,(⟨#[]⟩ : ByteArray),(⟨#[]⟩ : ByteArray),4))))) else (some (0,(⟨#[]⟩ : ByteArray),(⟨#[]⟩ : ByteArray),4))) = some (r1,r2,r3,r4) := H
    have A10 := Aside0.mk A100
    clear A100
    rcases t121 with _ | q122
    ·have H1 : (if t120 < 0 then (some (0,(⟨#[]⟩ : ByteArray),(⟨#[]⟩ : ByteArray),4)) else ((strconv_Itoa.f t120).bind fun t123 => (if t123.toList = t117.toList then (version_Parse.j0 k t118 t120 (⟨#[]⟩ : ByteArray) (⟨#[]⟩ : ByteArray)) else (some (0,(⟨#[]⟩ : ByteArray),(⟨#[]⟩ : ByteArray),4))))) = some (r1,r2,r3,r4) := by rw [if_pos (show (none : Option Int).isNone = true by rfl)] at H;exact H
     clear H
     have H := H1
     clear H1
     try simp only [qaj,qak]
     by_cases c11 : t120 < 0
     ·rw [if_pos c11] at H
      have c11b0 : decide (t120 < 0) = true := decide_eq_true c11
      clear c11
      (first|rw [c11b0]|(simp only [i64_w,i32_w];rw [c11b0]) | skip)
      simp only [Option.some.injEq,Prod.mk.injEq] at H
      obtain ⟨rfl,rfl,rfl,rfl⟩ := H
      go_wp2_with (first|((with_reducible refine qal (f := 124) rfl ?_);refine goesL_ (some 26) rfl rfl Tryz.func124 (by kernel_rfl) rfl #[.string t117] rfl (by first|rfl|(simp only [List.map_toArray,List.map_cons,List.map_nil,List.length_drop,List.length_take];rfl)|simp only [List.map_toArray,List.map_cons,List.map_nil]) ?_;(with_reducible refine (strconv_Atoi.calls t117 t120 none _ (by first|exact hG|exact GL.below hG (by repeat (first|(with_reducible first|exact HB.out|apply qab|apply qaa|apply qac|refine qaf ?_ GE115.out|refine qaf ?_ GE116.out)|exact HB.out)))  A10.out).mono ?_);rintro e w12 ⟨c_,rfl,hb⟩;refine ⟨_,rfl,?_⟩;(try simp only [Option.map_none,Option.map_some,errE_none,errE_some]);have n0_ := Aside0.mk (qap (g := gb115) (o := .cells #[.int .i64 0,.string (⟨#[]⟩ : ByteArray),.string (⟨#[]⟩ : ByteArray)] 106 (0,0)) (by (with_reducible repeat (first|refine qah ?_ _|refine qai ?_|refine qag ?_ _));exact BK115.out) hb);have n1_ := Aside0.mk (qap (g := gb116) (o := .cells #[.int .i64 0,.string (⟨#[]⟩ : ByteArray),.string (⟨#[]⟩ : ByteArray)] 106 (0,0)) (by (with_reducible repeat (first|refine qah ?_ _|refine qai ?_|refine qag ?_ _));exact BK116.out) hb);have n2_ := Aside0.mk (qan (by repeat (first|(with_reducible first|exact HB.out|apply qab|apply qaa|apply qac|refine qaf ?_ GE115.out|refine qaf ?_ GE116.out)|exact HB.out)) hb);clear BK115;clear BK116;clear HB;have BK115 := n0_;have BK116 := n1_;have HB := n2_;clear n0_ n1_ n2_;(try clear hb);(try clear hb2);(try clear hk);(try clear hi);(try simp only [qaj,qak]);have hnb13 := NB115_116.out;have hnc13 := NB116_115.out;have hcz14_0 : w12.cell? ⟨gb115,0,none⟩ = some (.int .i64 0) := (qae BK115.out 0).trans rfl;have hcz14_1 : w12.cell? ⟨gb115,1,none⟩ = some (.string (⟨#[]⟩ : ByteArray)) := (qae BK115.out 1).trans rfl;have hcz14_2 : w12.cell? ⟨gb115,2,none⟩ = some (.string (⟨#[]⟩ : ByteArray)) := (qae BK115.out 2).trans rfl;have hfz14_0 := qad BK115.out 0;have hfz14_1 := qad BK115.out 1;have hfz14_2 := qad BK115.out 2))
      refine bodyPost_ret (results_ct rfl _ _ gb115 106 #[.int .i64 0,.string (⟨#[]⟩ : ByteArray),.string (⟨#[]⟩ : ByteArray)] (0,0) _ rfl (by (with_reducible repeat (first|refine qah ?_ _|refine qai ?_|refine qag ?_ _));refine blk_put (cs := #[.int .i64 0,.string (⟨#[]⟩ : ByteArray),.string (⟨#[]⟩ : ByteArray)]) ?_ 2 _ rfl;(with_reducible repeat (first|refine qah ?_ _|refine qai ?_|refine qag ?_ _));refine blk_put (cs := #[.int .i64 0,.string (⟨#[]⟩ : ByteArray),.string (⟨#[]⟩ : ByteArray)]) ?_ 1 _ rfl;(with_reducible repeat (first|refine qah ?_ _|refine qai ?_|refine qag ?_ _));refine blk_put (cs := #[.int .i64 0,.string (⟨#[]⟩ : ByteArray),.string (⟨#[]⟩ : ByteArray)]) ?_ 0 _ rfl;(with_reducible repeat (first|refine qah ?_ _|refine qai ?_|refine qag ?_ _));exact BK115.out) Tryz.underlying106 rfl (by kernel_rfl)) rfl ?_
      exact ⟨by first|rfl|(simp [qaj,qak]<;>rfl)|(simp [*,qaj,qak]<;>rfl),by repeat (first|(with_reducible first|exact HB.out|apply qab|apply qaa|apply qac|refine qaf ?_ GE115.out|refine qaf ?_ GE116.out)|exact HB.out)⟩
     ·rw [if_neg c11] at H
      have c11b0 : decide (t120 < 0) = false := decide_eq_false c11
      clear c11
      (first|rw [c11b0]|(simp only [i64_w,i32_w];rw [c11b0]) | skip)
      replace H := Option.bind_eq_some_iff.mp H
      obtain ⟨t123,A150,H⟩ := H
      replace H : (if t123.toList = t117.toList then (version_Parse.j0 k t118 t120 (⟨#[]⟩ : ByteArray) (⟨#[]⟩ : ByteArray)) else (some (0,(⟨#[]⟩ : ByteArray),(⟨#[]⟩ : ByteArray),4))) = some (r1,r2,r3,r4) := H
      have A15 := Aside0.mk A150
      clear A150
      by_cases c16 : t123.toList = t117.toList
      ·rw [if_pos c16] at H
       have c16b0 : (t123.toList == t117.toList) = true := beq_iff_eq.mpr c16
       have c16b1 : (t123.toList != t117.toList) = false := bne_eq_false_iff_eq.mpr c16
       clear c16
       have H' := Aside0.mk H
       clear H
       go_wp2_with (first|((with_reducible refine qal (f := 124) rfl ?_);refine goesL_ (some 26) rfl rfl Tryz.func124 (by kernel_rfl) rfl #[.string t117] rfl (by first|rfl|(simp only [List.map_toArray,List.map_cons,List.map_nil,List.length_drop,List.length_take];rfl)|simp only [List.map_toArray,List.map_cons,List.map_nil]) ?_;(with_reducible refine (strconv_Atoi.calls t117 t120 none _ (by first|exact hG|exact GL.below hG (by repeat (first|(with_reducible first|exact HB.out|apply qab|apply qaa|apply qac|refine qaf ?_ GE115.out|refine qaf ?_ GE116.out)|exact HB.out)))  A10.out).mono ?_);rintro e w17 ⟨c_,rfl,hb⟩;refine ⟨_,rfl,?_⟩;(try simp only [Option.map_none,Option.map_some,errE_none,errE_some]);have n0_ := Aside0.mk (qap (g := gb115) (o := .cells #[.int .i64 0,.string (⟨#[]⟩ : ByteArray),.string (⟨#[]⟩ : ByteArray)] 106 (0,0)) (by (with_reducible repeat (first|refine qah ?_ _|refine qai ?_|refine qag ?_ _));exact BK115.out) hb);have n1_ := Aside0.mk (qap (g := gb116) (o := .cells #[.int .i64 0,.string (⟨#[]⟩ : ByteArray),.string (⟨#[]⟩ : ByteArray)] 106 (0,0)) (by (with_reducible repeat (first|refine qah ?_ _|refine qai ?_|refine qag ?_ _));exact BK116.out) hb);have n2_ := Aside0.mk (qan (by repeat (first|(with_reducible first|exact HB.out|apply qab|apply qaa|apply qac|refine qaf ?_ GE115.out|refine qaf ?_ GE116.out)|exact HB.out)) hb);clear BK115;clear BK116;clear HB;have BK115 := n0_;have BK116 := n1_;have HB := n2_;clear n0_ n1_ n2_;(try clear hb);(try clear hb2);(try clear hk);(try clear hi);(try simp only [qaj,qak]))|(go_at_call 125;(with_reducible refine (strconv_Itoa.calls t120 t123 _ (by first|exact hG|exact GL.below hG (by repeat (first|(with_reducible first|exact HB.out|apply qab|apply qaa|apply qac|refine qaf ?_ GE115.out|refine qaf ?_ GE116.out)|exact HB.out)))  A15.out).mono ?_);rintro e w18 ⟨rfl,hb⟩;have n0_ := Aside0.mk (qap (g := gb115) (o := .cells #[.int .i64 0,.string (⟨#[]⟩ : ByteArray),.string (⟨#[]⟩ : ByteArray)] 106 (0,0)) (by (with_reducible repeat (first|refine qah ?_ _|refine qai ?_|refine qag ?_ _));exact BK115.out) hb);have n1_ := Aside0.mk (qap (g := gb116) (o := .cells #[.int .i64 0,.string (⟨#[]⟩ : ByteArray),.string (⟨#[]⟩ : ByteArray)] 106 (0,0)) (by (with_reducible repeat (first|refine qah ?_ _|refine qai ?_|refine qag ?_ _));exact BK116.out) hb);have n2_ := Aside0.mk (qan (by repeat (first|(with_reducible first|exact HB.out|apply qab|apply qaa|apply qac|refine qaf ?_ GE115.out|refine qaf ?_ GE116.out)|exact HB.out)) hb);clear BK115;clear BK116;clear HB;have BK115 := n0_;have BK116 := n1_;have HB := n2_;clear n0_ n1_ n2_;(try clear hb);(try clear hb2);(try clear hk);(try clear hi);have hnb19 := NB116_115.out;have hnc19 := NB115_116.out;have hcz20_0 : w18.cell? ⟨gb116,0,none⟩ = some (.int .i64 0) := (qae BK116.out 0).trans rfl;have hcz20_1 : w18.cell? ⟨gb116,1,none⟩ = some (.string (⟨#[]⟩ : ByteArray)) := (qae BK116.out 1).trans rfl;have hcz20_2 : w18.cell? ⟨gb116,2,none⟩ = some (.string (⟨#[]⟩ : ByteArray)) := (qae BK116.out 2).trans rfl;have hfz20_0 := qad BK116.out 0;have hfz20_1 := qad BK116.out 1;have hfz20_2 := qad BK116.out 2))
       go_meet
       case rel => exact ⟨_,(t118),(0),((⟨#[]⟩ : ByteArray)),((⟨#[]⟩ : ByteArray)),(t120),(by first|rfl|(simp;done)|(simp [*];done)|(simp [qam];done)),H',⟨by first|omega|exact Nat.le_refl _⟩,⟨by (with_reducible repeat (first|refine qah ?_ _|refine qai ?_|refine qag ?_ _));refine blk_far ?_ NB115_116.out _;(with_reducible repeat (first|refine qah ?_ _|refine qai ?_|refine qag ?_ _));exact BK115.out⟩,⟨by (with_reducible repeat (first|refine qah ?_ _|refine qai ?_|refine qag ?_ _));refine blk_put (cs := #[.int .i64 0,.string (⟨#[]⟩ : ByteArray),.string (⟨#[]⟩ : ByteArray)]) ?_ 0 _ rfl;(with_reducible repeat (first|refine qah ?_ _|refine qai ?_|refine qag ?_ _));exact BK116.out⟩,⟨by repeat (first|(with_reducible first|exact HB.out|apply qab|apply qaa|apply qac|refine qaf ?_ GE115.out|refine qaf ?_ GE116.out)|exact HB.out)⟩⟩
      ·rw [if_neg c16] at H
       have c16b0 : (t123.toList == t117.toList) = false := beq_eq_false_iff_ne.mpr c16
       have c16b1 : (t123.toList != t117.toList) = true := bne_iff_ne.mpr c16
       simp only [Option.some.injEq,Prod.mk.injEq] at H
       obtain ⟨rfl,rfl,rfl,rfl⟩ := H
       go_wp2_with (first|((with_reducible refine qal (f := 124) rfl ?_);refine goesL_ (some 26) rfl rfl Tryz.func124 (by kernel_rfl) rfl #[.string t117] rfl (by first|rfl|(simp only [List.map_toArray,List.map_cons,List.map_nil,List.length_drop,List.length_take];rfl)|simp only [List.map_toArray,List.map_cons,List.map_nil]) ?_;(with_reducible refine (strconv_Atoi.calls t117 t120 none _ (by first|exact hG|exact GL.below hG (by repeat (first|(with_reducible first|exact HB.out|apply qab|apply qaa|apply qac|refine qaf ?_ GE115.out|refine qaf ?_ GE116.out)|exact HB.out)))  A10.out).mono ?_);rintro e w21 ⟨c_,rfl,hb⟩;refine ⟨_,rfl,?_⟩;(try simp only [Option.map_none,Option.map_some,errE_none,errE_some]);have n0_ := Aside0.mk (qap (g := gb115) (o := .cells #[.int .i64 0,.string (⟨#[]⟩ : ByteArray),.string (⟨#[]⟩ : ByteArray)] 106 (0,0)) (by (with_reducible repeat (first|refine qah ?_ _|refine qai ?_|refine qag ?_ _));exact BK115.out) hb);have n1_ := Aside0.mk (qap (g := gb116) (o := .cells #[.int .i64 0,.string (⟨#[]⟩ : ByteArray),.string (⟨#[]⟩ : ByteArray)] 106 (0,0)) (by (with_reducible repeat (first|refine qah ?_ _|refine qai ?_|refine qag ?_ _));exact BK116.out) hb);have n2_ := Aside0.mk (qan (by repeat (first|(with_reducible first|exact HB.out|apply qab|apply qaa|apply qac|refine qaf ?_ GE115.out|refine qaf ?_ GE116.out)|exact HB.out)) hb);clear BK115;clear BK116;clear HB;have BK115 := n0_;have BK116 := n1_;have HB := n2_;clear n0_ n1_ n2_;(try clear hb);(try clear hb2);(try clear hk);(try clear hi);(try simp only [qaj,qak]))|(go_at_call 125;(with_reducible refine (strconv_Itoa.calls t120 t123 _ (by first|exact hG|exact GL.below hG (by repeat (first|(with_reducible first|exact HB.out|apply qab|apply qaa|apply qac|refine qaf ?_ GE115.out|refine qaf ?_ GE116.out)|exact HB.out)))  A15.out).mono ?_);rintro e w22 ⟨rfl,hb⟩;have n0_ := Aside0.mk (qap (g := gb115) (o := .cells #[.int .i64 0,.string (⟨#[]⟩ : ByteArray),.string (⟨#[]⟩ : ByteArray)] 106 (0,0)) (by (with_reducible repeat (first|refine qah ?_ _|refine qai ?_|refine qag ?_ _));exact BK115.out) hb);have n1_ := Aside0.mk (qap (g := gb116) (o := .cells #[.int .i64 0,.string (⟨#[]⟩ : ByteArray),.string (⟨#[]⟩ : ByteArray)] 106 (0,0)) (by (with_reducible repeat (first|refine qah ?_ _|refine qai ?_|refine qag ?_ _));exact BK116.out) hb);have n2_ := Aside0.mk (qan (by repeat (first|(with_reducible first|exact HB.out|apply qab|apply qaa|apply qac|refine qaf ?_ GE115.out|refine qaf ?_ GE116.out)|exact HB.out)) hb);clear BK115;clear BK116;clear HB;have BK115 := n0_;have BK116 := n1_;have HB := n2_;clear n0_ n1_ n2_;(try clear hb);(try clear hb2);(try clear hk);(try clear hi);have hnb23 := NB115_116.out;have hnc23 := NB116_115.out;have hcz24_0 : w22.cell? ⟨gb115,0,none⟩ = some (.int .i64 0) := (qae BK115.out 0).trans rfl;have hcz24_1 : w22.cell? ⟨gb115,1,none⟩ = some (.string (⟨#[]⟩ : ByteArray)) := (qae BK115.out 1).trans rfl;have hcz24_2 : w22.cell? ⟨gb115,2,none⟩ = some (.string (⟨#[]⟩ : ByteArray)) := (qae BK115.out 2).trans rfl;have hfz24_0 := qad BK115.out 0;have hfz24_1 := qad BK115.out 1;have hfz24_2 := qad BK115.out 2))
       refine bodyPost_ret (results_ct rfl _ _ gb115 106 #[.int .i64 0,.string (⟨#[]⟩ : ByteArray),.string (⟨#[]⟩ : ByteArray)] (0,0) _ rfl (by (with_reducible repeat (first|refine qah ?_ _|refine qai ?_|refine qag ?_ _));refine blk_put (cs := #[.int .i64 0,.string (⟨#[]⟩ : ByteArray),.string (⟨#[]⟩ : ByteArray)]) ?_ 2 _ rfl;(with_reducible repeat (first|refine qah ?_ _|refine qai ?_|refine qag ?_ _));refine blk_put (cs := #[.int .i64 0,.string (⟨#[]⟩ : ByteArray),.string (⟨#[]⟩ : ByteArray)]) ?_ 1 _ rfl;(with_reducible repeat (first|refine qah ?_ _|refine qai ?_|refine qag ?_ _));refine blk_put (cs := #[.int .i64 0,.string (⟨#[]⟩ : ByteArray),.string (⟨#[]⟩ : ByteArray)]) ?_ 0 _ rfl;(with_reducible repeat (first|refine qah ?_ _|refine qai ?_|refine qag ?_ _));exact BK115.out) Tryz.underlying106 rfl (by kernel_rfl)) rfl ?_
       exact ⟨by first|rfl|(simp [qaj,qak]<;>rfl)|(simp [*,qaj,qak]<;>rfl),by repeat (first|(with_reducible first|exact HB.out|apply qab|apply qaa|apply qac|refine qaf ?_ GE115.out|refine qaf ?_ GE116.out)|exact HB.out)⟩
    ·have H1 : (some (0,(⟨#[]⟩ : ByteArray),(⟨#[]⟩ : ByteArray),4)) = some (r1,r2,r3,r4) := by rw [if_neg (show ¬ (some q122).isNone = true by simp)] at H;exact H
     clear H
     have H := H1
     clear H1
     try simp only [qaj,qak]
     simp only [Option.some.injEq,Prod.mk.injEq] at H
     obtain ⟨rfl,rfl,rfl,rfl⟩ := H
     go_wp2_with (first|((with_reducible refine qal (f := 124) rfl ?_);refine goesL_ (some 26) rfl rfl Tryz.func124 (by kernel_rfl) rfl #[.string t117] rfl (by first|rfl|(simp only [List.map_toArray,List.map_cons,List.map_nil,List.length_drop,List.length_take];rfl)|simp only [List.map_toArray,List.map_cons,List.map_nil]) ?_;(with_reducible refine (strconv_Atoi.calls t117 t120 (some q122) _ (by first|exact hG|exact GL.below hG (by repeat (first|(with_reducible first|exact HB.out|apply qab|apply qaa|apply qac|refine qaf ?_ GE115.out|refine qaf ?_ GE116.out)|exact HB.out)))  A10.out).mono ?_);rintro e w25 ⟨c_,rfl,hb⟩;refine ⟨_,rfl,?_⟩;(try simp only [Option.map_none,Option.map_some,errE_none,errE_some]);have n0_ := Aside0.mk (qap (g := gb115) (o := .cells #[.int .i64 0,.string (⟨#[]⟩ : ByteArray),.string (⟨#[]⟩ : ByteArray)] 106 (0,0)) (by (with_reducible repeat (first|refine qah ?_ _|refine qai ?_|refine qag ?_ _));exact BK115.out) hb);have n1_ := Aside0.mk (qap (g := gb116) (o := .cells #[.int .i64 0,.string (⟨#[]⟩ : ByteArray),.string (⟨#[]⟩ : ByteArray)] 106 (0,0)) (by (with_reducible repeat (first|refine qah ?_ _|refine qai ?_|refine qag ?_ _));exact BK116.out) hb);have n2_ := Aside0.mk (qan (by repeat (first|(with_reducible first|exact HB.out|apply qab|apply qaa|apply qac|refine qaf ?_ GE115.out|refine qaf ?_ GE116.out)|exact HB.out)) hb);clear BK115;clear BK116;clear HB;have BK115 := n0_;have BK116 := n1_;have HB := n2_;clear n0_ n1_ n2_;(try clear hb);(try clear hb2);(try clear hk);(try clear hi);(try simp only [qaj,qak]);have hnb26 := NB115_116.out;have hnc26 := NB116_115.out;have hcz27_0 : w25.cell? ⟨gb115,0,none⟩ = some (.int .i64 0) := (qae BK115.out 0).trans rfl;have hcz27_1 : w25.cell? ⟨gb115,1,none⟩ = some (.string (⟨#[]⟩ : ByteArray)) := (qae BK115.out 1).trans rfl;have hcz27_2 : w25.cell? ⟨gb115,2,none⟩ = some (.string (⟨#[]⟩ : ByteArray)) := (qae BK115.out 2).trans rfl;have hfz27_0 := qad BK115.out 0;have hfz27_1 := qad BK115.out 1;have hfz27_2 := qad BK115.out 2))
     refine bodyPost_ret (results_ct rfl _ _ gb115 106 #[.int .i64 0,.string (⟨#[]⟩ : ByteArray),.string (⟨#[]⟩ : ByteArray)] (0,0) _ rfl (by (with_reducible repeat (first|refine qah ?_ _|refine qai ?_|refine qag ?_ _));refine blk_put (cs := #[.int .i64 0,.string (⟨#[]⟩ : ByteArray),.string (⟨#[]⟩ : ByteArray)]) ?_ 2 _ rfl;(with_reducible repeat (first|refine qah ?_ _|refine qai ?_|refine qag ?_ _));refine blk_put (cs := #[.int .i64 0,.string (⟨#[]⟩ : ByteArray),.string (⟨#[]⟩ : ByteArray)]) ?_ 1 _ rfl;(with_reducible repeat (first|refine qah ?_ _|refine qai ?_|refine qag ?_ _));refine blk_put (cs := #[.int .i64 0,.string (⟨#[]⟩ : ByteArray),.string (⟨#[]⟩ : ByteArray)]) ?_ 0 _ rfl;(with_reducible repeat (first|refine qah ?_ _|refine qai ?_|refine qag ?_ _));exact BK115.out) Tryz.underlying106 rfl (by kernel_rfl)) rfl ?_
     exact ⟨by first|rfl|(simp [qaj,qak]<;>rfl)|(simp [*,qaj,qak]<;>rfl),by repeat (first|(with_reducible first|exact HB.out|apply qab|apply qaa|apply qac|refine qaf ?_ GE115.out|refine qaf ?_ GE116.out)|exact HB.out)⟩
   ·replace c9 := Bool.eq_false_iff.mpr c9
    subst c9
    have H1 : (version_Parse.j0 k a0 0 (⟨#[]⟩ : ByteArray) (⟨#[]⟩ : ByteArray)) = some (r1,r2,r3,r4) := by rw [if_neg (show ¬ (false = true) by decide)] at H;exact H
    clear H
    have H := H1
    clear H1
    have H' := Aside0.mk H
    clear H
    go_wp2
    go_meet
    case rel => exact ⟨_,(a0),(0),((⟨#[]⟩ : ByteArray)),((⟨#[]⟩ : ByteArray)),(0),(by first|rfl|(simp;done)|(simp [*];done)|(simp [qam];done)),H',⟨by first|omega|exact Nat.le_refl _⟩,⟨by (with_reducible repeat (first|refine qah ?_ _|refine qai ?_|refine qag ?_ _));exact BK115.out⟩,⟨by (with_reducible repeat (first|refine qah ?_ _|refine qai ?_|refine qag ?_ _));exact BK116.out⟩,⟨by repeat (first|(with_reducible first|exact HB.out|apply qab|apply qaa|apply qac|refine qaf ?_ GE115.out|refine qaf ?_ GE116.out)|exact HB.out)⟩⟩
  case rest =>
   clear HC6
   try clear c1
   try clear q1
   try clear c2
   try clear c2b0
   try clear c2b1
   try clear p2
   try clear c8
   try clear c9
   try clear c11
   try clear c11b0
   try clear c12
   try clear q12
   try clear c13
   try clear c16
   try clear c16b0
   try clear c16b1
   try clear c19
   try clear c23
   try clear c26
   try clear hcz14_0
   try clear hcz14_1
   try clear hcz14_2
   try clear hcz20_0
   try clear hcz20_1
   try clear hcz20_2
   try clear hcz24_0
   try clear hcz24_1
   try clear hcz24_2
   try clear hcz27_0
   try clear hcz27_1
   try clear hcz27_2
   try clear hcz4_0
   try clear hcz4_1
   try clear hcz4_2
   try clear hfz14_0
   try clear hfz14_1
   try clear hfz14_2
   try clear hfz20_0
   try clear hfz20_1
   try clear hfz20_2
   try clear hfz24_0
   try clear hfz24_1
   try clear hfz24_2
   try clear hfz27_0
   try clear hfz27_1
   try clear hfz27_2
   try clear hfz4_0
   try clear hfz4_1
   try clear hfz4_2
   try clear q122
   obtain ⟨kq,x5_5,x116000_5,x116001_5,x116002_5,x117000_5,rfl,HA,HJ5,BK115,BK116,HB⟩ := hcut
   cases kq with
   | zero => exact absurd HA.out (by simp [version_Parse.j0])
   | succ kj5 =>
    have H := HA.out
    clear HA
    simp only [version_Parse.j0] at H
    replace H := Option.bind_eq_some_iff.mp H
    obtain ⟨t124,A280,H⟩ := H
    replace H : (if t124 ≥ 0 then (if 0 ≤ t124 then (if t124 ≤ (x5_5.size : Int) then (if 0 ≤ (wrap64 (t124 + 1)) then (if (wrap64 (t124 + 1)) ≤ (x5_5.size : Int) then (if (x5_5.extract ((wrap64 (t124 + 1)) : Int).toNat x5_5.size).toList = ([] : List UInt8) then (some (0,(⟨#[]⟩ : ByteArray),(⟨#[]⟩ : ByteArray),4)) else ((version_Right.f kj5 x117000_5 (x5_5.extract 0 (t124 : Int).toNat) (x5_5.extract ((wrap64 (t124 + 1)) : Int).toNat x5_5.size)).bind fun t125 => (if t125 = true then (some (x117000_5,x5_5.extract 0 (t124 : Int).toNat,x5_5.extract ((wrap64 (t124 + 1)) : Int).toNat x5_5.size,0)) else (some (0,(⟨#[]⟩ : ByteArray),(⟨#[]⟩ : ByteArray),4))))) else (none)) else (none)) else (none)) else (none)) else ((version_Right.f kj5 x117000_5 x5_5 (⟨#[]⟩ : ByteArray)).bind fun t126 => (if t126 = true then (some (x117000_5,x5_5,(⟨#[]⟩ : ByteArray),0)) else (some (0,(⟨#[]⟩ : ByteArray),(⟨#[]⟩ : ByteArray),4))))) = some (r1,r2,r3,r4) := H
    have A28 := Aside0.mk A280
    clear A280
    by_cases c29 : t124 ≥ 0
    ·rw [if_pos c29] at H
     have c29b0 : decide (0 ≤ t124) = true := decide_eq_true c29
     clear c29
     by_cases c30 : 0 ≤ t124
     ·rw [if_pos c30] at H
      have c30b0 := eq_true c30
      have c30b1 : decide (0 ≤ t124) = true := decide_eq_true c30
      clear c30
      by_cases c31 : t124 ≤ (x5_5.size : Int)
      ·rw [if_pos c31] at H
       have c31b0 := eq_true c31
       have c31b1 : decide (t124 ≤ (x5_5.size : Int)) = true := decide_eq_true c31
       clear c31
       obtain ⟨ji32,hji32⟩ : ∃ j_ : Int,(wrap64 (t124 + 1)) = j_ := ⟨_,rfl⟩
       replace H : (if 0 ≤ (ji32) then (if (ji32) ≤ (x5_5.size : Int) then (if (x5_5.extract ((ji32) : Int).toNat x5_5.size).toList = ([] : List UInt8) then (some (0,(⟨#[]⟩ : ByteArray),(⟨#[]⟩ : ByteArray),4)) else ((version_Right.f kj5 x117000_5 (x5_5.extract 0 (t124 : Int).toNat) (x5_5.extract ((ji32) : Int).toNat x5_5.size)).bind fun t125 => (if t125 = true then (some (x117000_5,x5_5.extract 0 (t124 : Int).toNat,x5_5.extract ((ji32) : Int).toNat x5_5.size,0)) else (some (0,(⟨#[]⟩ : ByteArray),(⟨#[]⟩ : ByteArray),4))))) else (none)) else (none)) = some (r1,r2,r3,r4) := by first|(rw [hji32] at H;exact H)|(simp only [hji32] at H ⊢;exact H)
       (try rw [hji32] at A28)
       have hji32w : (IntKind.i64.wrap (t124 + 1)) = ji32 := (i64_w _).trans hji32
       by_cases c33 : 0 ≤ (ji32)
       ·rw [if_pos c33] at H
        have c33b0 := eq_true c33
        have c33b1 : decide (0 ≤ (ji32)) = true := decide_eq_true c33
        clear c33
        by_cases c34 : (ji32) ≤ (x5_5.size : Int)
        ·rw [if_pos c34] at H
         have c34b0 := eq_true c34
         have c34b1 : decide ((ji32) ≤ (x5_5.size : Int)) = true := decide_eq_true c34
         clear c34
         by_cases c35 : (x5_5.extract ((ji32) : Int).toNat x5_5.size).toList = ([] : List UInt8)
         ·rw [if_pos c35] at H
          have c35b0 : ((x5_5.extract ((ji32) : Int).toNat x5_5.size).toList == ([] : List UInt8)) = true := beq_iff_eq.mpr c35
          have c35b1 : ((x5_5.extract ((ji32) : Int).toNat x5_5.size).toList != ([] : List UInt8)) = false := bne_eq_false_iff_eq.mpr c35
          clear c35
          simp only [Option.some.injEq,Prod.mk.injEq] at H
          obtain ⟨rfl,rfl,rfl,rfl⟩ := H
          have hnb36 := NB116_115.out
          have hnc36 := NB115_116.out
          have hcz37_0 : wc.cell? ⟨gb116,0,none⟩ = some (.int .i64 x117000_5) := (qae BK116.out 0).trans rfl
          have hcz37_1 : wc.cell? ⟨gb116,1,none⟩ = some (.string (⟨#[]⟩ : ByteArray)) := (qae BK116.out 1).trans rfl
          have hcz37_2 : wc.cell? ⟨gb116,2,none⟩ = some (.string (⟨#[]⟩ : ByteArray)) := (qae BK116.out 2).trans rfl
          have hfz37_0 := qad BK116.out 0
          have hfz37_1 := qad BK116.out 1
          have hfz37_2 := qad BK116.out 2
          try go_wp2_with (first|((with_reducible refine qal (f := 126) rfl ?_);refine goesL_ (some 48) rfl rfl Tryz.func126 (by kernel_rfl) rfl #[.string x5_5,.int .u8 45] rfl (by first|rfl|(simp only [List.map_toArray,List.map_cons,List.map_nil,List.length_drop,List.length_take];rfl)|simp only [List.map_toArray,List.map_cons,List.map_nil]) ?_;(with_reducible refine (strings_LastIndexByte.calls x5_5 45 t124 _ (by first|exact hG|exact GL.below hG (by repeat (first|(with_reducible first|exact HB.out|apply qab|apply qaa|apply qac|refine qaf ?_ GE115.out|refine qaf ?_ GE116.out)|exact HB.out)))  A28.out).mono ?_);rintro e w' ⟨rfl,⟨nd,rfl⟩⟩;refine ⟨_,rfl,?_⟩))
          have n0_ : Aside0 ((wc.setCell ⟨gb116,1,none⟩ (.string x5_5)).heap[gb115]? = some (.cells #[.int .i64 x116000_5,.string x116001_5,.string x116002_5] 106 (0,0))) := ⟨by (with_reducible repeat (first|refine qah ?_ _|refine qai ?_|refine qag ?_ _));refine blk_far ?_ NB115_116.out _;(with_reducible repeat (first|refine qah ?_ _|refine qai ?_|refine qag ?_ _));exact BK115.out⟩
          have n1_ : Aside0 ((wc.setCell ⟨gb116,1,none⟩ (.string x5_5)).heap[gb116]? = some (.cells #[.int .i64 x117000_5,.string x5_5,.string (⟨#[]⟩ : ByteArray)] 106 (0,0))) := ⟨by (with_reducible repeat (first|refine qah ?_ _|refine qai ?_|refine qag ?_ _));refine blk_put (cs := #[.int .i64 x117000_5,.string (⟨#[]⟩ : ByteArray),.string (⟨#[]⟩ : ByteArray)]) ?_ 1 _ rfl;(with_reducible repeat (first|refine qah ?_ _|refine qai ?_|refine qag ?_ _));exact BK116.out⟩
          have n2_ : Aside0 (Below w.heap.size w (wc.setCell ⟨gb116,1,none⟩ (.string x5_5))) := ⟨by repeat (first|(with_reducible first|exact HB.out|apply qab|apply qaa|apply qac|refine qaf ?_ GE115.out|refine qaf ?_ GE116.out)|exact HB.out)⟩
          (try clear BK115)
          (try clear BK116)
          (try clear HB)
          generalize (wc.setCell ⟨gb116,1,none⟩ (.string x5_5)) = w38 at n0_ n1_ n2_ ⊢
          have BK115 := n0_
          have BK116 := n1_
          have HB := n2_
          clear n0_ n1_ n2_
          (try (rw [drewN_self w38];generalize hq_ : World.drewN w38 _ = w38;have n0_ : Aside0 (w38.heap[gb115]? = some (.cells #[.int .i64 x116000_5,.string x116001_5,.string x116002_5] 106 (0,0))) := ⟨by rw [← hq_];exact (by (with_reducible repeat (first|refine qah ?_ _|refine qai ?_|refine qag ?_ _));exact BK115.out)⟩;have n1_ : Aside0 (w38.heap[gb116]? = some (.cells #[.int .i64 x117000_5,.string x5_5,.string (⟨#[]⟩ : ByteArray)] 106 (0,0))) := ⟨by rw [← hq_];exact (by (with_reducible repeat (first|refine qah ?_ _|refine qai ?_|refine qag ?_ _));exact BK116.out)⟩;have n2_ : Aside0 (Below w.heap.size w w38) := ⟨by rw [← hq_];exact (by repeat (first|(with_reducible first|exact HB.out|apply qab|apply qaa|apply qac|refine qaf ?_ GE115.out|refine qaf ?_ GE116.out)|exact HB.out))⟩;clear BK115 BK116 HB hq_;have BK115 := n0_;have BK116 := n1_;have HB := n2_;clear n0_ n1_ n2_))
          have n0_ := Aside0.mk (qai BK115.out)
          have n1_ := Aside0.mk (qai BK116.out)
          have n2_ := Aside0.mk (qac HB.out)
          clear BK115
          clear BK116
          clear HB
          have BK115 := n0_
          have BK116 := n1_
          have HB := n2_
          clear n0_ n1_ n2_
          refine start_ (n := 11) (S := fun w' => True) (ds := []) #[false,false,false,false,false,false,false,false,false,false,false] (by kernel_rfl) rfl rfl trivial (fun hHeld => ?_);refine with_tabW version_Parse.tab14 version_Parse.bits14 (fun HT_ HW_ => ?_)
          generalize w38.drew = w39 at BK115 BK116 HB hHeld ⊢
          refine pure_ (i := 0) (N := some 51) (v := ?_) (a' := ?_) #[true,false,false,false,false,false,false,false,false,false,false] rfl rfl (any_of HT_.out (by kernel_rfl)) (fun _ _ _ h => h) (Or.inl ⟨by rfl,?_⟩) ?_ ?_
          rotate_left
          ·intro w'
           go_simp
           with_reducible rfl
          rotate_left
          ·simp only [Act.put,List.setIfInBounds_toArray,List.set_cons_zero,List.set_cons_succ,i64_w,i32_w]
           rfl
          refine pure_ (i := 1) (N := some 52) (v := ?_) (a' := ?_) #[true,true,false,false,false,false,false,false,false,false,false] rfl rfl (any_of HT_.out (by kernel_rfl)) (fun _ _ _ h => h) (Or.inl ⟨by rfl,?_⟩) ?_ ?_
          rotate_left
          ·intro w'
           go_simp
           with_reducible rfl
          rotate_left
          ·simp only [Act.put,List.setIfInBounds_toArray,List.set_cons_zero,List.set_cons_succ,i64_w,i32_w]
           rfl
          refine pure_ (i := 2) (N := some 53) (v := ?_) (a' := ?_) #[true,true,true,false,false,false,false,false,false,false,false] rfl rfl (any_of HT_.out (by kernel_rfl)) (fun _ _ _ h => h) (Or.inl ⟨by rfl,?_⟩) ?_ ?_
          rotate_left
          ·intro w'
           go_simp
           with_reducible rfl
          rotate_left
          ·simp only [Act.put,List.setIfInBounds_toArray,List.set_cons_zero,List.set_cons_succ,i64_w,i32_w]
           rfl
          refine pure_ (i := 3) (N := some 54) (v := ?_) (a' := ?_) #[true,true,true,true,false,false,false,false,false,false,false] rfl rfl (any_of HT_.out (by kernel_rfl)) (fun _ _ _ h => h) (Or.inl ⟨by rfl,?_⟩) ?_ ?_
          rotate_left
          ·intro w'
           go_simp
           with_reducible rfl
          rotate_left
          ·simp only [Act.put,List.setIfInBounds_toArray,List.set_cons_zero,List.set_cons_succ,i64_w,i32_w]
           rfl
          refine pure_ (i := 4) (N := some 55) (v := ?_) (a' := ?_) #[true,true,true,true,true,false,false,false,false,false,false] rfl rfl (any_of HT_.out (by kernel_rfl)) (fun _ _ _ h => h) (Or.inl ⟨by rfl,?_⟩) ?_ ?_
          rotate_left
          ·intro w'
           go_simp
           with_reducible rfl
          rotate_left
          ·simp only [Act.put,List.setIfInBounds_toArray,List.set_cons_zero,List.set_cons_succ,i64_w,i32_w]
           rfl
          refine pure_ (i := 5) (N := some 56) (v := ?_) (a' := ?_) #[true,true,true,true,true,true,false,false,false,false,false] rfl rfl (any_of HT_.out (by kernel_rfl)) (fun _ _ _ h => h) (Or.inl ⟨by rfl,?_⟩) ?_ ?_
          rotate_left
          ·intro w'
           go_simp
           with_reducible rfl
          rotate_left
          ·simp only [Act.put,List.setIfInBounds_toArray,List.set_cons_zero,List.set_cons_succ,i64_w,i32_w]
           rfl
          refine pure_ (i := 6) (N := some 57) (v := ?_) (a' := ?_) #[true,true,true,true,true,true,true,false,false,false,false] rfl rfl (any_of HT_.out (by kernel_rfl)) (fun _ _ _ h => h) (Or.inl ⟨by rfl,?_⟩) ?_ ?_
          rotate_left
          ·intro w'
           go_simp
           with_reducible rfl
          rotate_left
          ·simp only [Act.put,List.setIfInBounds_toArray,List.set_cons_zero,List.set_cons_succ,i64_w,i32_w]
           rfl
          refine pure_ (i := 7) (N := some 58) (v := ?_) (a' := ?_) #[true,true,true,true,true,true,true,true,false,false,false] rfl rfl (any_of HT_.out (by kernel_rfl)) (fun _ _ _ h => h) (Or.inl ⟨by rfl,?_⟩) ?_ ?_
          rotate_left
          ·intro w'
           go_simp
           with_reducible rfl
          rotate_left
          ·simp only [Act.put,List.setIfInBounds_toArray,List.set_cons_zero,List.set_cons_succ,i64_w,i32_w]
           rfl
          refine one_ (i := 8) (N := none) #[true,true,true,true,true,true,true,true,true,false,false] rfl rfl (one_of HT_.out (by kernel_rfl)) (by decide) (fun K hK => ?_)
          have hs40 : w39.cell? ⟨gb116,1,none⟩ = some (.string x5_5) := (qae BK116.out 1).trans rfl
          have hfs40 := qad BK116.out 1
          have hns40_0 := NB115_116.out
          have hms40_0 := NB116_115.out
          refine skip_ (w1 := ?_) (by rfl) rfl ?_ ?_
          rotate_left
          ·go_simp
           rfl
          refine hK.out _ _ trivial (fun hHeld => ?_)
          clear hK K
          refine pure_ (i := 9) (N := some 59) (v := ?_) (a' := ?_) #[true,true,true,true,true,true,true,true,true,true,false] rfl rfl (any_of HT_.out (by kernel_rfl)) (fun _ _ _ h => h) (Or.inl ⟨by rfl,?_⟩) ?_ ?_
          rotate_left
          ·intro w'
           go_simp
           with_reducible rfl
          rotate_left
          ·simp only [Act.put,List.setIfInBounds_toArray,List.set_cons_zero,List.set_cons_succ,i64_w,i32_w]
           rfl
          refine one_ (i := 10) (N := none) #[true,true,true,true,true,true,true,true,true,true,true] rfl rfl (one_of HT_.out (by kernel_rfl)) (by decide) (fun K hK => ?_)
          have hs41 : w39.cell? ⟨gb116,2,none⟩ = some (.string (⟨#[]⟩ : ByteArray)) := (qae BK116.out 2).trans rfl
          have hfs41 := qad BK116.out 2
          have hns41_0 := NB115_116.out
          have hms41_0 := NB116_115.out
          refine skip_ (w1 := ?_) (by rfl) rfl ?_ ?_
          rotate_left
          ·go_simp
           rfl
          refine hK.out _ _ trivial (fun hHeld => ?_)
          clear hK K
          refine done_ (done_of HT_.out (by kernel_rfl)) ?_
          have hcz42_0 : w39.cell? ⟨gb116,0,none⟩ = some (.int .i64 x117000_5) := (qae BK116.out 0).trans rfl
          have hcz42_1 : w39.cell? ⟨gb116,1,none⟩ = some (.string x5_5) := (qae BK116.out 1).trans rfl
          have hcz42_2 : w39.cell? ⟨gb116,2,none⟩ = some (.string (⟨#[]⟩ : ByteArray)) := (qae BK116.out 2).trans rfl
          have hfz42_0 := qad BK116.out 0
          have hfz42_1 := qad BK116.out 1
          have hfz42_2 := qad BK116.out 2
          have hcz43_0 : w39.cell? ⟨gb115,0,none⟩ = some (.int .i64 x116000_5) := (qae BK115.out 0).trans rfl
          have hcz43_1 : w39.cell? ⟨gb115,1,none⟩ = some (.string x116001_5) := (qae BK115.out 1).trans rfl
          have hcz43_2 : w39.cell? ⟨gb115,2,none⟩ = some (.string x116002_5) := (qae BK115.out 2).trans rfl
          have hfz43_0 := qad BK115.out 0
          have hfz43_1 := qad BK115.out 1
          have hfz43_2 := qad BK115.out 2
          try go_wp2
          refine bodyPost_ret (results_ct rfl _ _ gb115 106 #[.int .i64 0,.string (⟨#[]⟩ : ByteArray),.string (⟨#[]⟩ : ByteArray)] (0,0) _ rfl (by (with_reducible repeat (first|refine qah ?_ _|refine qai ?_|refine qag ?_ _));refine blk_put (cs := #[.int .i64 0,.string (⟨#[]⟩ : ByteArray),.string x116002_5]) ?_ 2 _ rfl;(with_reducible repeat (first|refine qah ?_ _|refine qai ?_|refine qag ?_ _));refine blk_put (cs := #[.int .i64 0,.string x116001_5,.string x116002_5]) ?_ 1 _ rfl;(with_reducible repeat (first|refine qah ?_ _|refine qai ?_|refine qag ?_ _));refine blk_put (cs := #[.int .i64 x116000_5,.string x116001_5,.string x116002_5]) ?_ 0 _ rfl;(with_reducible repeat (first|refine qah ?_ _|refine qai ?_|refine qag ?_ _));refine blk_far ?_ NB115_116.out _;(with_reducible repeat (first|refine qah ?_ _|refine qai ?_|refine qag ?_ _));refine blk_far ?_ NB115_116.out _;(with_reducible repeat (first|refine qah ?_ _|refine qai ?_|refine qag ?_ _));exact BK115.out) Tryz.underlying106 rfl (by kernel_rfl)) rfl ?_
          exact ⟨by first|rfl|(simp [qaj,qak]<;>rfl)|(simp only [← hji32];first|rfl|(simp [qaj,qak]<;>rfl))|(simp [*,qaj,qak]<;>rfl),by repeat (first|(with_reducible first|exact HB.out|apply qab|apply qaa|apply qac|refine qaf ?_ GE115.out|refine qaf ?_ GE116.out)|exact HB.out)⟩
         ·rw [if_neg c35] at H
          have c35b0 : ((x5_5.extract ((ji32) : Int).toNat x5_5.size).toList == ([] : List UInt8)) = false := beq_eq_false_iff_ne.mpr c35
          have c35b1 : ((x5_5.extract ((ji32) : Int).toNat x5_5.size).toList != ([] : List UInt8)) = true := bne_iff_ne.mpr c35
          replace H := Option.bind_eq_some_iff.mp H
          obtain ⟨t125,A440,H⟩ := H
          replace H : (if t125 = true then (some (x117000_5,x5_5.extract 0 (t124 : Int).toNat,x5_5.extract ((ji32) : Int).toNat x5_5.size,0)) else (some (0,(⟨#[]⟩ : ByteArray),(⟨#[]⟩ : ByteArray),4))) = some (r1,r2,r3,r4) := H
          have A44 := Aside0.mk A440
          clear A440
          by_cases c45 : t125 = true
          ·subst c45
           have H1 : (some (x117000_5,x5_5.extract 0 (t124 : Int).toNat,x5_5.extract ((ji32) : Int).toNat x5_5.size,0)) = some (r1,r2,r3,r4) := by rw [if_pos rfl] at H;exact H
           clear H
           have H := H1
           clear H1
           simp only [Option.some.injEq,Prod.mk.injEq] at H
           obtain ⟨rfl,rfl,rfl,rfl⟩ := H
           have hnb46 := NB116_115.out
           have hnc46 := NB115_116.out
           have hcz47_0 : wc.cell? ⟨gb116,0,none⟩ = some (.int .i64 x117000_5) := (qae BK116.out 0).trans rfl
           have hcz47_1 : wc.cell? ⟨gb116,1,none⟩ = some (.string (⟨#[]⟩ : ByteArray)) := (qae BK116.out 1).trans rfl
           have hcz47_2 : wc.cell? ⟨gb116,2,none⟩ = some (.string (⟨#[]⟩ : ByteArray)) := (qae BK116.out 2).trans rfl
           have hfz47_0 := qad BK116.out 0
           have hfz47_1 := qad BK116.out 1
           have hfz47_2 := qad BK116.out 2
           try go_wp2_with (first|((with_reducible refine qal (f := 126) rfl ?_);refine goesL_ (some 48) rfl rfl Tryz.func126 (by kernel_rfl) rfl #[.string x5_5,.int .u8 45] rfl (by first|rfl|(simp only [List.map_toArray,List.map_cons,List.map_nil,List.length_drop,List.length_take];rfl)|simp only [List.map_toArray,List.map_cons,List.map_nil]) ?_;(with_reducible refine (strings_LastIndexByte.calls x5_5 45 t124 _ (by first|exact hG|exact GL.below hG (by repeat (first|(with_reducible first|exact HB.out|apply qab|apply qaa|apply qac|refine qaf ?_ GE115.out|refine qaf ?_ GE116.out)|exact HB.out)))  A28.out).mono ?_);rintro e w' ⟨rfl,⟨nd,rfl⟩⟩;refine ⟨_,rfl,?_⟩))
           have n0_ : Aside0 ((wc.setCell ⟨gb116,1,none⟩ (.string x5_5)).heap[gb115]? = some (.cells #[.int .i64 x116000_5,.string x116001_5,.string x116002_5] 106 (0,0))) := ⟨by (with_reducible repeat (first|refine qah ?_ _|refine qai ?_|refine qag ?_ _));refine blk_far ?_ NB115_116.out _;(with_reducible repeat (first|refine qah ?_ _|refine qai ?_|refine qag ?_ _));exact BK115.out⟩
           have n1_ : Aside0 ((wc.setCell ⟨gb116,1,none⟩ (.string x5_5)).heap[gb116]? = some (.cells #[.int .i64 x117000_5,.string x5_5,.string (⟨#[]⟩ : ByteArray)] 106 (0,0))) := ⟨by (with_reducible repeat (first|refine qah ?_ _|refine qai ?_|refine qag ?_ _));refine blk_put (cs := #[.int .i64 x117000_5,.string (⟨#[]⟩ : ByteArray),.string (⟨#[]⟩ : ByteArray)]) ?_ 1 _ rfl;(with_reducible repeat (first|refine qah ?_ _|refine qai ?_|refine qag ?_ _));exact BK116.out⟩
           have n2_ : Aside0 (Below w.heap.size w (wc.setCell ⟨gb116,1,none⟩ (.string x5_5))) := ⟨by repeat (first|(with_reducible first|exact HB.out|apply qab|apply qaa|apply qac|refine qaf ?_ GE115.out|refine qaf ?_ GE116.out)|exact HB.out)⟩
           (try clear BK115)
           (try clear BK116)
           (try clear HB)
           generalize (wc.setCell ⟨gb116,1,none⟩ (.string x5_5)) = w48 at n0_ n1_ n2_ ⊢
           have BK115 := n0_
           have BK116 := n1_
           have HB := n2_
           clear n0_ n1_ n2_
           (try (rw [drewN_self w48];generalize hq_ : World.drewN w48 _ = w48;have n0_ : Aside0 (w48.heap[gb115]? = some (.cells #[.int .i64 x116000_5,.string x116001_5,.string x116002_5] 106 (0,0))) := ⟨by rw [← hq_];exact (by (with_reducible repeat (first|refine qah ?_ _|refine qai ?_|refine qag ?_ _));exact BK115.out)⟩;have n1_ : Aside0 (w48.heap[gb116]? = some (.cells #[.int .i64 x117000_5,.string x5_5,.string (⟨#[]⟩ : ByteArray)] 106 (0,0))) := ⟨by rw [← hq_];exact (by (with_reducible repeat (first|refine qah ?_ _|refine qai ?_|refine qag ?_ _));exact BK116.out)⟩;have n2_ : Aside0 (Below w.heap.size w w48) := ⟨by rw [← hq_];exact (by repeat (first|(with_reducible first|exact HB.out|apply qab|apply qaa|apply qac|refine qaf ?_ GE115.out|refine qaf ?_ GE116.out)|exact HB.out))⟩;clear BK115 BK116 HB hq_;have BK115 := n0_;have BK116 := n1_;have HB := n2_;clear n0_ n1_ n2_))
           have n0_ := Aside0.mk (qai BK115.out)
           have n1_ := Aside0.mk (qai BK116.out)
           have n2_ := Aside0.mk (qac HB.out)
           clear BK115
           clear BK116
           clear HB
           have BK115 := n0_
           have BK116 := n1_
           have HB := n2_
           clear n0_ n1_ n2_
           refine start_ (n := 11) (S := fun w' => True) (ds := []) #[false,false,false,false,false,false,false,false,false,false,false] (by kernel_rfl) rfl rfl trivial (fun hHeld => ?_);refine with_tabW version_Parse.tab14 version_Parse.bits14 (fun HT_ HW_ => ?_)
           generalize w48.drew = w49 at BK115 BK116 HB hHeld ⊢
           refine pure_ (i := 0) (N := some 51) (v := ?_) (a' := ?_) #[true,false,false,false,false,false,false,false,false,false,false] rfl rfl (any_of HT_.out (by kernel_rfl)) (fun _ _ _ h => h) (Or.inl ⟨by rfl,?_⟩) ?_ ?_
           rotate_left
           ·intro w'
            go_simp
            with_reducible rfl
           rotate_left
           ·simp only [Act.put,List.setIfInBounds_toArray,List.set_cons_zero,List.set_cons_succ,i64_w,i32_w]
            rfl
           refine pure_ (i := 1) (N := some 52) (v := ?_) (a' := ?_) #[true,true,false,false,false,false,false,false,false,false,false] rfl rfl (any_of HT_.out (by kernel_rfl)) (fun _ _ _ h => h) (Or.inl ⟨by rfl,?_⟩) ?_ ?_
           rotate_left
           ·intro w'
            go_simp
            with_reducible rfl
           rotate_left
           ·simp only [Act.put,List.setIfInBounds_toArray,List.set_cons_zero,List.set_cons_succ,i64_w,i32_w]
            rfl
           refine pure_ (i := 2) (N := some 53) (v := ?_) (a' := ?_) #[true,true,true,false,false,false,false,false,false,false,false] rfl rfl (any_of HT_.out (by kernel_rfl)) (fun _ _ _ h => h) (Or.inl ⟨by rfl,?_⟩) ?_ ?_
           rotate_left
           ·intro w'
            go_simp
            with_reducible rfl
           rotate_left
           ·simp only [Act.put,List.setIfInBounds_toArray,List.set_cons_zero,List.set_cons_succ,i64_w,i32_w]
            rfl
           refine pure_ (i := 3) (N := some 54) (v := ?_) (a' := ?_) #[true,true,true,true,false,false,false,false,false,false,false] rfl rfl (any_of HT_.out (by kernel_rfl)) (fun _ _ _ h => h) (Or.inl ⟨by rfl,?_⟩) ?_ ?_
           rotate_left
           ·intro w'
            go_simp
            with_reducible rfl
           rotate_left
           ·simp only [Act.put,List.setIfInBounds_toArray,List.set_cons_zero,List.set_cons_succ,i64_w,i32_w]
            rfl
           refine pure_ (i := 4) (N := some 55) (v := ?_) (a' := ?_) #[true,true,true,true,true,false,false,false,false,false,false] rfl rfl (any_of HT_.out (by kernel_rfl)) (fun _ _ _ h => h) (Or.inl ⟨by rfl,?_⟩) ?_ ?_
           rotate_left
           ·intro w'
            go_simp
            with_reducible rfl
           rotate_left
           ·simp only [Act.put,List.setIfInBounds_toArray,List.set_cons_zero,List.set_cons_succ,i64_w,i32_w]
            rfl
           refine pure_ (i := 5) (N := some 56) (v := ?_) (a' := ?_) #[true,true,true,true,true,true,false,false,false,false,false] rfl rfl (any_of HT_.out (by kernel_rfl)) (fun _ _ _ h => h) (Or.inl ⟨by rfl,?_⟩) ?_ ?_
           rotate_left
           ·intro w'
            go_simp
            with_reducible rfl
           rotate_left
           ·simp only [Act.put,List.setIfInBounds_toArray,List.set_cons_zero,List.set_cons_succ,i64_w,i32_w]
            rfl
           refine pure_ (i := 6) (N := some 57) (v := ?_) (a' := ?_) #[true,true,true,true,true,true,true,false,false,false,false] rfl rfl (any_of HT_.out (by kernel_rfl)) (fun _ _ _ h => h) (Or.inl ⟨by rfl,?_⟩) ?_ ?_
           rotate_left
           ·intro w'
            go_simp
            with_reducible rfl
           rotate_left
           ·simp only [Act.put,List.setIfInBounds_toArray,List.set_cons_zero,List.set_cons_succ,i64_w,i32_w]
            rfl
           refine pure_ (i := 7) (N := some 58) (v := ?_) (a' := ?_) #[true,true,true,true,true,true,true,true,false,false,false] rfl rfl (any_of HT_.out (by kernel_rfl)) (fun _ _ _ h => h) (Or.inl ⟨by rfl,?_⟩) ?_ ?_
           rotate_left
           ·intro w'
            go_simp
            with_reducible rfl
           rotate_left
           ·simp only [Act.put,List.setIfInBounds_toArray,List.set_cons_zero,List.set_cons_succ,i64_w,i32_w]
            rfl
           refine one_ (i := 8) (N := none) #[true,true,true,true,true,true,true,true,true,false,false] rfl rfl (one_of HT_.out (by kernel_rfl)) (by decide) (fun K hK => ?_)
           have hs50 : w49.cell? ⟨gb116,1,none⟩ = some (.string x5_5) := (qae BK116.out 1).trans rfl
           have hfs50 := qad BK116.out 1
           have hns50_0 := NB115_116.out
           have hms50_0 := NB116_115.out
           refine skip_ (w1 := ?_) (by rfl) rfl ?_ ?_
           rotate_left
           ·go_simp
            rfl
           refine hK.out _ _ trivial (fun hHeld => ?_)
           clear hK K
           refine pure_ (i := 9) (N := some 59) (v := ?_) (a' := ?_) #[true,true,true,true,true,true,true,true,true,true,false] rfl rfl (any_of HT_.out (by kernel_rfl)) (fun _ _ _ h => h) (Or.inl ⟨by rfl,?_⟩) ?_ ?_
           rotate_left
           ·intro w'
            go_simp
            with_reducible rfl
           rotate_left
           ·simp only [Act.put,List.setIfInBounds_toArray,List.set_cons_zero,List.set_cons_succ,i64_w,i32_w]
            rfl
           refine one_ (i := 10) (N := none) #[true,true,true,true,true,true,true,true,true,true,true] rfl rfl (one_of HT_.out (by kernel_rfl)) (by decide) (fun K hK => ?_)
           have hs51 : w49.cell? ⟨gb116,2,none⟩ = some (.string (⟨#[]⟩ : ByteArray)) := (qae BK116.out 2).trans rfl
           have hfs51 := qad BK116.out 2
           have hns51_0 := NB115_116.out
           have hms51_0 := NB116_115.out
           refine skip_ (w1 := ?_) (by rfl) rfl ?_ ?_
           rotate_left
           ·go_simp
            rfl
           refine hK.out _ _ trivial (fun hHeld => ?_)
           clear hK K
           refine done_ (done_of HT_.out (by kernel_rfl)) ?_
           have hcz52_0 : w49.cell? ⟨gb116,0,none⟩ = some (.int .i64 x117000_5) := (qae BK116.out 0).trans rfl
           have hcz52_1 : w49.cell? ⟨gb116,1,none⟩ = some (.string x5_5) := (qae BK116.out 1).trans rfl
           have hcz52_2 : w49.cell? ⟨gb116,2,none⟩ = some (.string (⟨#[]⟩ : ByteArray)) := (qae BK116.out 2).trans rfl
           have hfz52_0 := qad BK116.out 0
           have hfz52_1 := qad BK116.out 1
           have hfz52_2 := qad BK116.out 2
           try go_wp2_with (first|((with_reducible refine qal (f := 127) rfl ?_);refine goesL_ (some 65) rfl rfl Tryz.func127 (by kernel_rfl) rfl #[.agg #[.int .i64 x117000_5,.string (x5_5.extract 0 (t124 : Int).toNat),.string (x5_5.extract ((ji32) : Int).toNat x5_5.size)]] rfl (by (try simp only [List.map_toArray,List.map_cons,List.map_nil]);first|done|(simp only [hji32];rfl)|rfl|(simp only [List.length_drop,List.length_take];rfl)) ?_;(with_reducible refine (version_Right.calls kj5 x117000_5 (x5_5.extract 0 (t124 : Int).toNat) (x5_5.extract ((ji32) : Int).toNat x5_5.size) true _ (by first|exact hG|exact GL.below hG (by repeat (first|(with_reducible first|exact HB.out|apply qab|apply qaa|apply qac|refine qaf ?_ GE115.out|refine qaf ?_ GE116.out)|exact HB.out)))  A44.out).mono ?_);rintro e w53 ⟨rfl,hb⟩;refine ⟨_,rfl,?_⟩;have n0_ := Aside0.mk (qap (g := gb115) (o := .cells #[.int .i64 x116000_5,.string x116001_5,.string x116002_5] 106 (0,0)) (by (with_reducible repeat (first|refine qah ?_ _|refine qai ?_|refine qag ?_ _));refine blk_far ?_ NB115_116.out _;(with_reducible repeat (first|refine qah ?_ _|refine qai ?_|refine qag ?_ _));refine blk_far ?_ NB115_116.out _;(with_reducible repeat (first|refine qah ?_ _|refine qai ?_|refine qag ?_ _));exact BK115.out) hb);have n1_ := Aside0.mk (qap (g := gb116) (o := .cells #[.int .i64 x117000_5,.string (x5_5.extract 0 (t124 : Int).toNat),.string (x5_5.extract ((ji32) : Int).toNat x5_5.size)] 106 (0,0)) (by (with_reducible repeat (first|refine qah ?_ _|refine qai ?_|refine qag ?_ _));refine blk_put (cs := #[.int .i64 x117000_5,.string (x5_5.extract 0 (t124 : Int).toNat),.string (⟨#[]⟩ : ByteArray)]) ?_ 2 _ rfl;(with_reducible repeat (first|refine qah ?_ _|refine qai ?_|refine qag ?_ _));refine blk_put (cs := #[.int .i64 x117000_5,.string x5_5,.string (⟨#[]⟩ : ByteArray)]) ?_ 1 _ rfl;(with_reducible repeat (first|refine qah ?_ _|refine qai ?_|refine qag ?_ _));exact BK116.out) hb);have n2_ := Aside0.mk (qan (by repeat (first|(with_reducible first|exact HB.out|apply qab|apply qaa|apply qac|refine qaf ?_ GE115.out|refine qaf ?_ GE116.out)|exact HB.out)) hb);clear BK115;clear BK116;clear HB;have BK115 := n0_;have BK116 := n1_;have HB := n2_;clear n0_ n1_ n2_;(try clear hb);(try clear hb2);(try clear hk);(try clear hi);have hcz54_0 : w53.cell? ⟨gb116,0,none⟩ = some (.int .i64 x117000_5) := (qae BK116.out 0).trans rfl;have hcz54_1 : w53.cell? ⟨gb116,1,none⟩ = some (.string (x5_5.extract 0 (t124 : Int).toNat)) := (qae BK116.out 1).trans rfl;have hcz54_2 : w53.cell? ⟨gb116,2,none⟩ = some (.string (x5_5.extract ((ji32) : Int).toNat x5_5.size)) := (qae BK116.out 2).trans rfl;have hfz54_0 := qad BK116.out 0;have hfz54_1 := qad BK116.out 1;have hfz54_2 := qad BK116.out 2;have hcz55_0 : w53.cell? ⟨gb115,0,none⟩ = some (.int .i64 x116000_5) := (qae BK115.out 0).trans rfl;have hcz55_1 : w53.cell? ⟨gb115,1,none⟩ = some (.string x116001_5) := (qae BK115.out 1).trans rfl;have hcz55_2 : w53.cell? ⟨gb115,2,none⟩ = some (.string x116002_5) := (qae BK115.out 2).trans rfl;have hfz55_0 := qad BK115.out 0;have hfz55_1 := qad BK115.out 1;have hfz55_2 := qad BK115.out 2))
           refine bodyPost_ret (results_ct rfl _ _ gb115 106 #[.int .i64 x117000_5,.string (x5_5.extract 0 (t124 : Int).toNat),.string (x5_5.extract ((ji32) : Int).toNat x5_5.size)] (0,0) _ rfl (by (with_reducible repeat (first|refine qah ?_ _|refine qai ?_|refine qag ?_ _));refine blk_put (cs := #[.int .i64 x117000_5,.string (x5_5.extract 0 (t124 : Int).toNat),.string x116002_5]) ?_ 2 _ rfl;(with_reducible repeat (first|refine qah ?_ _|refine qai ?_|refine qag ?_ _));refine blk_put (cs := #[.int .i64 x117000_5,.string x116001_5,.string x116002_5]) ?_ 1 _ rfl;(with_reducible repeat (first|refine qah ?_ _|refine qai ?_|refine qag ?_ _));refine blk_put (cs := #[.int .i64 x116000_5,.string x116001_5,.string x116002_5]) ?_ 0 _ rfl;(with_reducible repeat (first|refine qah ?_ _|refine qai ?_|refine qag ?_ _));exact BK115.out) Tryz.underlying106 rfl (by kernel_rfl)) rfl ?_
           exact ⟨by first|rfl|(simp [qaj,qak]<;>rfl)|(simp only [← hji32];first|rfl|(simp [qaj,qak]<;>rfl))|(simp [*,qaj,qak]<;>rfl),by repeat (first|(with_reducible first|exact HB.out|apply qab|apply qaa|apply qac|refine qaf ?_ GE115.out|refine qaf ?_ GE116.out)|exact HB.out)⟩
          ·replace c45 := Bool.eq_false_iff.mpr c45
           subst c45
           have H1 : (some (0,(⟨#[]⟩ : ByteArray),(⟨#[]⟩ : ByteArray),4)) = some (r1,r2,r3,r4) := by rw [if_neg (show ¬ (false = true) by decide)] at H;exact H
           clear H
           have H := H1
           clear H1
           simp only [Option.some.injEq,Prod.mk.injEq] at H
           obtain ⟨rfl,rfl,rfl,rfl⟩ := H
           have hnb56 := NB116_115.out
           have hnc56 := NB115_116.out
           have hcz57_0 : wc.cell? ⟨gb116,0,none⟩ = some (.int .i64 x117000_5) := (qae BK116.out 0).trans rfl
           have hcz57_1 : wc.cell? ⟨gb116,1,none⟩ = some (.string (⟨#[]⟩ : ByteArray)) := (qae BK116.out 1).trans rfl
           have hcz57_2 : wc.cell? ⟨gb116,2,none⟩ = some (.string (⟨#[]⟩ : ByteArray)) := (qae BK116.out 2).trans rfl
           have hfz57_0 := qad BK116.out 0
           have hfz57_1 := qad BK116.out 1
           have hfz57_2 := qad BK116.out 2
           try go_wp2_with (first|((with_reducible refine qal (f := 126) rfl ?_);refine goesL_ (some 48) rfl rfl Tryz.func126 (by kernel_rfl) rfl #[.string x5_5,.int .u8 45] rfl (by first|rfl|(simp only [List.map_toArray,List.map_cons,List.map_nil,List.length_drop,List.length_take];rfl)|simp only [List.map_toArray,List.map_cons,List.map_nil]) ?_;(with_reducible refine (strings_LastIndexByte.calls x5_5 45 t124 _ (by first|exact hG|exact GL.below hG (by repeat (first|(with_reducible first|exact HB.out|apply qab|apply qaa|apply qac|refine qaf ?_ GE115.out|refine qaf ?_ GE116.out)|exact HB.out)))  A28.out).mono ?_);rintro e w' ⟨rfl,⟨nd,rfl⟩⟩;refine ⟨_,rfl,?_⟩))
           have n0_ : Aside0 ((wc.setCell ⟨gb116,1,none⟩ (.string x5_5)).heap[gb115]? = some (.cells #[.int .i64 x116000_5,.string x116001_5,.string x116002_5] 106 (0,0))) := ⟨by (with_reducible repeat (first|refine qah ?_ _|refine qai ?_|refine qag ?_ _));refine blk_far ?_ NB115_116.out _;(with_reducible repeat (first|refine qah ?_ _|refine qai ?_|refine qag ?_ _));exact BK115.out⟩
           have n1_ : Aside0 ((wc.setCell ⟨gb116,1,none⟩ (.string x5_5)).heap[gb116]? = some (.cells #[.int .i64 x117000_5,.string x5_5,.string (⟨#[]⟩ : ByteArray)] 106 (0,0))) := ⟨by (with_reducible repeat (first|refine qah ?_ _|refine qai ?_|refine qag ?_ _));refine blk_put (cs := #[.int .i64 x117000_5,.string (⟨#[]⟩ : ByteArray),.string (⟨#[]⟩ : ByteArray)]) ?_ 1 _ rfl;(with_reducible repeat (first|refine qah ?_ _|refine qai ?_|refine qag ?_ _));exact BK116.out⟩
           have n2_ : Aside0 (Below w.heap.size w (wc.setCell ⟨gb116,1,none⟩ (.string x5_5))) := ⟨by repeat (first|(with_reducible first|exact HB.out|apply qab|apply qaa|apply qac|refine qaf ?_ GE115.out|refine qaf ?_ GE116.out)|exact HB.out)⟩
           (try clear BK115)
           (try clear BK116)
           (try clear HB)
           generalize (wc.setCell ⟨gb116,1,none⟩ (.string x5_5)) = w58 at n0_ n1_ n2_ ⊢
           have BK115 := n0_
           have BK116 := n1_
           have HB := n2_
           clear n0_ n1_ n2_
           (try (rw [drewN_self w58];generalize hq_ : World.drewN w58 _ = w58;have n0_ : Aside0 (w58.heap[gb115]? = some (.cells #[.int .i64 x116000_5,.string x116001_5,.string x116002_5] 106 (0,0))) := ⟨by rw [← hq_];exact (by (with_reducible repeat (first|refine qah ?_ _|refine qai ?_|refine qag ?_ _));exact BK115.out)⟩;have n1_ : Aside0 (w58.heap[gb116]? = some (.cells #[.int .i64 x117000_5,.string x5_5,.string (⟨#[]⟩ : ByteArray)] 106 (0,0))) := ⟨by rw [← hq_];exact (by (with_reducible repeat (first|refine qah ?_ _|refine qai ?_|refine qag ?_ _));exact BK116.out)⟩;have n2_ : Aside0 (Below w.heap.size w w58) := ⟨by rw [← hq_];exact (by repeat (first|(with_reducible first|exact HB.out|apply qab|apply qaa|apply qac|refine qaf ?_ GE115.out|refine qaf ?_ GE116.out)|exact HB.out))⟩;clear BK115 BK116 HB hq_;have BK115 := n0_;have BK116 := n1_;have HB := n2_;clear n0_ n1_ n2_))
           have n0_ := Aside0.mk (qai BK115.out)
           have n1_ := Aside0.mk (qai BK116.out)
           have n2_ := Aside0.mk (qac HB.out)
           clear BK115
           clear BK116
           clear HB
           have BK115 := n0_
           have BK116 := n1_
           have HB := n2_
           clear n0_ n1_ n2_
           refine start_ (n := 11) (S := fun w' => True) (ds := []) #[false,false,false,false,false,false,false,false,false,false,false] (by kernel_rfl) rfl rfl trivial (fun hHeld => ?_);refine with_tabW version_Parse.tab14 version_Parse.bits14 (fun HT_ HW_ => ?_)
           generalize w58.drew = w59 at BK115 BK116 HB hHeld ⊢
           refine pure_ (i := 0) (N := some 51) (v := ?_) (a' := ?_) #[true,false,false,false,false,false,false,false,false,false,false] rfl rfl (any_of HT_.out (by kernel_rfl)) (fun _ _ _ h => h) (Or.inl ⟨by rfl,?_⟩) ?_ ?_
           rotate_left
           ·intro w'
            go_simp
            with_reducible rfl
           rotate_left
           ·simp only [Act.put,List.setIfInBounds_toArray,List.set_cons_zero,List.set_cons_succ,i64_w,i32_w]
            rfl
           refine pure_ (i := 1) (N := some 52) (v := ?_) (a' := ?_) #[true,true,false,false,false,false,false,false,false,false,false] rfl rfl (any_of HT_.out (by kernel_rfl)) (fun _ _ _ h => h) (Or.inl ⟨by rfl,?_⟩) ?_ ?_
           rotate_left
           ·intro w'
            go_simp
            with_reducible rfl
           rotate_left
           ·simp only [Act.put,List.setIfInBounds_toArray,List.set_cons_zero,List.set_cons_succ,i64_w,i32_w]
            rfl
           refine pure_ (i := 2) (N := some 53) (v := ?_) (a' := ?_) #[true,true,true,false,false,false,false,false,false,false,false] rfl rfl (any_of HT_.out (by kernel_rfl)) (fun _ _ _ h => h) (Or.inl ⟨by rfl,?_⟩) ?_ ?_
           rotate_left
           ·intro w'
            go_simp
            with_reducible rfl
           rotate_left
           ·simp only [Act.put,List.setIfInBounds_toArray,List.set_cons_zero,List.set_cons_succ,i64_w,i32_w]
            rfl
           refine pure_ (i := 3) (N := some 54) (v := ?_) (a' := ?_) #[true,true,true,true,false,false,false,false,false,false,false] rfl rfl (any_of HT_.out (by kernel_rfl)) (fun _ _ _ h => h) (Or.inl ⟨by rfl,?_⟩) ?_ ?_
           rotate_left
           ·intro w'
            go_simp
            with_reducible rfl
           rotate_left
           ·simp only [Act.put,List.setIfInBounds_toArray,List.set_cons_zero,List.set_cons_succ,i64_w,i32_w]
            rfl
           refine pure_ (i := 4) (N := some 55) (v := ?_) (a' := ?_) #[true,true,true,true,true,false,false,false,false,false,false] rfl rfl (any_of HT_.out (by kernel_rfl)) (fun _ _ _ h => h) (Or.inl ⟨by rfl,?_⟩) ?_ ?_
           rotate_left
           ·intro w'
            go_simp
            with_reducible rfl
           rotate_left
           ·simp only [Act.put,List.setIfInBounds_toArray,List.set_cons_zero,List.set_cons_succ,i64_w,i32_w]
            rfl
           refine pure_ (i := 5) (N := some 56) (v := ?_) (a' := ?_) #[true,true,true,true,true,true,false,false,false,false,false] rfl rfl (any_of HT_.out (by kernel_rfl)) (fun _ _ _ h => h) (Or.inl ⟨by rfl,?_⟩) ?_ ?_
           rotate_left
           ·intro w'
            go_simp
            with_reducible rfl
           rotate_left
           ·simp only [Act.put,List.setIfInBounds_toArray,List.set_cons_zero,List.set_cons_succ,i64_w,i32_w]
            rfl
           refine pure_ (i := 6) (N := some 57) (v := ?_) (a' := ?_) #[true,true,true,true,true,true,true,false,false,false,false] rfl rfl (any_of HT_.out (by kernel_rfl)) (fun _ _ _ h => h) (Or.inl ⟨by rfl,?_⟩) ?_ ?_
           rotate_left
           ·intro w'
            go_simp
            with_reducible rfl
           rotate_left
           ·simp only [Act.put,List.setIfInBounds_toArray,List.set_cons_zero,List.set_cons_succ,i64_w,i32_w]
            rfl
           refine pure_ (i := 7) (N := some 58) (v := ?_) (a' := ?_) #[true,true,true,true,true,true,true,true,false,false,false] rfl rfl (any_of HT_.out (by kernel_rfl)) (fun _ _ _ h => h) (Or.inl ⟨by rfl,?_⟩) ?_ ?_
           rotate_left
           ·intro w'
            go_simp
            with_reducible rfl
           rotate_left
           ·simp only [Act.put,List.setIfInBounds_toArray,List.set_cons_zero,List.set_cons_succ,i64_w,i32_w]
            rfl
           refine one_ (i := 8) (N := none) #[true,true,true,true,true,true,true,true,true,false,false] rfl rfl (one_of HT_.out (by kernel_rfl)) (by decide) (fun K hK => ?_)
           have hs60 : w59.cell? ⟨gb116,1,none⟩ = some (.string x5_5) := (qae BK116.out 1).trans rfl
           have hfs60 := qad BK116.out 1
           have hns60_0 := NB115_116.out
           have hms60_0 := NB116_115.out
           refine skip_ (w1 := ?_) (by rfl) rfl ?_ ?_
           rotate_left
           ·go_simp
            rfl
           refine hK.out _ _ trivial (fun hHeld => ?_)
           clear hK K
           refine pure_ (i := 9) (N := some 59) (v := ?_) (a' := ?_) #[true,true,true,true,true,true,true,true,true,true,false] rfl rfl (any_of HT_.out (by kernel_rfl)) (fun _ _ _ h => h) (Or.inl ⟨by rfl,?_⟩) ?_ ?_
           rotate_left
           ·intro w'
            go_simp
            with_reducible rfl
           rotate_left
           ·simp only [Act.put,List.setIfInBounds_toArray,List.set_cons_zero,List.set_cons_succ,i64_w,i32_w]
            rfl
           refine one_ (i := 10) (N := none) #[true,true,true,true,true,true,true,true,true,true,true] rfl rfl (one_of HT_.out (by kernel_rfl)) (by decide) (fun K hK => ?_)
           have hs61 : w59.cell? ⟨gb116,2,none⟩ = some (.string (⟨#[]⟩ : ByteArray)) := (qae BK116.out 2).trans rfl
           have hfs61 := qad BK116.out 2
           have hns61_0 := NB115_116.out
           have hms61_0 := NB116_115.out
           refine skip_ (w1 := ?_) (by rfl) rfl ?_ ?_
           rotate_left
           ·go_simp
            rfl
           refine hK.out _ _ trivial (fun hHeld => ?_)
           clear hK K
           refine done_ (done_of HT_.out (by kernel_rfl)) ?_
           have hcz62_0 : w59.cell? ⟨gb116,0,none⟩ = some (.int .i64 x117000_5) := (qae BK116.out 0).trans rfl
           have hcz62_1 : w59.cell? ⟨gb116,1,none⟩ = some (.string x5_5) := (qae BK116.out 1).trans rfl
           have hcz62_2 : w59.cell? ⟨gb116,2,none⟩ = some (.string (⟨#[]⟩ : ByteArray)) := (qae BK116.out 2).trans rfl
           have hfz62_0 := qad BK116.out 0
           have hfz62_1 := qad BK116.out 1
           have hfz62_2 := qad BK116.out 2
           try go_wp2_with (first|((with_reducible refine qal (f := 127) rfl ?_);refine goesL_ (some 65) rfl rfl Tryz.func127 (by kernel_rfl) rfl #[.agg #[.int .i64 x117000_5,.string (x5_5.extract 0 (t124 : Int).toNat),.string (x5_5.extract ((ji32) : Int).toNat x5_5.size)]] rfl (by (try simp only [List.map_toArray,List.map_cons,List.map_nil]);first|done|(simp only [hji32];rfl)|rfl|(simp only [List.length_drop,List.length_take];rfl)) ?_;(with_reducible refine (version_Right.calls kj5 x117000_5 (x5_5.extract 0 (t124 : Int).toNat) (x5_5.extract ((ji32) : Int).toNat x5_5.size) false _ (by first|exact hG|exact GL.below hG (by repeat (first|(with_reducible first|exact HB.out|apply qab|apply qaa|apply qac|refine qaf ?_ GE115.out|refine qaf ?_ GE116.out)|exact HB.out)))  A44.out).mono ?_);rintro e w63 ⟨rfl,hb⟩;refine ⟨_,rfl,?_⟩;have n0_ := Aside0.mk (qap (g := gb115) (o := .cells #[.int .i64 x116000_5,.string x116001_5,.string x116002_5] 106 (0,0)) (by (with_reducible repeat (first|refine qah ?_ _|refine qai ?_|refine qag ?_ _));refine blk_far ?_ NB115_116.out _;(with_reducible repeat (first|refine qah ?_ _|refine qai ?_|refine qag ?_ _));refine blk_far ?_ NB115_116.out _;(with_reducible repeat (first|refine qah ?_ _|refine qai ?_|refine qag ?_ _));exact BK115.out) hb);have n1_ := Aside0.mk (qap (g := gb116) (o := .cells #[.int .i64 x117000_5,.string (x5_5.extract 0 (t124 : Int).toNat),.string (x5_5.extract ((ji32) : Int).toNat x5_5.size)] 106 (0,0)) (by (with_reducible repeat (first|refine qah ?_ _|refine qai ?_|refine qag ?_ _));refine blk_put (cs := #[.int .i64 x117000_5,.string (x5_5.extract 0 (t124 : Int).toNat),.string (⟨#[]⟩ : ByteArray)]) ?_ 2 _ rfl;(with_reducible repeat (first|refine qah ?_ _|refine qai ?_|refine qag ?_ _));refine blk_put (cs := #[.int .i64 x117000_5,.string x5_5,.string (⟨#[]⟩ : ByteArray)]) ?_ 1 _ rfl;(with_reducible repeat (first|refine qah ?_ _|refine qai ?_|refine qag ?_ _));exact BK116.out) hb);have n2_ := Aside0.mk (qan (by repeat (first|(with_reducible first|exact HB.out|apply qab|apply qaa|apply qac|refine qaf ?_ GE115.out|refine qaf ?_ GE116.out)|exact HB.out)) hb);clear BK115;clear BK116;clear HB;have BK115 := n0_;have BK116 := n1_;have HB := n2_;clear n0_ n1_ n2_;(try clear hb);(try clear hb2);(try clear hk);(try clear hi);have hcz64_0 : w63.cell? ⟨gb115,0,none⟩ = some (.int .i64 x116000_5) := (qae BK115.out 0).trans rfl;have hcz64_1 : w63.cell? ⟨gb115,1,none⟩ = some (.string x116001_5) := (qae BK115.out 1).trans rfl;have hcz64_2 : w63.cell? ⟨gb115,2,none⟩ = some (.string x116002_5) := (qae BK115.out 2).trans rfl;have hfz64_0 := qad BK115.out 0;have hfz64_1 := qad BK115.out 1;have hfz64_2 := qad BK115.out 2))
           refine bodyPost_ret (results_ct rfl _ _ gb115 106 #[.int .i64 0,.string (⟨#[]⟩ : ByteArray),.string (⟨#[]⟩ : ByteArray)] (0,0) _ rfl (by (with_reducible repeat (first|refine qah ?_ _|refine qai ?_|refine qag ?_ _));refine blk_put (cs := #[.int .i64 0,.string (⟨#[]⟩ : ByteArray),.string x116002_5]) ?_ 2 _ rfl;(with_reducible repeat (first|refine qah ?_ _|refine qai ?_|refine qag ?_ _));refine blk_put (cs := #[.int .i64 0,.string x116001_5,.string x116002_5]) ?_ 1 _ rfl;(with_reducible repeat (first|refine qah ?_ _|refine qai ?_|refine qag ?_ _));refine blk_put (cs := #[.int .i64 x116000_5,.string x116001_5,.string x116002_5]) ?_ 0 _ rfl;(with_reducible repeat (first|refine qah ?_ _|refine qai ?_|refine qag ?_ _));exact BK115.out) Tryz.underlying106 rfl (by kernel_rfl)) rfl ?_
           exact ⟨by first|rfl|(simp [qaj,qak]<;>rfl)|(simp only [← hji32];first|rfl|(simp [qaj,qak]<;>rfl))|(simp [*,qaj,qak]<;>rfl),by repeat (first|(with_reducible first|exact HB.out|apply qab|apply qaa|apply qac|refine qaf ?_ GE115.out|refine qaf ?_ GE116.out)|exact HB.out)⟩
        ·rw [if_neg c34] at H
         exact absurd H (by simp)
       ·rw [if_neg c33] at H
        exact absurd H (by simp)
      ·rw [if_neg c31] at H
       exact absurd H (by simp)
     ·rw [if_neg c30] at H
      exact absurd H (by simp)
    ·rw [if_neg c29] at H
     have c29b0 : decide (0 ≤ t124) = false := decide_eq_false c29
     clear c29
     replace H := Option.bind_eq_some_iff.mp H
     obtain ⟨t126,A650,H⟩ := H
     replace H : (if t126 = true then (some (x117000_5,x5_5,(⟨#[]⟩ : ByteArray),0)) else (some (0,(⟨#[]⟩ : ByteArray),(⟨#[]⟩ : ByteArray),4))) = some (r1,r2,r3,r4) := H
     have A65 := Aside0.mk A650
     clear A650
     by_cases c66 : t126 = true
     ·subst c66
      have H1 : (some (x117000_5,x5_5,(⟨#[]⟩ : ByteArray),0)) = some (r1,r2,r3,r4) := by rw [if_pos rfl] at H;exact H
      clear H
      have H := H1
      clear H1
      simp only [Option.some.injEq,Prod.mk.injEq] at H
      obtain ⟨rfl,rfl,rfl,rfl⟩ := H
      have hnb67 := NB116_115.out
      have hnc67 := NB115_116.out
      have hcz68_0 : wc.cell? ⟨gb116,0,none⟩ = some (.int .i64 x117000_5) := (qae BK116.out 0).trans rfl
      have hcz68_1 : wc.cell? ⟨gb116,1,none⟩ = some (.string (⟨#[]⟩ : ByteArray)) := (qae BK116.out 1).trans rfl
      have hcz68_2 : wc.cell? ⟨gb116,2,none⟩ = some (.string (⟨#[]⟩ : ByteArray)) := (qae BK116.out 2).trans rfl
      have hfz68_0 := qad BK116.out 0
      have hfz68_1 := qad BK116.out 1
      have hfz68_2 := qad BK116.out 2
      go_wp2_with (first|((with_reducible refine qal (f := 126) rfl ?_);refine goesL_ (some 48) rfl rfl Tryz.func126 (by kernel_rfl) rfl #[.string x5_5,.int .u8 45] rfl (by first|rfl|(simp only [List.map_toArray,List.map_cons,List.map_nil,List.length_drop,List.length_take];rfl)|simp only [List.map_toArray,List.map_cons,List.map_nil]) ?_;(with_reducible refine (strings_LastIndexByte.calls x5_5 45 t124 _ (by first|exact hG|exact GL.below hG (by repeat (first|(with_reducible first|exact HB.out|apply qab|apply qaa|apply qac|refine qaf ?_ GE115.out|refine qaf ?_ GE116.out)|exact HB.out)))  A28.out).mono ?_);rintro e w' ⟨rfl,⟨nd,rfl⟩⟩;refine ⟨_,rfl,?_⟩)|((with_reducible refine qal (f := 127) rfl ?_);refine goesL_ (some 65) rfl rfl Tryz.func127 (by kernel_rfl) rfl #[.agg #[.int .i64 x117000_5,.string x5_5,.string (⟨#[]⟩ : ByteArray)]] rfl (by first|rfl|(simp only [List.map_toArray,List.map_cons,List.map_nil,List.length_drop,List.length_take];rfl)|simp only [List.map_toArray,List.map_cons,List.map_nil]) ?_;(with_reducible refine (version_Right.calls kj5 x117000_5 x5_5 (⟨#[]⟩ : ByteArray) true _ (by first|exact hG|exact GL.below hG (by repeat (first|(with_reducible first|exact HB.out|apply qab|apply qaa|apply qac|refine qaf ?_ GE115.out|refine qaf ?_ GE116.out)|exact HB.out)))  A65.out).mono ?_);rintro e w69 ⟨rfl,hb⟩;refine ⟨_,rfl,?_⟩;have n0_ := Aside0.mk (qap (g := gb115) (o := .cells #[.int .i64 x116000_5,.string x116001_5,.string x116002_5] 106 (0,0)) (by (with_reducible repeat (first|refine qah ?_ _|refine qai ?_|refine qag ?_ _));refine blk_far ?_ NB115_116.out _;(with_reducible repeat (first|refine qah ?_ _|refine qai ?_|refine qag ?_ _));exact BK115.out) hb);have n1_ := Aside0.mk (qap (g := gb116) (o := .cells #[.int .i64 x117000_5,.string x5_5,.string (⟨#[]⟩ : ByteArray)] 106 (0,0)) (by (with_reducible repeat (first|refine qah ?_ _|refine qai ?_|refine qag ?_ _));refine blk_put (cs := #[.int .i64 x117000_5,.string (⟨#[]⟩ : ByteArray),.string (⟨#[]⟩ : ByteArray)]) ?_ 1 _ rfl;(with_reducible repeat (first|refine qah ?_ _|refine qai ?_|refine qag ?_ _));exact BK116.out) hb);have n2_ := Aside0.mk (qan (by repeat (first|(with_reducible first|exact HB.out|apply qab|apply qaa|apply qac|refine qaf ?_ GE115.out|refine qaf ?_ GE116.out)|exact HB.out)) hb);clear BK115;clear BK116;clear HB;have BK115 := n0_;have BK116 := n1_;have HB := n2_;clear n0_ n1_ n2_;(try clear hb);(try clear hb2);(try clear hk);(try clear hi);have hcz70_0 : w69.cell? ⟨gb116,0,none⟩ = some (.int .i64 x117000_5) := (qae BK116.out 0).trans rfl;have hcz70_1 : w69.cell? ⟨gb116,1,none⟩ = some (.string x5_5) := (qae BK116.out 1).trans rfl;have hcz70_2 : w69.cell? ⟨gb116,2,none⟩ = some (.string (⟨#[]⟩ : ByteArray)) := (qae BK116.out 2).trans rfl;have hfz70_0 := qad BK116.out 0;have hfz70_1 := qad BK116.out 1;have hfz70_2 := qad BK116.out 2;have hcz71_0 : w69.cell? ⟨gb115,0,none⟩ = some (.int .i64 x116000_5) := (qae BK115.out 0).trans rfl;have hcz71_1 : w69.cell? ⟨gb115,1,none⟩ = some (.string x116001_5) := (qae BK115.out 1).trans rfl;have hcz71_2 : w69.cell? ⟨gb115,2,none⟩ = some (.string x116002_5) := (qae BK115.out 2).trans rfl;have hfz71_0 := qad BK115.out 0;have hfz71_1 := qad BK115.out 1;have hfz71_2 := qad BK115.out 2))
      refine bodyPost_ret (results_ct rfl _ _ gb115 106 #[.int .i64 x117000_5,.string x5_5,.string (⟨#[]⟩ : ByteArray)] (0,0) _ rfl (by (with_reducible repeat (first|refine qah ?_ _|refine qai ?_|refine qag ?_ _));refine blk_put (cs := #[.int .i64 x117000_5,.string x5_5,.string x116002_5]) ?_ 2 _ rfl;(with_reducible repeat (first|refine qah ?_ _|refine qai ?_|refine qag ?_ _));refine blk_put (cs := #[.int .i64 x117000_5,.string x116001_5,.string x116002_5]) ?_ 1 _ rfl;(with_reducible repeat (first|refine qah ?_ _|refine qai ?_|refine qag ?_ _));refine blk_put (cs := #[.int .i64 x116000_5,.string x116001_5,.string x116002_5]) ?_ 0 _ rfl;(with_reducible repeat (first|refine qah ?_ _|refine qai ?_|refine qag ?_ _));exact BK115.out) Tryz.underlying106 rfl (by kernel_rfl)) rfl ?_
      exact ⟨by first|rfl|(simp [qaj,qak]<;>rfl)|(simp [*,qaj,qak]<;>rfl),by repeat (first|(with_reducible first|exact HB.out|apply qab|apply qaa|apply qac|refine qaf ?_ GE115.out|refine qaf ?_ GE116.out)|exact HB.out)⟩
     ·replace c66 := Bool.eq_false_iff.mpr c66
      subst c66
      have H1 : (some (0,(⟨#[]⟩ : ByteArray),(⟨#[]⟩ : ByteArray),4)) = some (r1,r2,r3,r4) := by rw [if_neg (show ¬ (false = true) by decide)] at H;exact H
      clear H
      have H := H1
      clear H1
      simp only [Option.some.injEq,Prod.mk.injEq] at H
      obtain ⟨rfl,rfl,rfl,rfl⟩ := H
      have hnb72 := NB116_115.out
      have hnc72 := NB115_116.out
      have hcz73_0 : wc.cell? ⟨gb116,0,none⟩ = some (.int .i64 x117000_5) := (qae BK116.out 0).trans rfl
      have hcz73_1 : wc.cell? ⟨gb116,1,none⟩ = some (.string (⟨#[]⟩ : ByteArray)) := (qae BK116.out 1).trans rfl
      have hcz73_2 : wc.cell? ⟨gb116,2,none⟩ = some (.string (⟨#[]⟩ : ByteArray)) := (qae BK116.out 2).trans rfl
      have hfz73_0 := qad BK116.out 0
      have hfz73_1 := qad BK116.out 1
      have hfz73_2 := qad BK116.out 2
      go_wp2_with (first|((with_reducible refine qal (f := 126) rfl ?_);refine goesL_ (some 48) rfl rfl Tryz.func126 (by kernel_rfl) rfl #[.string x5_5,.int .u8 45] rfl (by first|rfl|(simp only [List.map_toArray,List.map_cons,List.map_nil,List.length_drop,List.length_take];rfl)|simp only [List.map_toArray,List.map_cons,List.map_nil]) ?_;(with_reducible refine (strings_LastIndexByte.calls x5_5 45 t124 _ (by first|exact hG|exact GL.below hG (by repeat (first|(with_reducible first|exact HB.out|apply qab|apply qaa|apply qac|refine qaf ?_ GE115.out|refine qaf ?_ GE116.out)|exact HB.out)))  A28.out).mono ?_);rintro e w' ⟨rfl,⟨nd,rfl⟩⟩;refine ⟨_,rfl,?_⟩)|((with_reducible refine qal (f := 127) rfl ?_);refine goesL_ (some 65) rfl rfl Tryz.func127 (by kernel_rfl) rfl #[.agg #[.int .i64 x117000_5,.string x5_5,.string (⟨#[]⟩ : ByteArray)]] rfl (by first|rfl|(simp only [List.map_toArray,List.map_cons,List.map_nil,List.length_drop,List.length_take];rfl)|simp only [List.map_toArray,List.map_cons,List.map_nil]) ?_;(with_reducible refine (version_Right.calls kj5 x117000_5 x5_5 (⟨#[]⟩ : ByteArray) false _ (by first|exact hG|exact GL.below hG (by repeat (first|(with_reducible first|exact HB.out|apply qab|apply qaa|apply qac|refine qaf ?_ GE115.out|refine qaf ?_ GE116.out)|exact HB.out)))  A65.out).mono ?_);rintro e w74 ⟨rfl,hb⟩;refine ⟨_,rfl,?_⟩;have n0_ := Aside0.mk (qap (g := gb115) (o := .cells #[.int .i64 x116000_5,.string x116001_5,.string x116002_5] 106 (0,0)) (by (with_reducible repeat (first|refine qah ?_ _|refine qai ?_|refine qag ?_ _));refine blk_far ?_ NB115_116.out _;(with_reducible repeat (first|refine qah ?_ _|refine qai ?_|refine qag ?_ _));exact BK115.out) hb);have n1_ := Aside0.mk (qap (g := gb116) (o := .cells #[.int .i64 x117000_5,.string x5_5,.string (⟨#[]⟩ : ByteArray)] 106 (0,0)) (by (with_reducible repeat (first|refine qah ?_ _|refine qai ?_|refine qag ?_ _));refine blk_put (cs := #[.int .i64 x117000_5,.string (⟨#[]⟩ : ByteArray),.string (⟨#[]⟩ : ByteArray)]) ?_ 1 _ rfl;(with_reducible repeat (first|refine qah ?_ _|refine qai ?_|refine qag ?_ _));exact BK116.out) hb);have n2_ := Aside0.mk (qan (by repeat (first|(with_reducible first|exact HB.out|apply qab|apply qaa|apply qac|refine qaf ?_ GE115.out|refine qaf ?_ GE116.out)|exact HB.out)) hb);clear BK115;clear BK116;clear HB;have BK115 := n0_;have BK116 := n1_;have HB := n2_;clear n0_ n1_ n2_;(try clear hb);(try clear hb2);(try clear hk);(try clear hi);have hcz75_0 : w74.cell? ⟨gb115,0,none⟩ = some (.int .i64 x116000_5) := (qae BK115.out 0).trans rfl;have hcz75_1 : w74.cell? ⟨gb115,1,none⟩ = some (.string x116001_5) := (qae BK115.out 1).trans rfl;have hcz75_2 : w74.cell? ⟨gb115,2,none⟩ = some (.string x116002_5) := (qae BK115.out 2).trans rfl;have hfz75_0 := qad BK115.out 0;have hfz75_1 := qad BK115.out 1;have hfz75_2 := qad BK115.out 2))
      refine bodyPost_ret (results_ct rfl _ _ gb115 106 #[.int .i64 0,.string (⟨#[]⟩ : ByteArray),.string (⟨#[]⟩ : ByteArray)] (0,0) _ rfl (by (with_reducible repeat (first|refine qah ?_ _|refine qai ?_|refine qag ?_ _));refine blk_put (cs := #[.int .i64 0,.string (⟨#[]⟩ : ByteArray),.string x116002_5]) ?_ 2 _ rfl;(with_reducible repeat (first|refine qah ?_ _|refine qai ?_|refine qag ?_ _));refine blk_put (cs := #[.int .i64 0,.string x116001_5,.string x116002_5]) ?_ 1 _ rfl;(with_reducible repeat (first|refine qah ?_ _|refine qai ?_|refine qag ?_ _));refine blk_put (cs := #[.int .i64 x116000_5,.string x116001_5,.string x116002_5]) ?_ 0 _ rfl;(with_reducible repeat (first|refine qah ?_ _|refine qai ?_|refine qag ?_ _));exact BK115.out) Tryz.underlying106 rfl (by kernel_rfl)) rfl ?_
      exact ⟨by first|rfl|(simp [qaj,qak]<;>rfl)|(simp [*,qaj,qak]<;>rfl),by repeat (first|(with_reducible first|exact HB.out|apply qab|apply qaa|apply qac|refine qaf ?_ GE115.out|refine qaf ?_ GE116.out)|exact HB.out)⟩
def version_Print.f (k : Nat) (a0_0 : Int) (a0_1 : ByteArray) (a0_2 : ByteArray) : Option (ByteArray) := (version_Right.f k a0_0 a0_1 a0_2).bind fun t128 => (if t128 = true then ((version_text.f a0_0 a0_1 a0_2).bind fun t129 => (some t129)) else (some (⟨#[]⟩ : ByteArray)))
theorem version_Print.mono : ∀ a0 a1 a2 k,LeO (version_Print.f k a0 a1 a2) (version_Print.f (k + 1) a0 a1 a2) := by
 intro a0 a1 a2 k
 unfold version_Print.f
 repeat' first
   | (with_reducible exact version_Right.mono _ _ _ _)
   | (with_reducible exact LeO.refl _)
   | (with_reducible exact LeO.none _)
   | (with_reducible refine LeO.ite ?_ ?_)
   | (with_reducible refine LeO.bind ?_ (fun _ => ?_))
theorem version_Print.calls (k : Nat) (a0_0 : Int) (a0_1 : ByteArray) (a0_2 : ByteArray) (r : ByteArray) (w : World) (hG : GL w) (h : version_Print.f k a0_0 a0_1 a0_2 = some r) :
  Calls Tryz.prog 108 #[.agg #[.int .i64 a0_0,.string a0_1,.string a0_2]] w fun e w' => e = .returned (.string r) ∧ Below w.heap.size w w' := by
 have hu106 := Tryz.underlying106
 have HB := Aside0.mk (Below.refl w.heap.size w)
 have H : ((version_Right.f k a0_0 a0_1 a0_2).bind fun t128 => (if t128 = true then ((version_text.f a0_0 a0_1 a0_2).bind fun t129 => (some t129)) else (some (⟨#[]⟩ : ByteArray)))) = some r := h
 clear h
 replace H := Option.bind_eq_some_iff.mp H
 obtain ⟨t128,A20,H⟩ := H
 replace H : (if t128 = true then ((version_text.f a0_0 a0_1 a0_2).bind fun t129 => (some t129)) else (some (⟨#[]⟩ : ByteArray))) = some r := H
 have A2 := Aside0.mk A20
 clear A20
 by_cases c3 : t128 = true
 ·subst c3
  have H1 : ((version_text.f a0_0 a0_1 a0_2).bind fun t129 => (some t129)) = some r := by rw [if_pos rfl] at H;exact H
  clear H
  have H := H1
  clear H1
  replace H := Option.bind_eq_some_iff.mp H
  obtain ⟨t129,A40,H⟩ := H
  replace H : (some t129) = some r := H
  have A4 := Aside0.mk A40
  clear A40
  obtain rfl := Option.some.inj H
  go_enter Tryz.func108,Tryz.ntmps108
  go_wp2_with (first|((with_reducible refine gate_dst (N := 1) rfl ?_);refine box_event ?hg (N := 1) ?hd (cs := #[.int .i64 a0_0,.string a0_1,.string a0_2]) (t := 106) ?hr ?_;(case hd => rfl);(case hg => rfl);(case hr => first|(go_simp;done)|(go_simp;rfl));intro gb127 hg w5 hbox hb;have n0_ := Aside0.mk (qan (by repeat (with_reducible first|exact HB.out|apply qab|apply qaa|apply qac)) hb);have n1_ := Aside0.mk (hbox);have n2_ := Aside0.mk ((by rw [hg];exact (qao (by repeat (with_reducible first|exact HB.out|apply qab|apply qaa|apply qac))) : w.heap.size ≤ gb127));have n3_ := Aside0.mk ((by rw [hg];exact (qao (by repeat (with_reducible first|exact HB.out|apply qab|apply qaa|apply qac))) : w.heap.size ≤ gb127));clear HB;have HB := n0_;have BK127 := n1_;have GW127 := n2_;have GE127 := n3_;clear n0_ n1_ n2_ n3_;clear hb hbox hg;have hcz6_0 : w5.cell? ⟨gb127,0,none⟩ = some (.int .i64 a0_0) := (qae BK127.out 0).trans rfl;have hcz6_1 : w5.cell? ⟨gb127,1,none⟩ = some (.string a0_1) := (qae BK127.out 1).trans rfl;have hcz6_2 : w5.cell? ⟨gb127,2,none⟩ = some (.string a0_2) := (qae BK127.out 2).trans rfl;have hfz6_0 := qad BK127.out 0;have hfz6_1 := qad BK127.out 1;have hfz6_2 := qad BK127.out 2)|((with_reducible refine qal (f := 127) rfl ?_);refine goesL_ (some 4) rfl rfl Tryz.func127 (by kernel_rfl) rfl #[.agg #[.int .i64 a0_0,.string a0_1,.string a0_2]] rfl (by first|rfl|(simp only [List.map_toArray,List.map_cons,List.map_nil,List.length_drop,List.length_take];rfl)|simp only [List.map_toArray,List.map_cons,List.map_nil]) ?_;(with_reducible refine (version_Right.calls k a0_0 a0_1 a0_2 true _ (by first|exact hG|exact GL.below hG (by repeat (first|(with_reducible first|exact HB.out|apply qab|apply qaa|apply qac|refine qaf ?_ GE127.out)|exact HB.out)))  A2.out).mono ?_);rintro e w7 ⟨rfl,hb⟩;refine ⟨_,rfl,?_⟩;have n0_ := Aside0.mk (qap (g := gb127) (o := .cells #[.int .i64 a0_0,.string a0_1,.string a0_2] 106 (0,0)) (by (with_reducible repeat (first|refine qah ?_ _|refine qai ?_|refine qag ?_ _));exact BK127.out) hb);have n1_ := Aside0.mk (qan (by repeat (first|(with_reducible first|exact HB.out|apply qab|apply qaa|apply qac|refine qaf ?_ GE127.out)|exact HB.out)) hb);clear BK127;clear HB;have BK127 := n0_;have HB := n1_;clear n0_ n1_;(try clear hb);(try clear hb2);(try clear hk);(try clear hi);have hcz8_0 : w7.cell? ⟨gb127,0,none⟩ = some (.int .i64 a0_0) := (qae BK127.out 0).trans rfl;have hcz8_1 : w7.cell? ⟨gb127,1,none⟩ = some (.string a0_1) := (qae BK127.out 1).trans rfl;have hcz8_2 : w7.cell? ⟨gb127,2,none⟩ = some (.string a0_2) := (qae BK127.out 2).trans rfl;have hfz8_0 := qad BK127.out 0;have hfz8_1 := qad BK127.out 1;have hfz8_2 := qad BK127.out 2)|((with_reducible refine qal (f := 142) rfl ?_);refine goesL_ (some 7) rfl rfl Tryz.func142 (by kernel_rfl) rfl #[.agg #[.int .i64 a0_0,.string a0_1,.string a0_2]] rfl (by first|rfl|(simp only [List.map_toArray,List.map_cons,List.map_nil,List.length_drop,List.length_take];rfl)|simp only [List.map_toArray,List.map_cons,List.map_nil]) ?_;(with_reducible refine (version_text.calls a0_0 a0_1 a0_2 t129 _ (by first|exact hG|exact GL.below hG (by repeat (first|(with_reducible first|exact HB.out|apply qab|apply qaa|apply qac|refine qaf ?_ GE127.out)|exact HB.out)))  A4.out).mono ?_);rintro e w9 ⟨rfl,hb⟩;refine ⟨_,rfl,?_⟩;have n0_ := Aside0.mk (qap (g := gb127) (o := .cells #[.int .i64 a0_0,.string a0_1,.string a0_2] 106 (0,0)) (by (with_reducible repeat (first|refine qah ?_ _|refine qai ?_|refine qag ?_ _));exact BK127.out) hb);have n1_ := Aside0.mk (qan (by repeat (first|(with_reducible first|exact HB.out|apply qab|apply qaa|apply qac|refine qaf ?_ GE127.out)|exact HB.out)) hb);clear BK127;clear HB;have BK127 := n0_;have HB := n1_;clear n0_ n1_;(try clear hb);(try clear hb2);(try clear hk);(try clear hi)))
  go_ret
  exact ⟨by first|rfl|(simp [qaj,qak]<;>rfl)|(simp [*,qaj,qak]<;>rfl),by repeat (first|(with_reducible first|exact HB.out|apply qab|apply qaa|apply qac|refine qaf ?_ GE127.out)|exact HB.out)⟩
 ·replace c3 := Bool.eq_false_iff.mpr c3
  subst c3
  have H1 : (some (⟨#[]⟩ : ByteArray)) = some r := by rw [if_neg (show ¬ (false = true) by decide)] at H;exact H
  clear H
  have H := H1
  clear H1
  obtain rfl := Option.some.inj H
  go_enter Tryz.func108,Tryz.ntmps108
  go_wp2_with (first|((with_reducible refine gate_dst (N := 1) rfl ?_);refine box_event ?hg (N := 1) ?hd (cs := #[.int .i64 a0_0,.string a0_1,.string a0_2]) (t := 106) ?hr ?_;(case hd => rfl);(case hg => rfl);(case hr => first|(go_simp;done)|(go_simp;rfl));intro gb127 hg w10 hbox hb;have n0_ := Aside0.mk (qan (by repeat (with_reducible first|exact HB.out|apply qab|apply qaa|apply qac)) hb);have n1_ := Aside0.mk (hbox);have n2_ := Aside0.mk ((by rw [hg];exact (qao (by repeat (with_reducible first|exact HB.out|apply qab|apply qaa|apply qac))) : w.heap.size ≤ gb127));have n3_ := Aside0.mk ((by rw [hg];exact (qao (by repeat (with_reducible first|exact HB.out|apply qab|apply qaa|apply qac))) : w.heap.size ≤ gb127));clear HB;have HB := n0_;have BK127 := n1_;have GW127 := n2_;have GE127 := n3_;clear n0_ n1_ n2_ n3_;clear hb hbox hg;have hcz11_0 : w10.cell? ⟨gb127,0,none⟩ = some (.int .i64 a0_0) := (qae BK127.out 0).trans rfl;have hcz11_1 : w10.cell? ⟨gb127,1,none⟩ = some (.string a0_1) := (qae BK127.out 1).trans rfl;have hcz11_2 : w10.cell? ⟨gb127,2,none⟩ = some (.string a0_2) := (qae BK127.out 2).trans rfl;have hfz11_0 := qad BK127.out 0;have hfz11_1 := qad BK127.out 1;have hfz11_2 := qad BK127.out 2)|((with_reducible refine qal (f := 127) rfl ?_);refine goesL_ (some 4) rfl rfl Tryz.func127 (by kernel_rfl) rfl #[.agg #[.int .i64 a0_0,.string a0_1,.string a0_2]] rfl (by first|rfl|(simp only [List.map_toArray,List.map_cons,List.map_nil,List.length_drop,List.length_take];rfl)|simp only [List.map_toArray,List.map_cons,List.map_nil]) ?_;(with_reducible refine (version_Right.calls k a0_0 a0_1 a0_2 false _ (by first|exact hG|exact GL.below hG (by repeat (first|(with_reducible first|exact HB.out|apply qab|apply qaa|apply qac|refine qaf ?_ GE127.out)|exact HB.out)))  A2.out).mono ?_);rintro e w12 ⟨rfl,hb⟩;refine ⟨_,rfl,?_⟩;have n0_ := Aside0.mk (qap (g := gb127) (o := .cells #[.int .i64 a0_0,.string a0_1,.string a0_2] 106 (0,0)) (by (with_reducible repeat (first|refine qah ?_ _|refine qai ?_|refine qag ?_ _));exact BK127.out) hb);have n1_ := Aside0.mk (qan (by repeat (first|(with_reducible first|exact HB.out|apply qab|apply qaa|apply qac|refine qaf ?_ GE127.out)|exact HB.out)) hb);clear BK127;clear HB;have BK127 := n0_;have HB := n1_;clear n0_ n1_;(try clear hb);(try clear hb2);(try clear hk);(try clear hi)))
  go_ret
  exact ⟨by first|rfl|(simp [qaj,qak]<;>rfl)|(simp [*,qaj,qak]<;>rfl),by repeat (first|(with_reducible first|exact HB.out|apply qab|apply qaa|apply qac|refine qaf ?_ GE127.out)|exact HB.out)⟩
def entry_plain.f (k : Nat) (a0 : ByteArray) : Option (Bool) := (version_Parse.f k a0).bind fun bt130 => (if bt130.2.2.2 = 0 then ((version_Print.f k bt130.1 bt130.2.1 bt130.2.2.1).bind fun t135 => (some (t135.toList == a0.toList))) else (some false))
theorem entry_plain.mono : ∀ a0 k,LeO (entry_plain.f k a0) (entry_plain.f (k + 1) a0) := by
 intro a0 k
 unfold entry_plain.f
 repeat' first
   | (with_reducible exact version_Parse.mono _ _)
   | (with_reducible exact version_Print.mono _ _ _ _)
   | (with_reducible exact LeO.refl _)
   | (with_reducible exact LeO.none _)
   | (with_reducible refine LeO.ite ?_ ?_)
   | (with_reducible refine LeO.bind ?_ (fun _ => ?_))
theorem entry_plain.calls (k : Nat) (a0 : ByteArray) (r : Bool) (w : World) (hG : GL w) (h : entry_plain.f k a0 = some r) :
  Calls Tryz.prog 77 #[.string a0] w fun e w' => e = .returned (.bool r) ∧ Below w.heap.size w w' := by
 have hu106 := Tryz.underlying106
 have HB := Aside0.mk (Below.refl w.heap.size w)
 have H : ((version_Parse.f k a0).bind fun bt130 => (if bt130.2.2.2 = 0 then ((version_Print.f k bt130.1 bt130.2.1 bt130.2.2.1).bind fun t135 => (some (t135.toList == a0.toList))) else (some false))) = some r := h
 clear h
 replace H := Option.bind_eq_some_iff.mp H
 obtain ⟨⟨t130,t131,t132,t133⟩,A20,H⟩ := H
 replace H : (if t133 = 0 then ((version_Print.f k t130 t131 t132).bind fun t135 => (some (t135.toList == a0.toList))) else (some false)) = some r := H
 have A2 := Aside0.mk A20
 clear A20
 by_cases c3 : t133 = 0
 ·rw [if_pos c3] at H
  have c3b0 : (t133 == 0) = true := beq_iff_eq.mpr c3
  have c3b1 : (t133 != 0) = false := bne_eq_false_iff_eq.mpr c3
  clear c3
  replace H := Option.bind_eq_some_iff.mp H
  obtain ⟨t135,A40,H⟩ := H
  replace H : (some (t135.toList == a0.toList)) = some r := H
  have A4 := Aside0.mk A40
  clear A40
  obtain rfl := Option.some.inj H
  go_enter Tryz.func77,Tryz.ntmps77
  go_wp2_with (first|((with_reducible refine qal (f := 89) rfl ?_);refine goesL_ (some 7) rfl rfl Tryz.func89 (by kernel_rfl) rfl #[.string a0] rfl (by first|rfl|(simp only [List.map_toArray,List.map_cons,List.map_nil,List.length_drop,List.length_take];rfl)|simp only [List.map_toArray,List.map_cons,List.map_nil]) ?_;(with_reducible refine (version_Parse.calls k a0 t130 t131 t132 t133 _ (by first|exact hG|exact GL.below hG (by repeat (with_reducible first|exact HB.out|apply qab|apply qaa|apply qac)))  A2.out).mono ?_);rintro e w5 ⟨rfl,hb⟩;refine ⟨_,rfl,?_⟩;have n0_ := Aside0.mk (qan (by repeat (with_reducible first|exact HB.out|apply qab|apply qaa|apply qac)) hb);clear HB;have HB := n0_;clear n0_;(try clear hb);(try clear hb2);(try clear hk);(try clear hi))|((with_reducible refine gate_dst (N := 3) rfl ?_);refine box_event ?hg (N := 3) ?hd (cs := #[.int .i64 0,.string (⟨#[]⟩ : ByteArray),.string (⟨#[]⟩ : ByteArray)]) (t := 106) ?hr ?_;(case hd => rfl);(case hg => rfl);(case hr => first|(go_simp;done)|(go_simp;rfl));intro gb134 hg w6 hbox hb;have n0_ := Aside0.mk (qan (by repeat (with_reducible first|exact HB.out|apply qab|apply qaa|apply qac)) hb);have n1_ := Aside0.mk (hbox);have n2_ := Aside0.mk ((by rw [hg];exact (qao (by repeat (with_reducible first|exact HB.out|apply qab|apply qaa|apply qac))) : w.heap.size ≤ gb134));have n3_ := Aside0.mk ((by rw [hg];exact (qao (by repeat (with_reducible first|exact HB.out|apply qab|apply qaa|apply qac))) : w.heap.size ≤ gb134));clear HB;have HB := n0_;have BK134 := n1_;have GW134 := n2_;have GE134 := n3_;clear n0_ n1_ n2_ n3_;clear hb hbox hg;have hcz7_0 : w6.cell? ⟨gb134,0,none⟩ = some (.int .i64 0) := (qae BK134.out 0).trans rfl;have hcz7_1 : w6.cell? ⟨gb134,1,none⟩ = some (.string (⟨#[]⟩ : ByteArray)) := (qae BK134.out 1).trans rfl;have hcz7_2 : w6.cell? ⟨gb134,2,none⟩ = some (.string (⟨#[]⟩ : ByteArray)) := (qae BK134.out 2).trans rfl;have hfz7_0 := qad BK134.out 0;have hfz7_1 := qad BK134.out 1;have hfz7_2 := qad BK134.out 2)|(go_at_call 108;(with_reducible refine (version_Print.calls k t130 t131 t132 t135 _ (by first|exact hG|exact GL.below hG (by repeat (first|(with_reducible first|exact HB.out|apply qab|apply qaa|apply qac|refine qaf ?_ GE134.out)|exact HB.out)))  A4.out).mono ?_);rintro e w8 ⟨rfl,hb⟩;have n0_ := Aside0.mk (qap (g := gb134) (o := .cells #[.int .i64 t130,.string t131,.string t132] 106 (0,0)) (by (with_reducible repeat (first|refine qah ?_ _|refine qai ?_|refine qag ?_ _));refine blk_put (cs := #[.int .i64 t130,.string t131,.string (⟨#[]⟩ : ByteArray)]) ?_ 2 _ rfl;(with_reducible repeat (first|refine qah ?_ _|refine qai ?_|refine qag ?_ _));refine blk_put (cs := #[.int .i64 t130,.string (⟨#[]⟩ : ByteArray),.string (⟨#[]⟩ : ByteArray)]) ?_ 1 _ rfl;(with_reducible repeat (first|refine qah ?_ _|refine qai ?_|refine qag ?_ _));refine blk_put (cs := #[.int .i64 0,.string (⟨#[]⟩ : ByteArray),.string (⟨#[]⟩ : ByteArray)]) ?_ 0 _ rfl;(with_reducible repeat (first|refine qah ?_ _|refine qai ?_|refine qag ?_ _));exact BK134.out) hb);have n1_ := Aside0.mk (qan (by repeat (first|(with_reducible first|exact HB.out|apply qab|apply qaa|apply qac|refine qaf ?_ GE134.out)|exact HB.out)) hb);clear BK134;clear HB;have BK134 := n0_;have HB := n1_;clear n0_ n1_;(try clear hb);(try clear hb2);(try clear hk);(try clear hi)))
  go_ret
  exact ⟨by first|rfl|(simp [qaj,qak]<;>rfl)|(simp [*,qaj,qak]<;>rfl),by repeat (first|(with_reducible first|exact HB.out|apply qab|apply qaa|apply qac|refine qaf ?_ GE134.out)|exact HB.out)⟩
 ·rw [if_neg c3] at H
  have c3b0 : (t133 == 0) = false := beq_eq_false_iff_ne.mpr c3
  have c3b1 : (t133 != 0) = true := bne_iff_ne.mpr c3
  obtain rfl := Option.some.inj H
  go_enter Tryz.func77,Tryz.ntmps77
  go_wp2_with (first|((with_reducible refine qal (f := 89) rfl ?_);refine goesL_ (some 7) rfl rfl Tryz.func89 (by kernel_rfl) rfl #[.string a0] rfl (by first|rfl|(simp only [List.map_toArray,List.map_cons,List.map_nil,List.length_drop,List.length_take];rfl)|simp only [List.map_toArray,List.map_cons,List.map_nil]) ?_;(with_reducible refine (version_Parse.calls k a0 t130 t131 t132 t133 _ (by first|exact hG|exact GL.below hG (by repeat (with_reducible first|exact HB.out|apply qab|apply qaa|apply qac)))  A2.out).mono ?_);rintro e w9 ⟨rfl,hb⟩;refine ⟨_,rfl,?_⟩;have n0_ := Aside0.mk (qan (by repeat (with_reducible first|exact HB.out|apply qab|apply qaa|apply qac)) hb);clear HB;have HB := n0_;clear n0_;(try clear hb);(try clear hb2);(try clear hk);(try clear hi))|((with_reducible refine gate_dst (N := 3) rfl ?_);refine box_event ?hg (N := 3) ?hd (cs := #[.int .i64 0,.string (⟨#[]⟩ : ByteArray),.string (⟨#[]⟩ : ByteArray)]) (t := 106) ?hr ?_;(case hd => rfl);(case hg => rfl);(case hr => first|(go_simp;done)|(go_simp;rfl));intro gb134 hg w10 hbox hb;have n0_ := Aside0.mk (qan (by repeat (with_reducible first|exact HB.out|apply qab|apply qaa|apply qac)) hb);have n1_ := Aside0.mk (hbox);have n2_ := Aside0.mk ((by rw [hg];exact (qao (by repeat (with_reducible first|exact HB.out|apply qab|apply qaa|apply qac))) : w.heap.size ≤ gb134));have n3_ := Aside0.mk ((by rw [hg];exact (qao (by repeat (with_reducible first|exact HB.out|apply qab|apply qaa|apply qac))) : w.heap.size ≤ gb134));clear HB;have HB := n0_;have BK134 := n1_;have GW134 := n2_;have GE134 := n3_;clear n0_ n1_ n2_ n3_;clear hb hbox hg;have hcz11_0 : w10.cell? ⟨gb134,0,none⟩ = some (.int .i64 0) := (qae BK134.out 0).trans rfl;have hcz11_1 : w10.cell? ⟨gb134,1,none⟩ = some (.string (⟨#[]⟩ : ByteArray)) := (qae BK134.out 1).trans rfl;have hcz11_2 : w10.cell? ⟨gb134,2,none⟩ = some (.string (⟨#[]⟩ : ByteArray)) := (qae BK134.out 2).trans rfl;have hfz11_0 := qad BK134.out 0;have hfz11_1 := qad BK134.out 1;have hfz11_2 := qad BK134.out 2))
  go_ret
  exact ⟨by first|rfl|(simp [qaj,qak]<;>rfl)|(simp [*,qaj,qak]<;>rfl),by repeat (first|(with_reducible first|exact HB.out|apply qab|apply qaa|apply qac|refine qaf ?_ GE134.out)|exact HB.out)⟩
end Go.Proofs.YtiidmjmkgjfaeaaGreatDoor.PA
