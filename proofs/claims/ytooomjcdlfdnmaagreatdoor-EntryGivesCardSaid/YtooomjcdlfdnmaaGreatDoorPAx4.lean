
import Derived.Test.YtooomjcdlfdnmaaGreatDoorPAx0
import Derived.Test.YtooomjcdlfdnmaaGreatDoorPAx3
namespace Go.Proofs.YtooomjcdlfdnmaaGreatDoor.PA
open Go.RowKit Go.Proofs.YtooomjcdlfdnmaaGreatDoorW.PrintWords Go.Proofs.YtooomjcdlfdnmaaGreatDoorW.PrintLast Go.Proofs.YtooomjcdlfdnmaaGreatDoorW.PrintMore
attribute [local go_sem] max2_int min2_int max_two min_two max_three min_three max_four min_four
set_option maxHeartbeats 8000000
set_option maxRecDepth 100000
set_option linter.unusedVariables false
set_option linter.unusedSimpArgs false
def version_Parse.j0 : Nat → ByteArray → Int → ByteArray → ByteArray → Option (Int × ByteArray × ByteArray × Int)
 | 0,_,_,_,_ => none
 | k + 1,x5,x121000,x121001,x121002 => (strings_LastIndexByte.f x5 45).bind fun t128 => (if t128 ≥ 0 then (if 0 ≤ t128 then (if t128 ≤ (x5.size : Int) then (if 0 ≤ (wrap64 (t128 + 1)) then (if (wrap64 (t128 + 1)) ≤ (x5.size : Int) then (if (x5.extract ((wrap64 (t128 + 1)) : Int).toNat x5.size).toList = ([] : List UInt8) then (some (0,(⟨#[]⟩ : ByteArray),(⟨#[]⟩ : ByteArray),4)) else ((version_Right.f k x121000 (x5.extract 0 (t128 : Int).toNat) (x5.extract ((wrap64 (t128 + 1)) : Int).toNat x5.size)).bind fun t129 => (if t129 = true then (some (x121000,x5.extract 0 (t128 : Int).toNat,x5.extract ((wrap64 (t128 + 1)) : Int).toNat x5.size,0)) else (some (0,(⟨#[]⟩ : ByteArray),(⟨#[]⟩ : ByteArray),4))))) else (none)) else (none)) else (none)) else (none)) else ((version_Right.f k x121000 x5 x121002).bind fun t130 => (if t130 = true then (some (x121000,x5,x121002,0)) else (some (0,(⟨#[]⟩ : ByteArray),(⟨#[]⟩ : ByteArray),4)))))
def version_Parse.f (k : Nat) (a0 : ByteArray) : Option (Int × ByteArray × ByteArray × Int) := if (a0.size : Int) > 60 then (some (0,(⟨#[]⟩ : ByteArray),(⟨#[]⟩ : ByteArray),9)) else ((strings_Cut.f a0 (⟨#[58]⟩ : ByteArray)).bind fun bt121 => (if bt121.2.2 = true then ((strconv_Atoi.f bt121.1).bind fun bt124 => (if bt124.2.isNone = true then (if bt124.1 < 0 then (some (0,(⟨#[]⟩ : ByteArray),(⟨#[]⟩ : ByteArray),4)) else ((strconv_Itoa.f bt124.1).bind fun t127 => (if t127.toList = bt121.1.toList then (version_Parse.j0 k bt121.2.1 bt124.1 (⟨#[]⟩ : ByteArray) (⟨#[]⟩ : ByteArray)) else (some (0,(⟨#[]⟩ : ByteArray),(⟨#[]⟩ : ByteArray),4))))) else (some (0,(⟨#[]⟩ : ByteArray),(⟨#[]⟩ : ByteArray),4)))) else (version_Parse.j0 k a0 0 (⟨#[]⟩ : ByteArray) (⟨#[]⟩ : ByteArray))))
theorem version_Parse.mono_l : ∀ k,(∀ y0 y1 y2 y3,LeO (version_Parse.j0 k y0 y1 y2 y3) (version_Parse.j0 (k + 1) y0 y1 y2 y3))
 | 0 => fun _ _ _ _ r h => by simp [version_Parse.j0] at h
 | k + 1 => by
  have ih0 := version_Parse.mono_l k
  ·intro y0 y1 y2 y3
   unfold version_Parse.j0
   repeat' first
   | (with_reducible exact ih0 _ _ _ _)
   | (with_reducible exact version_Right.mono _ _ _ _)
   | (with_reducible exact LeO.refl _)
   | (with_reducible exact LeO.none _)
   | (with_reducible refine LeO.ite ?_ ?_)
   | (with_reducible refine LeO.bind ?_ (fun _ => ?_))
   | exact ih0 _ _ _ _
   | exact version_Right.mono _ _ _ _
   | exact LeO.none _
   | refine LeO.ite ?_ ?_
   | refine LeO.bind ?_ (fun _ => ?_)
theorem version_Parse.mono : ∀ a0 k,LeO (version_Parse.f k a0) (version_Parse.f (k + 1) a0) := by
 intro a0 k
 have ih0 := version_Parse.mono_l k
 unfold version_Parse.f
 repeat' first
   | (with_reducible exact ih0 _ _ _ _)
   | (with_reducible exact version_Right.mono _ _ _ _)
   | (with_reducible exact LeO.refl _)
   | (with_reducible exact LeO.none _)
   | (with_reducible refine LeO.ite ?_ ?_)
   | (with_reducible refine LeO.bind ?_ (fun _ => ?_))
   | exact ih0 _ _ _ _
   | exact version_Right.mono _ _ _ _
   | exact LeO.none _
   | refine LeO.ite ?_ ?_
   | refine LeO.bind ?_ (fun _ => ?_)
def version_Parse.T14 : Bool × List (List Nat × List Nat) := (true,[([],[]),([],[]),([0,1],[0,1]),([],[]),([],[]),([4],[4]),([3,5],[3,5]),([0,1,2],[]),([7,2,0,1,2],[2,7]),([0,1,2,3,4,5,6,7,8],[]),([9,6,8,0,1,2,3,4,5,6,7,8],[6,9])])
def version_Parse.B14 : List Nat := [0,0,3,0,0,16,56,7,135,511,1023]
theorem version_Parse.tab14 : rtab .any (opsOf Tryz.f115 14) = version_Parse.T14 := by kernel_rfl
theorem version_Parse.bits14 : waitsOk version_Parse.T14.2 version_Parse.B14 = true := by kernel_rfl
theorem version_Parse.calls (k : Nat) (a0 : ByteArray) (r1 : Int) (r2 : ByteArray) (r3 : ByteArray) (r4 : Int) (w : World) (hG : GL w) (h : version_Parse.f k a0 = some (r1,r2,r3,r4)) :
  Calls Tryz.prog 115 #[.string a0] w fun e w' => e = .returned (.tuple #[.agg #[.int .i64 r1,.string r2,.string r3],.int .i64 r4]) ∧ Below w.heap.size w w' := by
 have hu128 := Tryz.underlying128
 have hu177 := Tryz.underlying177
 have HB := Aside0.mk (Below.refl w.heap.size w)
 have H : (if (a0.size : Int) > 60 then (some (0,(⟨#[]⟩ : ByteArray),(⟨#[]⟩ : ByteArray),9)) else ((strings_Cut.f a0 (⟨#[58]⟩ : ByteArray)).bind fun bt121 => (if bt121.2.2 = true then ((strconv_Atoi.f bt121.1).bind fun bt124 => (if bt124.2.isNone = true then (if bt124.1 < 0 then (some (0,(⟨#[]⟩ : ByteArray),(⟨#[]⟩ : ByteArray),4)) else ((strconv_Itoa.f bt124.1).bind fun t127 => (if t127.toList = bt121.1.toList then (version_Parse.j0 k bt121.2.1 bt124.1 (⟨#[]⟩ : ByteArray) (⟨#[]⟩ : ByteArray)) else (some (0,(⟨#[]⟩ : ByteArray),(⟨#[]⟩ : ByteArray),4))))) else (some (0,(⟨#[]⟩ : ByteArray),(⟨#[]⟩ : ByteArray),4)))) else (version_Parse.j0 k a0 0 (⟨#[]⟩ : ByteArray) (⟨#[]⟩ : ByteArray))))) = some (r1,r2,r3,r4) := h
 clear h
 by_cases c2 : (a0.size : Int) > 60
 ·rw [if_pos c2] at H
  have c2b0 : decide (60 < (a0.size : Int)) = true := decide_eq_true c2
  have c2b1 : decide (60 < a0.size) = true := decide_eq_true (by omega)
  clear c2
  simp only [Option.some.injEq,Prod.mk.injEq] at H
  obtain ⟨rfl,rfl,rfl,rfl⟩ := H
  go_enter Tryz.func115,Tryz.ntmps115
  go_wp2_with (first|((with_reducible refine gate_dst (N := 2) rfl ?_);refine box_event ?hg (N := 2) ?hd (cs := #[.int .i64 0,.string (⟨#[]⟩ : ByteArray),.string (⟨#[]⟩ : ByteArray)]) (t := 128) ?hr ?_;(case hd => rfl);(case hg => rfl);(case hr => first|(go_simp;done)|(go_simp;rfl));intro gb119 hg w3 hbox hb;have n0_ := Aside0.mk (qan (by repeat (with_reducible first|exact HB.out|apply qab|apply qaa|apply qac)) hb);have n1_ := Aside0.mk (hbox);have n2_ := Aside0.mk ((by rw [hg];exact (qao (by repeat (with_reducible first|exact HB.out|apply qab|apply qaa|apply qac))) : w.heap.size ≤ gb119));have n3_ := Aside0.mk ((by rw [hg];exact (qao (by repeat (with_reducible first|exact HB.out|apply qab|apply qaa|apply qac))) : w.heap.size ≤ gb119));clear HB;have HB := n0_;have BK119 := n1_;have GW119 := n2_;have GE119 := n3_;clear n0_ n1_ n2_ n3_;clear hb hbox hg;have hcz4_0 : w3.cell? ⟨gb119,0,none⟩ = some (.int .i64 0) := (qae BK119.out 0).trans rfl;have hcz4_1 : w3.cell? ⟨gb119,1,none⟩ = some (.string (⟨#[]⟩ : ByteArray)) := (qae BK119.out 1).trans rfl;have hcz4_2 : w3.cell? ⟨gb119,2,none⟩ = some (.string (⟨#[]⟩ : ByteArray)) := (qae BK119.out 2).trans rfl;have hfz4_0 := qad BK119.out 0;have hfz4_1 := qad BK119.out 1;have hfz4_2 := qad BK119.out 2))
  refine bodyPost_ret (results_ct rfl _ _ gb119 128 #[.int .i64 0,.string (⟨#[]⟩ : ByteArray),.string (⟨#[]⟩ : ByteArray)] (0,0) _ rfl (by (with_reducible repeat (first|refine qah ?_ _|refine qai ?_|refine qag ?_ _));refine blk_put (cs := #[.int .i64 0,.string (⟨#[]⟩ : ByteArray),.string (⟨#[]⟩ : ByteArray)]) ?_ 2 _ rfl;(with_reducible repeat (first|refine qah ?_ _|refine qai ?_|refine qag ?_ _));refine blk_put (cs := #[.int .i64 0,.string (⟨#[]⟩ : ByteArray),.string (⟨#[]⟩ : ByteArray)]) ?_ 1 _ rfl;(with_reducible repeat (first|refine qah ?_ _|refine qai ?_|refine qag ?_ _));refine blk_put (cs := #[.int .i64 0,.string (⟨#[]⟩ : ByteArray),.string (⟨#[]⟩ : ByteArray)]) ?_ 0 _ rfl;(with_reducible repeat (first|refine qah ?_ _|refine qai ?_|refine qag ?_ _));exact BK119.out) Tryz.underlying128 rfl (by kernel_rfl)) rfl ?_
  exact ⟨by first|rfl|(simp [qaj,qak]<;>rfl)|(simp [*,qaj,qak]<;>rfl),by repeat (first|(with_reducible first|exact HB.out|apply qab|apply qaa|apply qac|refine qaf ?_ GE119.out)|exact HB.out)⟩
 ·rw [if_neg c2] at H
  have c2b0 : decide (60 < (a0.size : Int)) = false := decide_eq_false c2
  have c2b1 : decide (60 < a0.size) = false := decide_eq_false (by omega)
  clear c2
  replace H := Option.bind_eq_some_iff.mp H
  obtain ⟨⟨t121,t122,t123⟩,A50,H⟩ := H
  replace H : (if t123 = true then ((strconv_Atoi.f t121).bind fun bt124 => (if bt124.2.isNone = true then (if bt124.1 < 0 then (some (0,(⟨#[]⟩ : ByteArray),(⟨#[]⟩ : ByteArray),4)) else ((strconv_Itoa.f bt124.1).bind fun t127 => (if t127.toList = t121.toList then (version_Parse.j0 k t122 bt124.1 (⟨#[]⟩ : ByteArray) (⟨#[]⟩ : ByteArray)) else (some (0,(⟨#[]⟩ : ByteArray),(⟨#[]⟩ : ByteArray),4))))) else (some (0,(⟨#[]⟩ : ByteArray),(⟨#[]⟩ : ByteArray),4)))) else (version_Parse.j0 k a0 0 (⟨#[]⟩ : ByteArray) (⟨#[]⟩ : ByteArray))) = some (r1,r2,r3,r4) := H
  have A5 := Aside0.mk A50
  clear A50
  have HC6 := Aside0.mk H
  clear H
  go_enter Tryz.func115,Tryz.ntmps115
  go_upto_if 23 with (first|((with_reducible refine gate_dst (N := 2) rfl ?_);refine box_event ?hg (N := 2) ?hd (cs := #[.int .i64 0,.string (⟨#[]⟩ : ByteArray),.string (⟨#[]⟩ : ByteArray)]) (t := 128) ?hr ?_;(case hd => rfl);(case hg => rfl);(case hr => first|(go_simp;done)|(go_simp;rfl));intro gb119 hg w7 hbox hb;have n0_ := Aside0.mk (qan (by repeat (with_reducible first|exact HB.out|apply qab|apply qaa|apply qac)) hb);have n1_ := Aside0.mk (hbox);have n2_ := Aside0.mk ((by rw [hg];exact (qao (by repeat (with_reducible first|exact HB.out|apply qab|apply qaa|apply qac))) : w.heap.size ≤ gb119));have n3_ := Aside0.mk ((by rw [hg];exact (qao (by repeat (with_reducible first|exact HB.out|apply qab|apply qaa|apply qac))) : w.heap.size ≤ gb119));clear HB;have HB := n0_;have BK119 := n1_;have GW119 := n2_;have GE119 := n3_;clear n0_ n1_ n2_ n3_;clear hb hbox hg)|((with_reducible refine gate_dst (N := 4) rfl ?_);refine box_event ?hg (N := 4) ?hd (cs := #[.int .i64 0,.string (⟨#[]⟩ : ByteArray),.string (⟨#[]⟩ : ByteArray)]) (t := 128) ?hr ?_;(case hd => rfl);(case hg => rfl);(case hr => first|(go_simp;done)|(go_simp;rfl));intro gb120 hg w8 hbox hb;have n0_ := Aside0.mk (qaq (g := gb119) (o := .cells #[.int .i64 0,.string (⟨#[]⟩ : ByteArray),.string (⟨#[]⟩ : ByteArray)] 128 (0,0)) (by (with_reducible repeat (first|refine qah ?_ _|refine qai ?_|refine qag ?_ _));exact BK119.out) hb);have n1_ := Aside0.mk (qan (by repeat (first|(with_reducible first|exact HB.out|apply qab|apply qaa|apply qac|refine qaf ?_ GE119.out)|exact HB.out)) hb);have n2_ := Aside0.mk (hbox);have n3_ := Aside0.mk ((by rw [hg];exact (qao (by repeat (first|(with_reducible first|exact HB.out|apply qab|apply qaa|apply qac|refine qaf ?_ GE119.out)|exact HB.out))) : w.heap.size ≤ gb120));have n4_ := Aside0.mk ((by rw [hg];exact (qao (by repeat (first|(with_reducible first|exact HB.out|apply qab|apply qaa|apply qac|refine qaf ?_ GE119.out)|exact HB.out))) : w.heap.size ≤ gb120));have n5_ := Aside0.mk ((by rw [hg];exact Nat.ne_of_lt (blk_lt (g := gb119) (o := .cells #[.int .i64 0,.string (⟨#[]⟩ : ByteArray),.string (⟨#[]⟩ : ByteArray)] 128 (0,0)) (by (with_reducible repeat (first|refine qah ?_ _|refine qai ?_|refine qag ?_ _));exact BK119.out)) : gb119 ≠ gb120));have n6_ := Aside0.mk ((by rw [hg];exact Nat.ne_of_gt (blk_lt (g := gb119) (o := .cells #[.int .i64 0,.string (⟨#[]⟩ : ByteArray),.string (⟨#[]⟩ : ByteArray)] 128 (0,0)) (by (with_reducible repeat (first|refine qah ?_ _|refine qai ?_|refine qag ?_ _));exact BK119.out)) : gb120 ≠ gb119));clear BK119;clear HB;have BK119 := n0_;have HB := n1_;have BK120 := n2_;have GW120 := n3_;have GE120 := n4_;have NB119_120 := n5_;have NB120_119 := n6_;clear n0_ n1_ n2_ n3_ n4_ n5_ n6_;clear hb hbox hg)|((with_reducible refine qal (f := 169) rfl ?_);refine goesL_ (some 19) rfl rfl Tryz.func169 (by kernel_rfl) rfl #[.string a0,.string (⟨#[58]⟩ : ByteArray)] rfl (by first|rfl|(simp only [List.map_toArray,List.map_cons,List.map_nil,List.length_drop,List.length_take];rfl)|simp only [List.map_toArray,List.map_cons,List.map_nil]) ?_;(with_reducible refine (strings_Cut.calls a0 (⟨#[58]⟩ : ByteArray) t121 t122 t123 _ (by first|exact hG|exact GL.below hG (by repeat (first|(with_reducible first|exact HB.out|apply qab|apply qaa|apply qac|refine qaf ?_ GE119.out|refine qaf ?_ GE120.out)|exact HB.out)))  A5.out).mono ?_);rintro e w' ⟨rfl,⟨nd,rfl⟩⟩;refine ⟨_,rfl,?_⟩))
  (try simp only [Act.put,List.setIfInBounds_toArray,List.set_cons_zero,List.set_cons_succ])
  go_cut [5] (fun v5 wc => ∃ (kq : Nat) (x5_5 : ByteArray) (x120000_5 : Int) (x120001_5 : ByteArray) (x120002_5 : ByteArray) (x121000_5 : Int),v5 = .string x5_5 ∧ Aside0 (version_Parse.j0 kq x5_5 x121000_5 (⟨#[]⟩ : ByteArray) (⟨#[]⟩ : ByteArray) = some (r1,r2,r3,r4)) ∧ Aside0 (kq ≤ k) ∧ Aside0 (wc.heap[gb119]? = some (.cells #[.int .i64 x120000_5,.string x120001_5,.string x120002_5] 128 (0,0))) ∧ Aside0 (wc.heap[gb120]? = some (.cells #[.int .i64 x121000_5,.string (⟨#[]⟩ : ByteArray),.string (⟨#[]⟩ : ByteArray)] 128 (0,0))) ∧ Aside0 (Below w.heap.size w wc))
  case first =>
   have H := HC6.out
   clear HC6
   by_cases c9 : t123 = true
   ·subst c9
    have H1 : ((strconv_Atoi.f t121).bind fun bt124 => (if bt124.2.isNone = true then (if bt124.1 < 0 then (some (0,(⟨#[]⟩ : ByteArray),(⟨#[]⟩ : ByteArray),4)) else ((strconv_Itoa.f bt124.1).bind fun t127 => (if t127.toList = t121.toList then (version_Parse.j0 k t122 bt124.1 (⟨#[]⟩ : ByteArray) (⟨#[]⟩ : ByteArray)) else (some (0,(⟨#[]⟩ : ByteArray),(⟨#[]⟩ : ByteArray),4))))) else (some (0,(⟨#[]⟩ : ByteArray),(⟨#[]⟩ : ByteArray),4)))) = some (r1,r2,r3,r4) := by rw [if_pos rfl] at H;exact H
    clear H
    have H := H1
    clear H1
    replace H := Option.bind_eq_some_iff.mp H
    obtain ⟨⟨t124,t125⟩,A100,H⟩ := H
    replace H : (if t125.isNone = true then (if t124 < 0 then (some (0,(⟨#[]⟩ : ByteArray),(⟨#[]⟩ : ByteArray),4)) else ((strconv_Itoa.f t124).bind fun t127 => (if t127.toList = t121.toList then (version_Parse.j0 k t122 t124 (⟨#[]⟩ : ByteArray) (⟨#[]⟩ : ByteArray)) else (some (0,(⟨#[]⟩ : ByteArray),(⟨#[]⟩ : ByteArray),4))))) else (some (0,(⟨#[]⟩ : ByteArray),(⟨#[]⟩ : ByteArray),4))) = some (r1,r2,r3,r4) := H
    have A10 := Aside0.mk A100
    clear A100
    rcases t125 with _ | q126
    ·have H1 : (if t124 < 0 then (some (0,(⟨#[]⟩ : ByteArray),(⟨#[]⟩ : ByteArray),4)) else ((strconv_Itoa.f t124).bind fun t127 => (if t127.toList = t121.toList then (version_Parse.j0 k t122 t124 (⟨#[]⟩ : ByteArray) (⟨#[]⟩ : ByteArray)) else (some (0,(⟨#[]⟩ : ByteArray),(⟨#[]⟩ : ByteArray),4))))) = some (r1,r2,r3,r4) := by rw [if_pos (show (none : Option Int).isNone = true by rfl)] at H;exact H
     clear H
     have H := H1
     clear H1
     try simp only [qaj,qak]
     by_cases c11 : t124 < 0
     ·rw [if_pos c11] at H
      have c11b0 : decide (t124 < 0) = true := decide_eq_true c11
      clear c11
      (first|rw [c11b0]|(simp only [i64_w,i32_w];rw [c11b0]) | skip)
      simp only [Option.some.injEq,Prod.mk.injEq] at H
      obtain ⟨rfl,rfl,rfl,rfl⟩ := H
      go_wp2_with (first|((with_reducible refine qal (f := 170) rfl ?_);refine goesL_ (some 26) rfl rfl Tryz.func170 (by kernel_rfl) rfl #[.string t121] rfl (by first|rfl|(simp only [List.map_toArray,List.map_cons,List.map_nil,List.length_drop,List.length_take];rfl)|simp only [List.map_toArray,List.map_cons,List.map_nil]) ?_;(with_reducible refine (strconv_Atoi.calls t121 t124 none _ (by first|exact hG|exact GL.below hG (by repeat (first|(with_reducible first|exact HB.out|apply qab|apply qaa|apply qac|refine qaf ?_ GE119.out|refine qaf ?_ GE120.out)|exact HB.out)))  A10.out).mono ?_);rintro e w12 ⟨c_,rfl,hb⟩;refine ⟨_,rfl,?_⟩;(try simp only [Option.map_none,Option.map_some,errE_none,errE_some]);have n0_ := Aside0.mk (qaq (g := gb119) (o := .cells #[.int .i64 0,.string (⟨#[]⟩ : ByteArray),.string (⟨#[]⟩ : ByteArray)] 128 (0,0)) (by (with_reducible repeat (first|refine qah ?_ _|refine qai ?_|refine qag ?_ _));exact BK119.out) hb);have n1_ := Aside0.mk (qaq (g := gb120) (o := .cells #[.int .i64 0,.string (⟨#[]⟩ : ByteArray),.string (⟨#[]⟩ : ByteArray)] 128 (0,0)) (by (with_reducible repeat (first|refine qah ?_ _|refine qai ?_|refine qag ?_ _));exact BK120.out) hb);have n2_ := Aside0.mk (qan (by repeat (first|(with_reducible first|exact HB.out|apply qab|apply qaa|apply qac|refine qaf ?_ GE119.out|refine qaf ?_ GE120.out)|exact HB.out)) hb);clear BK119;clear BK120;clear HB;have BK119 := n0_;have BK120 := n1_;have HB := n2_;clear n0_ n1_ n2_;(try clear hb);(try clear hb2);(try clear hk);(try clear hi);(try simp only [qaj,qak]);have hnb13 := NB119_120.out;have hnc13 := NB120_119.out;have hcz14_0 : w12.cell? ⟨gb119,0,none⟩ = some (.int .i64 0) := (qae BK119.out 0).trans rfl;have hcz14_1 : w12.cell? ⟨gb119,1,none⟩ = some (.string (⟨#[]⟩ : ByteArray)) := (qae BK119.out 1).trans rfl;have hcz14_2 : w12.cell? ⟨gb119,2,none⟩ = some (.string (⟨#[]⟩ : ByteArray)) := (qae BK119.out 2).trans rfl;have hfz14_0 := qad BK119.out 0;have hfz14_1 := qad BK119.out 1;have hfz14_2 := qad BK119.out 2))
      refine bodyPost_ret (results_ct rfl _ _ gb119 128 #[.int .i64 0,.string (⟨#[]⟩ : ByteArray),.string (⟨#[]⟩ : ByteArray)] (0,0) _ rfl (by (with_reducible repeat (first|refine qah ?_ _|refine qai ?_|refine qag ?_ _));refine blk_put (cs := #[.int .i64 0,.string (⟨#[]⟩ : ByteArray),.string (⟨#[]⟩ : ByteArray)]) ?_ 2 _ rfl;(with_reducible repeat (first|refine qah ?_ _|refine qai ?_|refine qag ?_ _));refine blk_put (cs := #[.int .i64 0,.string (⟨#[]⟩ : ByteArray),.string (⟨#[]⟩ : ByteArray)]) ?_ 1 _ rfl;(with_reducible repeat (first|refine qah ?_ _|refine qai ?_|refine qag ?_ _));refine blk_put (cs := #[.int .i64 0,.string (⟨#[]⟩ : ByteArray),.string (⟨#[]⟩ : ByteArray)]) ?_ 0 _ rfl;(with_reducible repeat (first|refine qah ?_ _|refine qai ?_|refine qag ?_ _));exact BK119.out) Tryz.underlying128 rfl (by kernel_rfl)) rfl ?_
      exact ⟨by first|rfl|(simp [qaj,qak]<;>rfl)|(simp [*,qaj,qak]<;>rfl),by repeat (first|(with_reducible first|exact HB.out|apply qab|apply qaa|apply qac|refine qaf ?_ GE119.out|refine qaf ?_ GE120.out)|exact HB.out)⟩
     ·rw [if_neg c11] at H
      have c11b0 : decide (t124 < 0) = false := decide_eq_false c11
      clear c11
      (first|rw [c11b0]|(simp only [i64_w,i32_w];rw [c11b0]) | skip)
      replace H := Option.bind_eq_some_iff.mp H
      obtain ⟨t127,A150,H⟩ := H
      replace H : (if t127.toList = t121.toList then (version_Parse.j0 k t122 t124 (⟨#[]⟩ : ByteArray) (⟨#[]⟩ : ByteArray)) else (some (0,(⟨#[]⟩ : ByteArray),(⟨#[]⟩ : ByteArray),4))) = some (r1,r2,r3,r4) := H
      have A15 := Aside0.mk A150
      clear A150
      by_cases c16 : t127.toList = t121.toList
      ·rw [if_pos c16] at H
       have c16b0 : (t127.toList == t121.toList) = true := beq_iff_eq.mpr c16
       have c16b1 : (t127.toList != t121.toList) = false := bne_eq_false_iff_eq.mpr c16
       clear c16
       have H' := Aside0.mk H
       clear H
       go_wp2_with (first|((with_reducible refine qal (f := 170) rfl ?_);refine goesL_ (some 26) rfl rfl Tryz.func170 (by kernel_rfl) rfl #[.string t121] rfl (by first|rfl|(simp only [List.map_toArray,List.map_cons,List.map_nil,List.length_drop,List.length_take];rfl)|simp only [List.map_toArray,List.map_cons,List.map_nil]) ?_;(with_reducible refine (strconv_Atoi.calls t121 t124 none _ (by first|exact hG|exact GL.below hG (by repeat (first|(with_reducible first|exact HB.out|apply qab|apply qaa|apply qac|refine qaf ?_ GE119.out|refine qaf ?_ GE120.out)|exact HB.out)))  A10.out).mono ?_);rintro e w17 ⟨c_,rfl,hb⟩;refine ⟨_,rfl,?_⟩;(try simp only [Option.map_none,Option.map_some,errE_none,errE_some]);have n0_ := Aside0.mk (qaq (g := gb119) (o := .cells #[.int .i64 0,.string (⟨#[]⟩ : ByteArray),.string (⟨#[]⟩ : ByteArray)] 128 (0,0)) (by (with_reducible repeat (first|refine qah ?_ _|refine qai ?_|refine qag ?_ _));exact BK119.out) hb);have n1_ := Aside0.mk (qaq (g := gb120) (o := .cells #[.int .i64 0,.string (⟨#[]⟩ : ByteArray),.string (⟨#[]⟩ : ByteArray)] 128 (0,0)) (by (with_reducible repeat (first|refine qah ?_ _|refine qai ?_|refine qag ?_ _));exact BK120.out) hb);have n2_ := Aside0.mk (qan (by repeat (first|(with_reducible first|exact HB.out|apply qab|apply qaa|apply qac|refine qaf ?_ GE119.out|refine qaf ?_ GE120.out)|exact HB.out)) hb);clear BK119;clear BK120;clear HB;have BK119 := n0_;have BK120 := n1_;have HB := n2_;clear n0_ n1_ n2_;(try clear hb);(try clear hb2);(try clear hk);(try clear hi);(try simp only [qaj,qak]))|(go_at_call 171;(with_reducible refine (strconv_Itoa.calls t124 t127 _ (by first|exact hG|exact GL.below hG (by repeat (first|(with_reducible first|exact HB.out|apply qab|apply qaa|apply qac|refine qaf ?_ GE119.out|refine qaf ?_ GE120.out)|exact HB.out)))  A15.out).mono ?_);rintro e w18 ⟨rfl,hb⟩;have n0_ := Aside0.mk (qaq (g := gb119) (o := .cells #[.int .i64 0,.string (⟨#[]⟩ : ByteArray),.string (⟨#[]⟩ : ByteArray)] 128 (0,0)) (by (with_reducible repeat (first|refine qah ?_ _|refine qai ?_|refine qag ?_ _));exact BK119.out) hb);have n1_ := Aside0.mk (qaq (g := gb120) (o := .cells #[.int .i64 0,.string (⟨#[]⟩ : ByteArray),.string (⟨#[]⟩ : ByteArray)] 128 (0,0)) (by (with_reducible repeat (first|refine qah ?_ _|refine qai ?_|refine qag ?_ _));exact BK120.out) hb);have n2_ := Aside0.mk (qan (by repeat (first|(with_reducible first|exact HB.out|apply qab|apply qaa|apply qac|refine qaf ?_ GE119.out|refine qaf ?_ GE120.out)|exact HB.out)) hb);clear BK119;clear BK120;clear HB;have BK119 := n0_;have BK120 := n1_;have HB := n2_;clear n0_ n1_ n2_;(try clear hb);(try clear hb2);(try clear hk);(try clear hi);have hnb19 := NB120_119.out;have hnc19 := NB119_120.out;have hcz20_0 : w18.cell? ⟨gb120,0,none⟩ = some (.int .i64 0) := (qae BK120.out 0).trans rfl;have hcz20_1 : w18.cell? ⟨gb120,1,none⟩ = some (.string (⟨#[]⟩ : ByteArray)) := (qae BK120.out 1).trans rfl;have hcz20_2 : w18.cell? ⟨gb120,2,none⟩ = some (.string (⟨#[]⟩ : ByteArray)) := (qae BK120.out 2).trans rfl;have hfz20_0 := qad BK120.out 0;have hfz20_1 := qad BK120.out 1;have hfz20_2 := qad BK120.out 2))
       go_meet
       case rel => exact ⟨_,(t122),(0),((⟨#[]⟩ : ByteArray)),((⟨#[]⟩ : ByteArray)),(t124),(by first|rfl|(simp;done)|(simp [*];done)|(simp [qam];done)),H',⟨by first|omega|exact Nat.le_refl _⟩,⟨by (with_reducible repeat (first|refine qah ?_ _|refine qai ?_|refine qag ?_ _));refine blk_far ?_ NB119_120.out _;(with_reducible repeat (first|refine qah ?_ _|refine qai ?_|refine qag ?_ _));exact BK119.out⟩,⟨by (with_reducible repeat (first|refine qah ?_ _|refine qai ?_|refine qag ?_ _));refine blk_put (cs := #[.int .i64 0,.string (⟨#[]⟩ : ByteArray),.string (⟨#[]⟩ : ByteArray)]) ?_ 0 _ rfl;(with_reducible repeat (first|refine qah ?_ _|refine qai ?_|refine qag ?_ _));exact BK120.out⟩,⟨by repeat (first|(with_reducible first|exact HB.out|apply qab|apply qaa|apply qac|refine qaf ?_ GE119.out|refine qaf ?_ GE120.out)|exact HB.out)⟩⟩
      ·rw [if_neg c16] at H
       have c16b0 : (t127.toList == t121.toList) = false := beq_eq_false_iff_ne.mpr c16
       have c16b1 : (t127.toList != t121.toList) = true := bne_iff_ne.mpr c16
       simp only [Option.some.injEq,Prod.mk.injEq] at H
       obtain ⟨rfl,rfl,rfl,rfl⟩ := H
       go_wp2_with (first|((with_reducible refine qal (f := 170) rfl ?_);refine goesL_ (some 26) rfl rfl Tryz.func170 (by kernel_rfl) rfl #[.string t121] rfl (by first|rfl|(simp only [List.map_toArray,List.map_cons,List.map_nil,List.length_drop,List.length_take];rfl)|simp only [List.map_toArray,List.map_cons,List.map_nil]) ?_;(with_reducible refine (strconv_Atoi.calls t121 t124 none _ (by first|exact hG|exact GL.below hG (by repeat (first|(with_reducible first|exact HB.out|apply qab|apply qaa|apply qac|refine qaf ?_ GE119.out|refine qaf ?_ GE120.out)|exact HB.out)))  A10.out).mono ?_);rintro e w21 ⟨c_,rfl,hb⟩;refine ⟨_,rfl,?_⟩;(try simp only [Option.map_none,Option.map_some,errE_none,errE_some]);have n0_ := Aside0.mk (qaq (g := gb119) (o := .cells #[.int .i64 0,.string (⟨#[]⟩ : ByteArray),.string (⟨#[]⟩ : ByteArray)] 128 (0,0)) (by (with_reducible repeat (first|refine qah ?_ _|refine qai ?_|refine qag ?_ _));exact BK119.out) hb);have n1_ := Aside0.mk (qaq (g := gb120) (o := .cells #[.int .i64 0,.string (⟨#[]⟩ : ByteArray),.string (⟨#[]⟩ : ByteArray)] 128 (0,0)) (by (with_reducible repeat (first|refine qah ?_ _|refine qai ?_|refine qag ?_ _));exact BK120.out) hb);have n2_ := Aside0.mk (qan (by repeat (first|(with_reducible first|exact HB.out|apply qab|apply qaa|apply qac|refine qaf ?_ GE119.out|refine qaf ?_ GE120.out)|exact HB.out)) hb);clear BK119;clear BK120;clear HB;have BK119 := n0_;have BK120 := n1_;have HB := n2_;clear n0_ n1_ n2_;(try clear hb);(try clear hb2);(try clear hk);(try clear hi);(try simp only [qaj,qak]))|(go_at_call 171;(with_reducible refine (strconv_Itoa.calls t124 t127 _ (by first|exact hG|exact GL.below hG (by repeat (first|(with_reducible first|exact HB.out|apply qab|apply qaa|apply qac|refine qaf ?_ GE119.out|refine qaf ?_ GE120.out)|exact HB.out)))  A15.out).mono ?_);rintro e w22 ⟨rfl,hb⟩;have n0_ := Aside0.mk (qaq (g := gb119) (o := .cells #[.int .i64 0,.string (⟨#[]⟩ : ByteArray),.string (⟨#[]⟩ : ByteArray)] 128 (0,0)) (by (with_reducible repeat (first|refine qah ?_ _|refine qai ?_|refine qag ?_ _));exact BK119.out) hb);have n1_ := Aside0.mk (qaq (g := gb120) (o := .cells #[.int .i64 0,.string (⟨#[]⟩ : ByteArray),.string (⟨#[]⟩ : ByteArray)] 128 (0,0)) (by (with_reducible repeat (first|refine qah ?_ _|refine qai ?_|refine qag ?_ _));exact BK120.out) hb);have n2_ := Aside0.mk (qan (by repeat (first|(with_reducible first|exact HB.out|apply qab|apply qaa|apply qac|refine qaf ?_ GE119.out|refine qaf ?_ GE120.out)|exact HB.out)) hb);clear BK119;clear BK120;clear HB;have BK119 := n0_;have BK120 := n1_;have HB := n2_;clear n0_ n1_ n2_;(try clear hb);(try clear hb2);(try clear hk);(try clear hi);have hnb23 := NB119_120.out;have hnc23 := NB120_119.out;have hcz24_0 : w22.cell? ⟨gb119,0,none⟩ = some (.int .i64 0) := (qae BK119.out 0).trans rfl;have hcz24_1 : w22.cell? ⟨gb119,1,none⟩ = some (.string (⟨#[]⟩ : ByteArray)) := (qae BK119.out 1).trans rfl;have hcz24_2 : w22.cell? ⟨gb119,2,none⟩ = some (.string (⟨#[]⟩ : ByteArray)) := (qae BK119.out 2).trans rfl;have hfz24_0 := qad BK119.out 0;have hfz24_1 := qad BK119.out 1;have hfz24_2 := qad BK119.out 2))
       refine bodyPost_ret (results_ct rfl _ _ gb119 128 #[.int .i64 0,.string (⟨#[]⟩ : ByteArray),.string (⟨#[]⟩ : ByteArray)] (0,0) _ rfl (by (with_reducible repeat (first|refine qah ?_ _|refine qai ?_|refine qag ?_ _));refine blk_put (cs := #[.int .i64 0,.string (⟨#[]⟩ : ByteArray),.string (⟨#[]⟩ : ByteArray)]) ?_ 2 _ rfl;(with_reducible repeat (first|refine qah ?_ _|refine qai ?_|refine qag ?_ _));refine blk_put (cs := #[.int .i64 0,.string (⟨#[]⟩ : ByteArray),.string (⟨#[]⟩ : ByteArray)]) ?_ 1 _ rfl;(with_reducible repeat (first|refine qah ?_ _|refine qai ?_|refine qag ?_ _));refine blk_put (cs := #[.int .i64 0,.string (⟨#[]⟩ : ByteArray),.string (⟨#[]⟩ : ByteArray)]) ?_ 0 _ rfl;(with_reducible repeat (first|refine qah ?_ _|refine qai ?_|refine qag ?_ _));exact BK119.out) Tryz.underlying128 rfl (by kernel_rfl)) rfl ?_
       exact ⟨by first|rfl|(simp [qaj,qak]<;>rfl)|(simp [*,qaj,qak]<;>rfl),by repeat (first|(with_reducible first|exact HB.out|apply qab|apply qaa|apply qac|refine qaf ?_ GE119.out|refine qaf ?_ GE120.out)|exact HB.out)⟩
    ·have H1 : (some (0,(⟨#[]⟩ : ByteArray),(⟨#[]⟩ : ByteArray),4)) = some (r1,r2,r3,r4) := by rw [if_neg (show ¬ (some q126).isNone = true by simp)] at H;exact H
     clear H
     have H := H1
     clear H1
     try simp only [qaj,qak]
     simp only [Option.some.injEq,Prod.mk.injEq] at H
     obtain ⟨rfl,rfl,rfl,rfl⟩ := H
     go_wp2_with (first|((with_reducible refine qal (f := 170) rfl ?_);refine goesL_ (some 26) rfl rfl Tryz.func170 (by kernel_rfl) rfl #[.string t121] rfl (by first|rfl|(simp only [List.map_toArray,List.map_cons,List.map_nil,List.length_drop,List.length_take];rfl)|simp only [List.map_toArray,List.map_cons,List.map_nil]) ?_;(with_reducible refine (strconv_Atoi.calls t121 t124 (some q126) _ (by first|exact hG|exact GL.below hG (by repeat (first|(with_reducible first|exact HB.out|apply qab|apply qaa|apply qac|refine qaf ?_ GE119.out|refine qaf ?_ GE120.out)|exact HB.out)))  A10.out).mono ?_);rintro e w25 ⟨c_,rfl,hb⟩;refine ⟨_,rfl,?_⟩;(try simp only [Option.map_none,Option.map_some,errE_none,errE_some]);have n0_ := Aside0.mk (qaq (g := gb119) (o := .cells #[.int .i64 0,.string (⟨#[]⟩ : ByteArray),.string (⟨#[]⟩ : ByteArray)] 128 (0,0)) (by (with_reducible repeat (first|refine qah ?_ _|refine qai ?_|refine qag ?_ _));exact BK119.out) hb);have n1_ := Aside0.mk (qaq (g := gb120) (o := .cells #[.int .i64 0,.string (⟨#[]⟩ : ByteArray),.string (⟨#[]⟩ : ByteArray)] 128 (0,0)) (by (with_reducible repeat (first|refine qah ?_ _|refine qai ?_|refine qag ?_ _));exact BK120.out) hb);have n2_ := Aside0.mk (qan (by repeat (first|(with_reducible first|exact HB.out|apply qab|apply qaa|apply qac|refine qaf ?_ GE119.out|refine qaf ?_ GE120.out)|exact HB.out)) hb);clear BK119;clear BK120;clear HB;have BK119 := n0_;have BK120 := n1_;have HB := n2_;clear n0_ n1_ n2_;(try clear hb);(try clear hb2);(try clear hk);(try clear hi);(try simp only [qaj,qak]);have hnb26 := NB119_120.out;have hnc26 := NB120_119.out;have hcz27_0 : w25.cell? ⟨gb119,0,none⟩ = some (.int .i64 0) := (qae BK119.out 0).trans rfl;have hcz27_1 : w25.cell? ⟨gb119,1,none⟩ = some (.string (⟨#[]⟩ : ByteArray)) := (qae BK119.out 1).trans rfl;have hcz27_2 : w25.cell? ⟨gb119,2,none⟩ = some (.string (⟨#[]⟩ : ByteArray)) := (qae BK119.out 2).trans rfl;have hfz27_0 := qad BK119.out 0;have hfz27_1 := qad BK119.out 1;have hfz27_2 := qad BK119.out 2))
     refine bodyPost_ret (results_ct rfl _ _ gb119 128 #[.int .i64 0,.string (⟨#[]⟩ : ByteArray),.string (⟨#[]⟩ : ByteArray)] (0,0) _ rfl (by (with_reducible repeat (first|refine qah ?_ _|refine qai ?_|refine qag ?_ _));refine blk_put (cs := #[.int .i64 0,.string (⟨#[]⟩ : ByteArray),.string (⟨#[]⟩ : ByteArray)]) ?_ 2 _ rfl;(with_reducible repeat (first|refine qah ?_ _|refine qai ?_|refine qag ?_ _));refine blk_put (cs := #[.int .i64 0,.string (⟨#[]⟩ : ByteArray),.string (⟨#[]⟩ : ByteArray)]) ?_ 1 _ rfl;(with_reducible repeat (first|refine qah ?_ _|refine qai ?_|refine qag ?_ _));refine blk_put (cs := #[.int .i64 0,.string (⟨#[]⟩ : ByteArray),.string (⟨#[]⟩ : ByteArray)]) ?_ 0 _ rfl;(with_reducible repeat (first|refine qah ?_ _|refine qai ?_|refine qag ?_ _));exact BK119.out) Tryz.underlying128 rfl (by kernel_rfl)) rfl ?_
     exact ⟨by first|rfl|(simp [qaj,qak]<;>rfl)|(simp [*,qaj,qak]<;>rfl),by repeat (first|(with_reducible first|exact HB.out|apply qab|apply qaa|apply qac|refine qaf ?_ GE119.out|refine qaf ?_ GE120.out)|exact HB.out)⟩
   ·replace c9 := Bool.eq_false_iff.mpr c9
    subst c9
    have H1 : (version_Parse.j0 k a0 0 (⟨#[]⟩ : ByteArray) (⟨#[]⟩ : ByteArray)) = some (r1,r2,r3,r4) := by rw [if_neg (show ¬ (false = true) by decide)] at H;exact H
    clear H
    have H := H1
    clear H1
    have H' := Aside0.mk H
    clear H
    go_wp2
    go_meet
    case rel => exact ⟨_,(a0),(0),((⟨#[]⟩ : ByteArray)),((⟨#[]⟩ : ByteArray)),(0),(by first|rfl|(simp;done)|(simp [*];done)|(simp [qam];done)),H',⟨by first|omega|exact Nat.le_refl _⟩,⟨by (with_reducible repeat (first|refine qah ?_ _|refine qai ?_|refine qag ?_ _));exact BK119.out⟩,⟨by (with_reducible repeat (first|refine qah ?_ _|refine qai ?_|refine qag ?_ _));exact BK120.out⟩,⟨by repeat (first|(with_reducible first|exact HB.out|apply qab|apply qaa|apply qac|refine qaf ?_ GE119.out|refine qaf ?_ GE120.out)|exact HB.out)⟩⟩
  case rest =>
   clear HC6
   try clear c1
   try clear q1
   try clear c2
   try clear c2b0
   try clear c2b1
   try clear p2
   try clear c9
   try clear c11
   try clear c11b0
   try clear q12
   try clear c13
   try clear c16
   try clear c16b0
   try clear c16b1
   try clear c17
   try clear c19
   try clear c23
   try clear c26
   try clear hcz14_0
   try clear hcz14_1
   try clear hcz14_2
   try clear hcz20_0
   try clear hcz20_1
   try clear hcz20_2
   try clear hcz24_0
   try clear hcz24_1
   try clear hcz24_2
   try clear hcz27_0
   try clear hcz27_1
   try clear hcz27_2
   try clear hcz4_0
   try clear hcz4_1
   try clear hcz4_2
   try clear hfz14_0
   try clear hfz14_1
   try clear hfz14_2
   try clear hfz20_0
   try clear hfz20_1
   try clear hfz20_2
   try clear hfz24_0
   try clear hfz24_1
   try clear hfz24_2
   try clear hfz27_0
   try clear hfz27_1
   try clear hfz27_2
   try clear hfz4_0
   try clear hfz4_1
   try clear hfz4_2
   try clear q126
   obtain ⟨kq,x5_5,x120000_5,x120001_5,x120002_5,x121000_5,rfl,HA,HJ5,BK119,BK120,HB⟩ := hcut
   cases kq with
   | zero => exact absurd HA.out (by simp [version_Parse.j0])
   | succ kj5 =>
    have H := HA.out
    clear HA
    simp only [version_Parse.j0] at H
    replace H := Option.bind_eq_some_iff.mp H
    obtain ⟨t128,A280,H⟩ := H
    replace H : (if t128 ≥ 0 then (if 0 ≤ t128 then (if t128 ≤ (x5_5.size : Int) then (if 0 ≤ (wrap64 (t128 + 1)) then (if (wrap64 (t128 + 1)) ≤ (x5_5.size : Int) then (if (x5_5.extract ((wrap64 (t128 + 1)) : Int).toNat x5_5.size).toList = ([] : List UInt8) then (some (0,(⟨#[]⟩ : ByteArray),(⟨#[]⟩ : ByteArray),4)) else ((version_Right.f kj5 x121000_5 (x5_5.extract 0 (t128 : Int).toNat) (x5_5.extract ((wrap64 (t128 + 1)) : Int).toNat x5_5.size)).bind fun t129 => (if t129 = true then (some (x121000_5,x5_5.extract 0 (t128 : Int).toNat,x5_5.extract ((wrap64 (t128 + 1)) : Int).toNat x5_5.size,0)) else (some (0,(⟨#[]⟩ : ByteArray),(⟨#[]⟩ : ByteArray),4))))) else (none)) else (none)) else (none)) else (none)) else ((version_Right.f kj5 x121000_5 x5_5 (⟨#[]⟩ : ByteArray)).bind fun t130 => (if t130 = true then (some (x121000_5,x5_5,(⟨#[]⟩ : ByteArray),0)) else (some (0,(⟨#[]⟩ : ByteArray),(⟨#[]⟩ : ByteArray),4))))) = some (r1,r2,r3,r4) := H
    have A28 := Aside0.mk A280
    clear A280
    by_cases c29 : t128 ≥ 0
    ·rw [if_pos c29] at H
     have c29b0 : decide (0 ≤ t128) = true := decide_eq_true c29
     clear c29
     by_cases c30 : 0 ≤ t128
     ·rw [if_pos c30] at H
      have c30b0 := eq_true c30
      have c30b1 : decide (0 ≤ t128) = true := decide_eq_true c30
      clear c30
      by_cases c31 : t128 ≤ (x5_5.size : Int)
      ·rw [if_pos c31] at H
       have c31b0 := eq_true c31
       have c31b1 : decide (t128 ≤ (x5_5.size : Int)) = true := decide_eq_true c31
       clear c31
       obtain ⟨ji32,hji32⟩ : ∃ j_ : Int,(wrap64 (t128 + 1)) = j_ := ⟨_,rfl⟩
       replace H : (if 0 ≤ (ji32) then (if (ji32) ≤ (x5_5.size : Int) then (if (x5_5.extract ((ji32) : Int).toNat x5_5.size).toList = ([] : List UInt8) then (some (0,(⟨#[]⟩ : ByteArray),(⟨#[]⟩ : ByteArray),4)) else ((version_Right.f kj5 x121000_5 (x5_5.extract 0 (t128 : Int).toNat) (x5_5.extract ((ji32) : Int).toNat x5_5.size)).bind fun t129 => (if t129 = true then (some (x121000_5,x5_5.extract 0 (t128 : Int).toNat,x5_5.extract ((ji32) : Int).toNat x5_5.size,0)) else (some (0,(⟨#[]⟩ : ByteArray),(⟨#[]⟩ : ByteArray),4))))) else (none)) else (none)) = some (r1,r2,r3,r4) := by first|(rw [hji32] at H;exact H)|(simp only [hji32] at H ⊢;exact H)
       (try rw [hji32] at A28)
       have hji32w : (IntKind.i64.wrap (t128 + 1)) = ji32 := (i64_w _).trans hji32
       by_cases c33 : 0 ≤ (ji32)
       ·rw [if_pos c33] at H
        have c33b0 := eq_true c33
        have c33b1 : decide (0 ≤ (ji32)) = true := decide_eq_true c33
        clear c33
        by_cases c34 : (ji32) ≤ (x5_5.size : Int)
        ·rw [if_pos c34] at H
         have c34b0 := eq_true c34
         have c34b1 : decide ((ji32) ≤ (x5_5.size : Int)) = true := decide_eq_true c34
         clear c34
         by_cases c35 : (x5_5.extract ((ji32) : Int).toNat x5_5.size).toList = ([] : List UInt8)
         ·rw [if_pos c35] at H
          have c35b0 : ((x5_5.extract ((ji32) : Int).toNat x5_5.size).toList == ([] : List UInt8)) = true := beq_iff_eq.mpr c35
          have c35b1 : ((x5_5.extract ((ji32) : Int).toNat x5_5.size).toList != ([] : List UInt8)) = false := bne_eq_false_iff_eq.mpr c35
          clear c35
          simp only [Option.some.injEq,Prod.mk.injEq] at H
          obtain ⟨rfl,rfl,rfl,rfl⟩ := H
          have hnb36 := NB120_119.out
          have hnc36 := NB119_120.out
          have hcz37_0 : wc.cell? ⟨gb120,0,none⟩ = some (.int .i64 x121000_5) := (qae BK120.out 0).trans rfl
          have hcz37_1 : wc.cell? ⟨gb120,1,none⟩ = some (.string (⟨#[]⟩ : ByteArray)) := (qae BK120.out 1).trans rfl
          have hcz37_2 : wc.cell? ⟨gb120,2,none⟩ = some (.string (⟨#[]⟩ : ByteArray)) := (qae BK120.out 2).trans rfl
          have hfz37_0 := qad BK120.out 0
          have hfz37_1 := qad BK120.out 1
          have hfz37_2 := qad BK120.out 2
          try go_wp2_with (first|((with_reducible refine qal (f := 172) rfl ?_);refine goesL_ (some 48) rfl rfl Tryz.func172 (by kernel_rfl) rfl #[.string x5_5,.int .u8 45] rfl (by first|rfl|(simp only [List.map_toArray,List.map_cons,List.map_nil,List.length_drop,List.length_take];rfl)|simp only [List.map_toArray,List.map_cons,List.map_nil]) ?_;(with_reducible refine (strings_LastIndexByte.calls x5_5 45 t128 _ (by first|exact hG|exact GL.below hG (by repeat (first|(with_reducible first|exact HB.out|apply qab|apply qaa|apply qac|refine qaf ?_ GE119.out|refine qaf ?_ GE120.out)|exact HB.out)))  A28.out).mono ?_);rintro e w' ⟨rfl,⟨nd,rfl⟩⟩;refine ⟨_,rfl,?_⟩))
          have n0_ : Aside0 ((wc.setCell ⟨gb120,1,none⟩ (.string x5_5)).heap[gb119]? = some (.cells #[.int .i64 x120000_5,.string x120001_5,.string x120002_5] 128 (0,0))) := ⟨by (with_reducible repeat (first|refine qah ?_ _|refine qai ?_|refine qag ?_ _));refine blk_far ?_ NB119_120.out _;(with_reducible repeat (first|refine qah ?_ _|refine qai ?_|refine qag ?_ _));exact BK119.out⟩
          have n1_ : Aside0 ((wc.setCell ⟨gb120,1,none⟩ (.string x5_5)).heap[gb120]? = some (.cells #[.int .i64 x121000_5,.string x5_5,.string (⟨#[]⟩ : ByteArray)] 128 (0,0))) := ⟨by (with_reducible repeat (first|refine qah ?_ _|refine qai ?_|refine qag ?_ _));refine blk_put (cs := #[.int .i64 x121000_5,.string (⟨#[]⟩ : ByteArray),.string (⟨#[]⟩ : ByteArray)]) ?_ 1 _ rfl;(with_reducible repeat (first|refine qah ?_ _|refine qai ?_|refine qag ?_ _));exact BK120.out⟩
          have n2_ : Aside0 (Below w.heap.size w (wc.setCell ⟨gb120,1,none⟩ (.string x5_5))) := ⟨by repeat (first|(with_reducible first|exact HB.out|apply qab|apply qaa|apply qac|refine qaf ?_ GE119.out|refine qaf ?_ GE120.out)|exact HB.out)⟩
          (try clear BK119)
          (try clear BK120)
          (try clear HB)
          generalize (wc.setCell ⟨gb120,1,none⟩ (.string x5_5)) = w38 at n0_ n1_ n2_ ⊢
          have BK119 := n0_
          have BK120 := n1_
          have HB := n2_
          clear n0_ n1_ n2_
          (try (rw [drewN_self w38];generalize hq_ : World.drewN w38 _ = w38;have n0_ : Aside0 (w38.heap[gb119]? = some (.cells #[.int .i64 x120000_5,.string x120001_5,.string x120002_5] 128 (0,0))) := ⟨by rw [← hq_];exact (by (with_reducible repeat (first|refine qah ?_ _|refine qai ?_|refine qag ?_ _));exact BK119.out)⟩;have n1_ : Aside0 (w38.heap[gb120]? = some (.cells #[.int .i64 x121000_5,.string x5_5,.string (⟨#[]⟩ : ByteArray)] 128 (0,0))) := ⟨by rw [← hq_];exact (by (with_reducible repeat (first|refine qah ?_ _|refine qai ?_|refine qag ?_ _));exact BK120.out)⟩;have n2_ : Aside0 (Below w.heap.size w w38) := ⟨by rw [← hq_];exact (by repeat (first|(with_reducible first|exact HB.out|apply qab|apply qaa|apply qac|refine qaf ?_ GE119.out|refine qaf ?_ GE120.out)|exact HB.out))⟩;clear BK119 BK120 HB hq_;have BK119 := n0_;have BK120 := n1_;have HB := n2_;clear n0_ n1_ n2_))
          have n0_ := Aside0.mk (qai BK119.out)
          have n1_ := Aside0.mk (qai BK120.out)
          have n2_ := Aside0.mk (qac HB.out)
          clear BK119
          clear BK120
          clear HB
          have BK119 := n0_
          have BK120 := n1_
          have HB := n2_
          clear n0_ n1_ n2_
          refine start_ (n := 11) (S := fun w' => True) (ds := []) #[false,false,false,false,false,false,false,false,false,false,false] (by kernel_rfl) rfl rfl trivial (fun hHeld => ?_);refine with_tabW version_Parse.tab14 version_Parse.bits14 (fun HT_ HW_ => ?_)
          generalize w38.drew = w39 at BK119 BK120 HB hHeld ⊢
          refine pure_ (i := 0) (N := some 51) (v := ?_) (a' := ?_) #[true,false,false,false,false,false,false,false,false,false,false] rfl rfl (any_of HT_.out (by kernel_rfl)) (fun _ _ _ h => h) (Or.inl ⟨by rfl,?_⟩) ?_ ?_
          rotate_left
          ·intro w'
           go_simp
           with_reducible rfl
          rotate_left
          ·simp only [Act.put,List.setIfInBounds_toArray,List.set_cons_zero,List.set_cons_succ,i64_w,i32_w]
           rfl
          refine pure_ (i := 1) (N := some 52) (v := ?_) (a' := ?_) #[true,true,false,false,false,false,false,false,false,false,false] rfl rfl (any_of HT_.out (by kernel_rfl)) (fun _ _ _ h => h) (Or.inl ⟨by rfl,?_⟩) ?_ ?_
          rotate_left
          ·intro w'
           go_simp
           with_reducible rfl
          rotate_left
          ·simp only [Act.put,List.setIfInBounds_toArray,List.set_cons_zero,List.set_cons_succ,i64_w,i32_w]
           rfl
          refine pure_ (i := 2) (N := some 53) (v := ?_) (a' := ?_) #[true,true,true,false,false,false,false,false,false,false,false] rfl rfl (any_of HT_.out (by kernel_rfl)) (fun _ _ _ h => h) (Or.inl ⟨by rfl,?_⟩) ?_ ?_
          rotate_left
          ·intro w'
           go_simp
           with_reducible rfl
          rotate_left
          ·simp only [Act.put,List.setIfInBounds_toArray,List.set_cons_zero,List.set_cons_succ,i64_w,i32_w]
           rfl
          refine pure_ (i := 3) (N := some 54) (v := ?_) (a' := ?_) #[true,true,true,true,false,false,false,false,false,false,false] rfl rfl (any_of HT_.out (by kernel_rfl)) (fun _ _ _ h => h) (Or.inl ⟨by rfl,?_⟩) ?_ ?_
          rotate_left
          ·intro w'
           go_simp
           with_reducible rfl
          rotate_left
          ·simp only [Act.put,List.setIfInBounds_toArray,List.set_cons_zero,List.set_cons_succ,i64_w,i32_w]
           rfl
          refine pure_ (i := 4) (N := some 55) (v := ?_) (a' := ?_) #[true,true,true,true,true,false,false,false,false,false,false] rfl rfl (any_of HT_.out (by kernel_rfl)) (fun _ _ _ h => h) (Or.inl ⟨by rfl,?_⟩) ?_ ?_
          rotate_left
          ·intro w'
           go_simp
           with_reducible rfl
          rotate_left
          ·simp only [Act.put,List.setIfInBounds_toArray,List.set_cons_zero,List.set_cons_succ,i64_w,i32_w]
           rfl
          refine pure_ (i := 5) (N := some 56) (v := ?_) (a' := ?_) #[true,true,true,true,true,true,false,false,false,false,false] rfl rfl (any_of HT_.out (by kernel_rfl)) (fun _ _ _ h => h) (Or.inl ⟨by rfl,?_⟩) ?_ ?_
          rotate_left
          ·intro w'
           go_simp
           with_reducible rfl
          rotate_left
          ·simp only [Act.put,List.setIfInBounds_toArray,List.set_cons_zero,List.set_cons_succ,i64_w,i32_w]
           rfl
          refine pure_ (i := 6) (N := some 57) (v := ?_) (a' := ?_) #[true,true,true,true,true,true,true,false,false,false,false] rfl rfl (any_of HT_.out (by kernel_rfl)) (fun _ _ _ h => h) (Or.inl ⟨by rfl,?_⟩) ?_ ?_
          rotate_left
          ·intro w'
           go_simp
           with_reducible rfl
          rotate_left
          ·simp only [Act.put,List.setIfInBounds_toArray,List.set_cons_zero,List.set_cons_succ,i64_w,i32_w]
           rfl
          refine pure_ (i := 7) (N := some 58) (v := ?_) (a' := ?_) #[true,true,true,true,true,true,true,true,false,false,false] rfl rfl (any_of HT_.out (by kernel_rfl)) (fun _ _ _ h => h) (Or.inl ⟨by rfl,?_⟩) ?_ ?_
          rotate_left
          ·intro w'
           go_simp
           with_reducible rfl
          rotate_left
          ·simp only [Act.put,List.setIfInBounds_toArray,List.set_cons_zero,List.set_cons_succ,i64_w,i32_w]
           rfl
          refine one_ (i := 8) (N := none) #[true,true,true,true,true,true,true,true,true,false,false] rfl rfl (one_of HT_.out (by kernel_rfl)) (by decide) (fun K hK => ?_)
          have hs40 : w39.cell? ⟨gb120,1,none⟩ = some (.string x5_5) := (qae BK120.out 1).trans rfl
          have hfs40 := qad BK120.out 1
          have hns40_0 := NB119_120.out
          have hms40_0 := NB120_119.out
          refine skip_ (w1 := ?_) (by rfl) rfl ?_ ?_
          rotate_left
          ·go_simp
           rfl
          refine hK.out _ _ trivial (fun hHeld => ?_)
          clear hK K
          refine pure_ (i := 9) (N := some 59) (v := ?_) (a' := ?_) #[true,true,true,true,true,true,true,true,true,true,false] rfl rfl (any_of HT_.out (by kernel_rfl)) (fun _ _ _ h => h) (Or.inl ⟨by rfl,?_⟩) ?_ ?_
          rotate_left
          ·intro w'
           go_simp
           with_reducible rfl
          rotate_left
          ·simp only [Act.put,List.setIfInBounds_toArray,List.set_cons_zero,List.set_cons_succ,i64_w,i32_w]
           rfl
          refine one_ (i := 10) (N := none) #[true,true,true,true,true,true,true,true,true,true,true] rfl rfl (one_of HT_.out (by kernel_rfl)) (by decide) (fun K hK => ?_)
          have hs41 : w39.cell? ⟨gb120,2,none⟩ = some (.string (⟨#[]⟩ : ByteArray)) := (qae BK120.out 2).trans rfl
          have hfs41 := qad BK120.out 2
          have hns41_0 := NB119_120.out
          have hms41_0 := NB120_119.out
          refine skip_ (w1 := ?_) (by rfl) rfl ?_ ?_
          rotate_left
          ·go_simp
           rfl
          refine hK.out _ _ trivial (fun hHeld => ?_)
          clear hK K
          refine done_ (done_of HT_.out (by kernel_rfl)) ?_
          have hcz42_0 : w39.cell? ⟨gb120,0,none⟩ = some (.int .i64 x121000_5) := (qae BK120.out 0).trans rfl
          have hcz42_1 : w39.cell? ⟨gb120,1,none⟩ = some (.string x5_5) := (qae BK120.out 1).trans rfl
          have hcz42_2 : w39.cell? ⟨gb120,2,none⟩ = some (.string (⟨#[]⟩ : ByteArray)) := (qae BK120.out 2).trans rfl
          have hfz42_0 := qad BK120.out 0
          have hfz42_1 := qad BK120.out 1
          have hfz42_2 := qad BK120.out 2
          have hcz43_0 : w39.cell? ⟨gb119,0,none⟩ = some (.int .i64 x120000_5) := (qae BK119.out 0).trans rfl
          have hcz43_1 : w39.cell? ⟨gb119,1,none⟩ = some (.string x120001_5) := (qae BK119.out 1).trans rfl
          have hcz43_2 : w39.cell? ⟨gb119,2,none⟩ = some (.string x120002_5) := (qae BK119.out 2).trans rfl
          have hfz43_0 := qad BK119.out 0
          have hfz43_1 := qad BK119.out 1
          have hfz43_2 := qad BK119.out 2
          try go_wp2
          refine bodyPost_ret (results_ct rfl _ _ gb119 128 #[.int .i64 0,.string (⟨#[]⟩ : ByteArray),.string (⟨#[]⟩ : ByteArray)] (0,0) _ rfl (by (with_reducible repeat (first|refine qah ?_ _|refine qai ?_|refine qag ?_ _));refine blk_put (cs := #[.int .i64 0,.string (⟨#[]⟩ : ByteArray),.string x120002_5]) ?_ 2 _ rfl;(with_reducible repeat (first|refine qah ?_ _|refine qai ?_|refine qag ?_ _));refine blk_put (cs := #[.int .i64 0,.string x120001_5,.string x120002_5]) ?_ 1 _ rfl;(with_reducible repeat (first|refine qah ?_ _|refine qai ?_|refine qag ?_ _));refine blk_put (cs := #[.int .i64 x120000_5,.string x120001_5,.string x120002_5]) ?_ 0 _ rfl;(with_reducible repeat (first|refine qah ?_ _|refine qai ?_|refine qag ?_ _));refine blk_far ?_ NB119_120.out _;(with_reducible repeat (first|refine qah ?_ _|refine qai ?_|refine qag ?_ _));refine blk_far ?_ NB119_120.out _;(with_reducible repeat (first|refine qah ?_ _|refine qai ?_|refine qag ?_ _));exact BK119.out) Tryz.underlying128 rfl (by kernel_rfl)) rfl ?_
          exact ⟨by first|rfl|(simp [qaj,qak]<;>rfl)|(simp only [← hji32];first|rfl|(simp [qaj,qak]<;>rfl))|(simp [*,qaj,qak]<;>rfl),by repeat (first|(with_reducible first|exact HB.out|apply qab|apply qaa|apply qac|refine qaf ?_ GE119.out|refine qaf ?_ GE120.out)|exact HB.out)⟩
         ·rw [if_neg c35] at H
          have c35b0 : ((x5_5.extract ((ji32) : Int).toNat x5_5.size).toList == ([] : List UInt8)) = false := beq_eq_false_iff_ne.mpr c35
          have c35b1 : ((x5_5.extract ((ji32) : Int).toNat x5_5.size).toList != ([] : List UInt8)) = true := bne_iff_ne.mpr c35
          replace H := Option.bind_eq_some_iff.mp H
          obtain ⟨t129,A440,H⟩ := H
          replace H : (if t129 = true then (some (x121000_5,x5_5.extract 0 (t128 : Int).toNat,x5_5.extract ((ji32) : Int).toNat x5_5.size,0)) else (some (0,(⟨#[]⟩ : ByteArray),(⟨#[]⟩ : ByteArray),4))) = some (r1,r2,r3,r4) := H
          have A44 := Aside0.mk A440
          clear A440
          by_cases c45 : t129 = true
          ·subst c45
           have H1 : (some (x121000_5,x5_5.extract 0 (t128 : Int).toNat,x5_5.extract ((ji32) : Int).toNat x5_5.size,0)) = some (r1,r2,r3,r4) := by rw [if_pos rfl] at H;exact H
           clear H
           have H := H1
           clear H1
           simp only [Option.some.injEq,Prod.mk.injEq] at H
           obtain ⟨rfl,rfl,rfl,rfl⟩ := H
           have hnb46 := NB120_119.out
           have hnc46 := NB119_120.out
           have hcz47_0 : wc.cell? ⟨gb120,0,none⟩ = some (.int .i64 x121000_5) := (qae BK120.out 0).trans rfl
           have hcz47_1 : wc.cell? ⟨gb120,1,none⟩ = some (.string (⟨#[]⟩ : ByteArray)) := (qae BK120.out 1).trans rfl
           have hcz47_2 : wc.cell? ⟨gb120,2,none⟩ = some (.string (⟨#[]⟩ : ByteArray)) := (qae BK120.out 2).trans rfl
           have hfz47_0 := qad BK120.out 0
           have hfz47_1 := qad BK120.out 1
           have hfz47_2 := qad BK120.out 2
           try go_wp2_with (first|((with_reducible refine qal (f := 172) rfl ?_);refine goesL_ (some 48) rfl rfl Tryz.func172 (by kernel_rfl) rfl #[.string x5_5,.int .u8 45] rfl (by first|rfl|(simp only [List.map_toArray,List.map_cons,List.map_nil,List.length_drop,List.length_take];rfl)|simp only [List.map_toArray,List.map_cons,List.map_nil]) ?_;(with_reducible refine (strings_LastIndexByte.calls x5_5 45 t128 _ (by first|exact hG|exact GL.below hG (by repeat (first|(with_reducible first|exact HB.out|apply qab|apply qaa|apply qac|refine qaf ?_ GE119.out|refine qaf ?_ GE120.out)|exact HB.out)))  A28.out).mono ?_);rintro e w' ⟨rfl,⟨nd,rfl⟩⟩;refine ⟨_,rfl,?_⟩))
           have n0_ : Aside0 ((wc.setCell ⟨gb120,1,none⟩ (.string x5_5)).heap[gb119]? = some (.cells #[.int .i64 x120000_5,.string x120001_5,.string x120002_5] 128 (0,0))) := ⟨by (with_reducible repeat (first|refine qah ?_ _|refine qai ?_|refine qag ?_ _));refine blk_far ?_ NB119_120.out _;(with_reducible repeat (first|refine qah ?_ _|refine qai ?_|refine qag ?_ _));exact BK119.out⟩
           have n1_ : Aside0 ((wc.setCell ⟨gb120,1,none⟩ (.string x5_5)).heap[gb120]? = some (.cells #[.int .i64 x121000_5,.string x5_5,.string (⟨#[]⟩ : ByteArray)] 128 (0,0))) := ⟨by (with_reducible repeat (first|refine qah ?_ _|refine qai ?_|refine qag ?_ _));refine blk_put (cs := #[.int .i64 x121000_5,.string (⟨#[]⟩ : ByteArray),.string (⟨#[]⟩ : ByteArray)]) ?_ 1 _ rfl;(with_reducible repeat (first|refine qah ?_ _|refine qai ?_|refine qag ?_ _));exact BK120.out⟩
           have n2_ : Aside0 (Below w.heap.size w (wc.setCell ⟨gb120,1,none⟩ (.string x5_5))) := ⟨by repeat (first|(with_reducible first|exact HB.out|apply qab|apply qaa|apply qac|refine qaf ?_ GE119.out|refine qaf ?_ GE120.out)|exact HB.out)⟩
           (try clear BK119)
           (try clear BK120)
           (try clear HB)
           generalize (wc.setCell ⟨gb120,1,none⟩ (.string x5_5)) = w48 at n0_ n1_ n2_ ⊢
           have BK119 := n0_
           have BK120 := n1_
           have HB := n2_
           clear n0_ n1_ n2_
           (try (rw [drewN_self w48];generalize hq_ : World.drewN w48 _ = w48;have n0_ : Aside0 (w48.heap[gb119]? = some (.cells #[.int .i64 x120000_5,.string x120001_5,.string x120002_5] 128 (0,0))) := ⟨by rw [← hq_];exact (by (with_reducible repeat (first|refine qah ?_ _|refine qai ?_|refine qag ?_ _));exact BK119.out)⟩;have n1_ : Aside0 (w48.heap[gb120]? = some (.cells #[.int .i64 x121000_5,.string x5_5,.string (⟨#[]⟩ : ByteArray)] 128 (0,0))) := ⟨by rw [← hq_];exact (by (with_reducible repeat (first|refine qah ?_ _|refine qai ?_|refine qag ?_ _));exact BK120.out)⟩;have n2_ : Aside0 (Below w.heap.size w w48) := ⟨by rw [← hq_];exact (by repeat (first|(with_reducible first|exact HB.out|apply qab|apply qaa|apply qac|refine qaf ?_ GE119.out|refine qaf ?_ GE120.out)|exact HB.out))⟩;clear BK119 BK120 HB hq_;have BK119 := n0_;have BK120 := n1_;have HB := n2_;clear n0_ n1_ n2_))
           have n0_ := Aside0.mk (qai BK119.out)
           have n1_ := Aside0.mk (qai BK120.out)
           have n2_ := Aside0.mk (qac HB.out)
           clear BK119
           clear BK120
           clear HB
           have BK119 := n0_
           have BK120 := n1_
           have HB := n2_
           clear n0_ n1_ n2_
           refine start_ (n := 11) (S := fun w' => True) (ds := []) #[false,false,false,false,false,false,false,false,false,false,false] (by kernel_rfl) rfl rfl trivial (fun hHeld => ?_);refine with_tabW version_Parse.tab14 version_Parse.bits14 (fun HT_ HW_ => ?_)
           generalize w48.drew = w49 at BK119 BK120 HB hHeld ⊢
           refine pure_ (i := 0) (N := some 51) (v := ?_) (a' := ?_) #[true,false,false,false,false,false,false,false,false,false,false] rfl rfl (any_of HT_.out (by kernel_rfl)) (fun _ _ _ h => h) (Or.inl ⟨by rfl,?_⟩) ?_ ?_
           rotate_left
           ·intro w'
            go_simp
            with_reducible rfl
           rotate_left
           ·simp only [Act.put,List.setIfInBounds_toArray,List.set_cons_zero,List.set_cons_succ,i64_w,i32_w]
            rfl
           refine pure_ (i := 1) (N := some 52) (v := ?_) (a' := ?_) #[true,true,false,false,false,false,false,false,false,false,false] rfl rfl (any_of HT_.out (by kernel_rfl)) (fun _ _ _ h => h) (Or.inl ⟨by rfl,?_⟩) ?_ ?_
           rotate_left
           ·intro w'
            go_simp
            with_reducible rfl
           rotate_left
           ·simp only [Act.put,List.setIfInBounds_toArray,List.set_cons_zero,List.set_cons_succ,i64_w,i32_w]
            rfl
           refine pure_ (i := 2) (N := some 53) (v := ?_) (a' := ?_) #[true,true,true,false,false,false,false,false,false,false,false] rfl rfl (any_of HT_.out (by kernel_rfl)) (fun _ _ _ h => h) (Or.inl ⟨by rfl,?_⟩) ?_ ?_
           rotate_left
           ·intro w'
            go_simp
            with_reducible rfl
           rotate_left
           ·simp only [Act.put,List.setIfInBounds_toArray,List.set_cons_zero,List.set_cons_succ,i64_w,i32_w]
            rfl
           refine pure_ (i := 3) (N := some 54) (v := ?_) (a' := ?_) #[true,true,true,true,false,false,false,false,false,false,false] rfl rfl (any_of HT_.out (by kernel_rfl)) (fun _ _ _ h => h) (Or.inl ⟨by rfl,?_⟩) ?_ ?_
           rotate_left
           ·intro w'
            go_simp
            with_reducible rfl
           rotate_left
           ·simp only [Act.put,List.setIfInBounds_toArray,List.set_cons_zero,List.set_cons_succ,i64_w,i32_w]
            rfl
           refine pure_ (i := 4) (N := some 55) (v := ?_) (a' := ?_) #[true,true,true,true,true,false,false,false,false,false,false] rfl rfl (any_of HT_.out (by kernel_rfl)) (fun _ _ _ h => h) (Or.inl ⟨by rfl,?_⟩) ?_ ?_
           rotate_left
           ·intro w'
            go_simp
            with_reducible rfl
           rotate_left
           ·simp only [Act.put,List.setIfInBounds_toArray,List.set_cons_zero,List.set_cons_succ,i64_w,i32_w]
            rfl
           refine pure_ (i := 5) (N := some 56) (v := ?_) (a' := ?_) #[true,true,true,true,true,true,false,false,false,false,false] rfl rfl (any_of HT_.out (by kernel_rfl)) (fun _ _ _ h => h) (Or.inl ⟨by rfl,?_⟩) ?_ ?_
           rotate_left
           ·intro w'
            go_simp
            with_reducible rfl
           rotate_left
           ·simp only [Act.put,List.setIfInBounds_toArray,List.set_cons_zero,List.set_cons_succ,i64_w,i32_w]
            rfl
           refine pure_ (i := 6) (N := some 57) (v := ?_) (a' := ?_) #[true,true,true,true,true,true,true,false,false,false,false] rfl rfl (any_of HT_.out (by kernel_rfl)) (fun _ _ _ h => h) (Or.inl ⟨by rfl,?_⟩) ?_ ?_
           rotate_left
           ·intro w'
            go_simp
            with_reducible rfl
           rotate_left
           ·simp only [Act.put,List.setIfInBounds_toArray,List.set_cons_zero,List.set_cons_succ,i64_w,i32_w]
            rfl
           refine pure_ (i := 7) (N := some 58) (v := ?_) (a' := ?_) #[true,true,true,true,true,true,true,true,false,false,false] rfl rfl (any_of HT_.out (by kernel_rfl)) (fun _ _ _ h => h) (Or.inl ⟨by rfl,?_⟩) ?_ ?_
           rotate_left
           ·intro w'
            go_simp
            with_reducible rfl
           rotate_left
           ·simp only [Act.put,List.setIfInBounds_toArray,List.set_cons_zero,List.set_cons_succ,i64_w,i32_w]
            rfl
           refine one_ (i := 8) (N := none) #[true,true,true,true,true,true,true,true,true,false,false] rfl rfl (one_of HT_.out (by kernel_rfl)) (by decide) (fun K hK => ?_)
           have hs50 : w49.cell? ⟨gb120,1,none⟩ = some (.string x5_5) := (qae BK120.out 1).trans rfl
           have hfs50 := qad BK120.out 1
           have hns50_0 := NB119_120.out
           have hms50_0 := NB120_119.out
           refine skip_ (w1 := ?_) (by rfl) rfl ?_ ?_
           rotate_left
           ·go_simp
            rfl
           refine hK.out _ _ trivial (fun hHeld => ?_)
           clear hK K
           refine pure_ (i := 9) (N := some 59) (v := ?_) (a' := ?_) #[true,true,true,true,true,true,true,true,true,true,false] rfl rfl (any_of HT_.out (by kernel_rfl)) (fun _ _ _ h => h) (Or.inl ⟨by rfl,?_⟩) ?_ ?_
           rotate_left
           ·intro w'
            go_simp
            with_reducible rfl
           rotate_left
           ·simp only [Act.put,List.setIfInBounds_toArray,List.set_cons_zero,List.set_cons_succ,i64_w,i32_w]
            rfl
           refine one_ (i := 10) (N := none) #[true,true,true,true,true,true,true,true,true,true,true] rfl rfl (one_of HT_.out (by kernel_rfl)) (by decide) (fun K hK => ?_)
           have hs51 : w49.cell? ⟨gb120,2,none⟩ = some (.string (⟨#[]⟩ : ByteArray)) := (qae BK120.out 2).trans rfl
           have hfs51 := qad BK120.out 2
           have hns51_0 := NB119_120.out
           have hms51_0 := NB120_119.out
           refine skip_ (w1 := ?_) (by rfl) rfl ?_ ?_
           rotate_left
           ·go_simp
            rfl
           refine hK.out _ _ trivial (fun hHeld => ?_)
           clear hK K
           refine done_ (done_of HT_.out (by kernel_rfl)) ?_
           have hcz52_0 : w49.cell? ⟨gb120,0,none⟩ = some (.int .i64 x121000_5) := (qae BK120.out 0).trans rfl
           have hcz52_1 : w49.cell? ⟨gb120,1,none⟩ = some (.string x5_5) := (qae BK120.out 1).trans rfl
           have hcz52_2 : w49.cell? ⟨gb120,2,none⟩ = some (.string (⟨#[]⟩ : ByteArray)) := (qae BK120.out 2).trans rfl
           have hfz52_0 := qad BK120.out 0
           have hfz52_1 := qad BK120.out 1
           have hfz52_2 := qad BK120.out 2
           try go_wp2_with (first|((with_reducible refine qal (f := 173) rfl ?_);refine goesL_ (some 65) rfl rfl Tryz.func173 (by kernel_rfl) rfl #[.agg #[.int .i64 x121000_5,.string (x5_5.extract 0 (t128 : Int).toNat),.string (x5_5.extract ((ji32) : Int).toNat x5_5.size)]] rfl (by (try simp only [List.map_toArray,List.map_cons,List.map_nil]);first|done|(simp only [hji32];rfl)|rfl|(simp only [List.length_drop,List.length_take];rfl)) ?_;(with_reducible refine (version_Right.calls kj5 x121000_5 (x5_5.extract 0 (t128 : Int).toNat) (x5_5.extract ((ji32) : Int).toNat x5_5.size) true _ (by first|exact hG|exact GL.below hG (by repeat (first|(with_reducible first|exact HB.out|apply qab|apply qaa|apply qac|refine qaf ?_ GE119.out|refine qaf ?_ GE120.out)|exact HB.out)))  A44.out).mono ?_);rintro e w53 ⟨rfl,hb⟩;refine ⟨_,rfl,?_⟩;have n0_ := Aside0.mk (qaq (g := gb119) (o := .cells #[.int .i64 x120000_5,.string x120001_5,.string x120002_5] 128 (0,0)) (by (with_reducible repeat (first|refine qah ?_ _|refine qai ?_|refine qag ?_ _));refine blk_far ?_ NB119_120.out _;(with_reducible repeat (first|refine qah ?_ _|refine qai ?_|refine qag ?_ _));refine blk_far ?_ NB119_120.out _;(with_reducible repeat (first|refine qah ?_ _|refine qai ?_|refine qag ?_ _));exact BK119.out) hb);have n1_ := Aside0.mk (qaq (g := gb120) (o := .cells #[.int .i64 x121000_5,.string (x5_5.extract 0 (t128 : Int).toNat),.string (x5_5.extract ((ji32) : Int).toNat x5_5.size)] 128 (0,0)) (by (with_reducible repeat (first|refine qah ?_ _|refine qai ?_|refine qag ?_ _));refine blk_put (cs := #[.int .i64 x121000_5,.string (x5_5.extract 0 (t128 : Int).toNat),.string (⟨#[]⟩ : ByteArray)]) ?_ 2 _ rfl;(with_reducible repeat (first|refine qah ?_ _|refine qai ?_|refine qag ?_ _));refine blk_put (cs := #[.int .i64 x121000_5,.string x5_5,.string (⟨#[]⟩ : ByteArray)]) ?_ 1 _ rfl;(with_reducible repeat (first|refine qah ?_ _|refine qai ?_|refine qag ?_ _));exact BK120.out) hb);have n2_ := Aside0.mk (qan (by repeat (first|(with_reducible first|exact HB.out|apply qab|apply qaa|apply qac|refine qaf ?_ GE119.out|refine qaf ?_ GE120.out)|exact HB.out)) hb);clear BK119;clear BK120;clear HB;have BK119 := n0_;have BK120 := n1_;have HB := n2_;clear n0_ n1_ n2_;(try clear hb);(try clear hb2);(try clear hk);(try clear hi);have hcz54_0 : w53.cell? ⟨gb120,0,none⟩ = some (.int .i64 x121000_5) := (qae BK120.out 0).trans rfl;have hcz54_1 : w53.cell? ⟨gb120,1,none⟩ = some (.string (x5_5.extract 0 (t128 : Int).toNat)) := (qae BK120.out 1).trans rfl;have hcz54_2 : w53.cell? ⟨gb120,2,none⟩ = some (.string (x5_5.extract ((ji32) : Int).toNat x5_5.size)) := (qae BK120.out 2).trans rfl;have hfz54_0 := qad BK120.out 0;have hfz54_1 := qad BK120.out 1;have hfz54_2 := qad BK120.out 2;have hcz55_0 : w53.cell? ⟨gb119,0,none⟩ = some (.int .i64 x120000_5) := (qae BK119.out 0).trans rfl;have hcz55_1 : w53.cell? ⟨gb119,1,none⟩ = some (.string x120001_5) := (qae BK119.out 1).trans rfl;have hcz55_2 : w53.cell? ⟨gb119,2,none⟩ = some (.string x120002_5) := (qae BK119.out 2).trans rfl;have hfz55_0 := qad BK119.out 0;have hfz55_1 := qad BK119.out 1;have hfz55_2 := qad BK119.out 2))
           refine bodyPost_ret (results_ct rfl _ _ gb119 128 #[.int .i64 x121000_5,.string (x5_5.extract 0 (t128 : Int).toNat),.string (x5_5.extract ((ji32) : Int).toNat x5_5.size)] (0,0) _ rfl (by (with_reducible repeat (first|refine qah ?_ _|refine qai ?_|refine qag ?_ _));refine blk_put (cs := #[.int .i64 x121000_5,.string (x5_5.extract 0 (t128 : Int).toNat),.string x120002_5]) ?_ 2 _ rfl;(with_reducible repeat (first|refine qah ?_ _|refine qai ?_|refine qag ?_ _));refine blk_put (cs := #[.int .i64 x121000_5,.string x120001_5,.string x120002_5]) ?_ 1 _ rfl;(with_reducible repeat (first|refine qah ?_ _|refine qai ?_|refine qag ?_ _));refine blk_put (cs := #[.int .i64 x120000_5,.string x120001_5,.string x120002_5]) ?_ 0 _ rfl;(with_reducible repeat (first|refine qah ?_ _|refine qai ?_|refine qag ?_ _));exact BK119.out) Tryz.underlying128 rfl (by kernel_rfl)) rfl ?_
           exact ⟨by first|rfl|(simp [qaj,qak]<;>rfl)|(simp only [← hji32];first|rfl|(simp [qaj,qak]<;>rfl))|(simp [*,qaj,qak]<;>rfl),by repeat (first|(with_reducible first|exact HB.out|apply qab|apply qaa|apply qac|refine qaf ?_ GE119.out|refine qaf ?_ GE120.out)|exact HB.out)⟩
          ·replace c45 := Bool.eq_false_iff.mpr c45
           subst c45
           have H1 : (some (0,(⟨#[]⟩ : ByteArray),(⟨#[]⟩ : ByteArray),4)) = some (r1,r2,r3,r4) := by rw [if_neg (show ¬ (false = true) by decide)] at H;exact H
           clear H
           have H := H1
           clear H1
           simp only [Option.some.injEq,Prod.mk.injEq] at H
           obtain ⟨rfl,rfl,rfl,rfl⟩ := H
           have hnb56 := NB120_119.out
           have hnc56 := NB119_120.out
           have hcz57_0 : wc.cell? ⟨gb120,0,none⟩ = some (.int .i64 x121000_5) := (qae BK120.out 0).trans rfl
           have hcz57_1 : wc.cell? ⟨gb120,1,none⟩ = some (.string (⟨#[]⟩ : ByteArray)) := (qae BK120.out 1).trans rfl
           have hcz57_2 : wc.cell? ⟨gb120,2,none⟩ = some (.string (⟨#[]⟩ : ByteArray)) := (qae BK120.out 2).trans rfl
           have hfz57_0 := qad BK120.out 0
           have hfz57_1 := qad BK120.out 1
           have hfz57_2 := qad BK120.out 2
           try go_wp2_with (first|((with_reducible refine qal (f := 172) rfl ?_);refine goesL_ (some 48) rfl rfl Tryz.func172 (by kernel_rfl) rfl #[.string x5_5,.int .u8 45] rfl (by first|rfl|(simp only [List.map_toArray,List.map_cons,List.map_nil,List.length_drop,List.length_take];rfl)|simp only [List.map_toArray,List.map_cons,List.map_nil]) ?_;(with_reducible refine (strings_LastIndexByte.calls x5_5 45 t128 _ (by first|exact hG|exact GL.below hG (by repeat (first|(with_reducible first|exact HB.out|apply qab|apply qaa|apply qac|refine qaf ?_ GE119.out|refine qaf ?_ GE120.out)|exact HB.out)))  A28.out).mono ?_);rintro e w' ⟨rfl,⟨nd,rfl⟩⟩;refine ⟨_,rfl,?_⟩))
           have n0_ : Aside0 ((wc.setCell ⟨gb120,1,none⟩ (.string x5_5)).heap[gb119]? = some (.cells #[.int .i64 x120000_5,.string x120001_5,.string x120002_5] 128 (0,0))) := ⟨by (with_reducible repeat (first|refine qah ?_ _|refine qai ?_|refine qag ?_ _));refine blk_far ?_ NB119_120.out _;(with_reducible repeat (first|refine qah ?_ _|refine qai ?_|refine qag ?_ _));exact BK119.out⟩
           have n1_ : Aside0 ((wc.setCell ⟨gb120,1,none⟩ (.string x5_5)).heap[gb120]? = some (.cells #[.int .i64 x121000_5,.string x5_5,.string (⟨#[]⟩ : ByteArray)] 128 (0,0))) := ⟨by (with_reducible repeat (first|refine qah ?_ _|refine qai ?_|refine qag ?_ _));refine blk_put (cs := #[.int .i64 x121000_5,.string (⟨#[]⟩ : ByteArray),.string (⟨#[]⟩ : ByteArray)]) ?_ 1 _ rfl;(with_reducible repeat (first|refine qah ?_ _|refine qai ?_|refine qag ?_ _));exact BK120.out⟩
           have n2_ : Aside0 (Below w.heap.size w (wc.setCell ⟨gb120,1,none⟩ (.string x5_5))) := ⟨by repeat (first|(with_reducible first|exact HB.out|apply qab|apply qaa|apply qac|refine qaf ?_ GE119.out|refine qaf ?_ GE120.out)|exact HB.out)⟩
           (try clear BK119)
           (try clear BK120)
           (try clear HB)
           generalize (wc.setCell ⟨gb120,1,none⟩ (.string x5_5)) = w58 at n0_ n1_ n2_ ⊢
           have BK119 := n0_
           have BK120 := n1_
           have HB := n2_
           clear n0_ n1_ n2_
           (try (rw [drewN_self w58];generalize hq_ : World.drewN w58 _ = w58;have n0_ : Aside0 (w58.heap[gb119]? = some (.cells #[.int .i64 x120000_5,.string x120001_5,.string x120002_5] 128 (0,0))) := ⟨by rw [← hq_];exact (by (with_reducible repeat (first|refine qah ?_ _|refine qai ?_|refine qag ?_ _));exact BK119.out)⟩;have n1_ : Aside0 (w58.heap[gb120]? = some (.cells #[.int .i64 x121000_5,.string x5_5,.string (⟨#[]⟩ : ByteArray)] 128 (0,0))) := ⟨by rw [← hq_];exact (by (with_reducible repeat (first|refine qah ?_ _|refine qai ?_|refine qag ?_ _));exact BK120.out)⟩;have n2_ : Aside0 (Below w.heap.size w w58) := ⟨by rw [← hq_];exact (by repeat (first|(with_reducible first|exact HB.out|apply qab|apply qaa|apply qac|refine qaf ?_ GE119.out|refine qaf ?_ GE120.out)|exact HB.out))⟩;clear BK119 BK120 HB hq_;have BK119 := n0_;have BK120 := n1_;have HB := n2_;clear n0_ n1_ n2_))
           have n0_ := Aside0.mk (qai BK119.out)
           have n1_ := Aside0.mk (qai BK120.out)
           have n2_ := Aside0.mk (qac HB.out)
           clear BK119
           clear BK120
           clear HB
           have BK119 := n0_
           have BK120 := n1_
           have HB := n2_
           clear n0_ n1_ n2_
           refine start_ (n := 11) (S := fun w' => True) (ds := []) #[false,false,false,false,false,false,false,false,false,false,false] (by kernel_rfl) rfl rfl trivial (fun hHeld => ?_);refine with_tabW version_Parse.tab14 version_Parse.bits14 (fun HT_ HW_ => ?_)
           generalize w58.drew = w59 at BK119 BK120 HB hHeld ⊢
           refine pure_ (i := 0) (N := some 51) (v := ?_) (a' := ?_) #[true,false,false,false,false,false,false,false,false,false,false] rfl rfl (any_of HT_.out (by kernel_rfl)) (fun _ _ _ h => h) (Or.inl ⟨by rfl,?_⟩) ?_ ?_
           rotate_left
           ·intro w'
            go_simp
            with_reducible rfl
           rotate_left
           ·simp only [Act.put,List.setIfInBounds_toArray,List.set_cons_zero,List.set_cons_succ,i64_w,i32_w]
            rfl
           refine pure_ (i := 1) (N := some 52) (v := ?_) (a' := ?_) #[true,true,false,false,false,false,false,false,false,false,false] rfl rfl (any_of HT_.out (by kernel_rfl)) (fun _ _ _ h => h) (Or.inl ⟨by rfl,?_⟩) ?_ ?_
           rotate_left
           ·intro w'
            go_simp
            with_reducible rfl
           rotate_left
           ·simp only [Act.put,List.setIfInBounds_toArray,List.set_cons_zero,List.set_cons_succ,i64_w,i32_w]
            rfl
           refine pure_ (i := 2) (N := some 53) (v := ?_) (a' := ?_) #[true,true,true,false,false,false,false,false,false,false,false] rfl rfl (any_of HT_.out (by kernel_rfl)) (fun _ _ _ h => h) (Or.inl ⟨by rfl,?_⟩) ?_ ?_
           rotate_left
           ·intro w'
            go_simp
            with_reducible rfl
           rotate_left
           ·simp only [Act.put,List.setIfInBounds_toArray,List.set_cons_zero,List.set_cons_succ,i64_w,i32_w]
            rfl
           refine pure_ (i := 3) (N := some 54) (v := ?_) (a' := ?_) #[true,true,true,true,false,false,false,false,false,false,false] rfl rfl (any_of HT_.out (by kernel_rfl)) (fun _ _ _ h => h) (Or.inl ⟨by rfl,?_⟩) ?_ ?_
           rotate_left
           ·intro w'
            go_simp
            with_reducible rfl
           rotate_left
           ·simp only [Act.put,List.setIfInBounds_toArray,List.set_cons_zero,List.set_cons_succ,i64_w,i32_w]
            rfl
           refine pure_ (i := 4) (N := some 55) (v := ?_) (a' := ?_) #[true,true,true,true,true,false,false,false,false,false,false] rfl rfl (any_of HT_.out (by kernel_rfl)) (fun _ _ _ h => h) (Or.inl ⟨by rfl,?_⟩) ?_ ?_
           rotate_left
           ·intro w'
            go_simp
            with_reducible rfl
           rotate_left
           ·simp only [Act.put,List.setIfInBounds_toArray,List.set_cons_zero,List.set_cons_succ,i64_w,i32_w]
            rfl
           refine pure_ (i := 5) (N := some 56) (v := ?_) (a' := ?_) #[true,true,true,true,true,true,false,false,false,false,false] rfl rfl (any_of HT_.out (by kernel_rfl)) (fun _ _ _ h => h) (Or.inl ⟨by rfl,?_⟩) ?_ ?_
           rotate_left
           ·intro w'
            go_simp
            with_reducible rfl
           rotate_left
           ·simp only [Act.put,List.setIfInBounds_toArray,List.set_cons_zero,List.set_cons_succ,i64_w,i32_w]
            rfl
           refine pure_ (i := 6) (N := some 57) (v := ?_) (a' := ?_) #[true,true,true,true,true,true,true,false,false,false,false] rfl rfl (any_of HT_.out (by kernel_rfl)) (fun _ _ _ h => h) (Or.inl ⟨by rfl,?_⟩) ?_ ?_
           rotate_left
           ·intro w'
            go_simp
            with_reducible rfl
           rotate_left
           ·simp only [Act.put,List.setIfInBounds_toArray,List.set_cons_zero,List.set_cons_succ,i64_w,i32_w]
            rfl
           refine pure_ (i := 7) (N := some 58) (v := ?_) (a' := ?_) #[true,true,true,true,true,true,true,true,false,false,false] rfl rfl (any_of HT_.out (by kernel_rfl)) (fun _ _ _ h => h) (Or.inl ⟨by rfl,?_⟩) ?_ ?_
           rotate_left
           ·intro w'
            go_simp
            with_reducible rfl
           rotate_left
           ·simp only [Act.put,List.setIfInBounds_toArray,List.set_cons_zero,List.set_cons_succ,i64_w,i32_w]
            rfl
           refine one_ (i := 8) (N := none) #[true,true,true,true,true,true,true,true,true,false,false] rfl rfl (one_of HT_.out (by kernel_rfl)) (by decide) (fun K hK => ?_)
           have hs60 : w59.cell? ⟨gb120,1,none⟩ = some (.string x5_5) := (qae BK120.out 1).trans rfl
           have hfs60 := qad BK120.out 1
           have hns60_0 := NB119_120.out
           have hms60_0 := NB120_119.out
           refine skip_ (w1 := ?_) (by rfl) rfl ?_ ?_
           rotate_left
           ·go_simp
            rfl
           refine hK.out _ _ trivial (fun hHeld => ?_)
           clear hK K
           refine pure_ (i := 9) (N := some 59) (v := ?_) (a' := ?_) #[true,true,true,true,true,true,true,true,true,true,false] rfl rfl (any_of HT_.out (by kernel_rfl)) (fun _ _ _ h => h) (Or.inl ⟨by rfl,?_⟩) ?_ ?_
           rotate_left
           ·intro w'
            go_simp
            with_reducible rfl
           rotate_left
           ·simp only [Act.put,List.setIfInBounds_toArray,List.set_cons_zero,List.set_cons_succ,i64_w,i32_w]
            rfl
           refine one_ (i := 10) (N := none) #[true,true,true,true,true,true,true,true,true,true,true] rfl rfl (one_of HT_.out (by kernel_rfl)) (by decide) (fun K hK => ?_)
           have hs61 : w59.cell? ⟨gb120,2,none⟩ = some (.string (⟨#[]⟩ : ByteArray)) := (qae BK120.out 2).trans rfl
           have hfs61 := qad BK120.out 2
           have hns61_0 := NB119_120.out
           have hms61_0 := NB120_119.out
           refine skip_ (w1 := ?_) (by rfl) rfl ?_ ?_
           rotate_left
           ·go_simp
            rfl
           refine hK.out _ _ trivial (fun hHeld => ?_)
           clear hK K
           refine done_ (done_of HT_.out (by kernel_rfl)) ?_
           have hcz62_0 : w59.cell? ⟨gb120,0,none⟩ = some (.int .i64 x121000_5) := (qae BK120.out 0).trans rfl
           have hcz62_1 : w59.cell? ⟨gb120,1,none⟩ = some (.string x5_5) := (qae BK120.out 1).trans rfl
           have hcz62_2 : w59.cell? ⟨gb120,2,none⟩ = some (.string (⟨#[]⟩ : ByteArray)) := (qae BK120.out 2).trans rfl
           have hfz62_0 := qad BK120.out 0
           have hfz62_1 := qad BK120.out 1
           have hfz62_2 := qad BK120.out 2
           try go_wp2_with (first|((with_reducible refine qal (f := 173) rfl ?_);refine goesL_ (some 65) rfl rfl Tryz.func173 (by kernel_rfl) rfl #[.agg #[.int .i64 x121000_5,.string (x5_5.extract 0 (t128 : Int).toNat),.string (x5_5.extract ((ji32) : Int).toNat x5_5.size)]] rfl (by (try simp only [List.map_toArray,List.map_cons,List.map_nil]);first|done|(simp only [hji32];rfl)|rfl|(simp only [List.length_drop,List.length_take];rfl)) ?_;(with_reducible refine (version_Right.calls kj5 x121000_5 (x5_5.extract 0 (t128 : Int).toNat) (x5_5.extract ((ji32) : Int).toNat x5_5.size) false _ (by first|exact hG|exact GL.below hG (by repeat (first|(with_reducible first|exact HB.out|apply qab|apply qaa|apply qac|refine qaf ?_ GE119.out|refine qaf ?_ GE120.out)|exact HB.out)))  A44.out).mono ?_);rintro e w63 ⟨rfl,hb⟩;refine ⟨_,rfl,?_⟩;have n0_ := Aside0.mk (qaq (g := gb119) (o := .cells #[.int .i64 x120000_5,.string x120001_5,.string x120002_5] 128 (0,0)) (by (with_reducible repeat (first|refine qah ?_ _|refine qai ?_|refine qag ?_ _));refine blk_far ?_ NB119_120.out _;(with_reducible repeat (first|refine qah ?_ _|refine qai ?_|refine qag ?_ _));refine blk_far ?_ NB119_120.out _;(with_reducible repeat (first|refine qah ?_ _|refine qai ?_|refine qag ?_ _));exact BK119.out) hb);have n1_ := Aside0.mk (qaq (g := gb120) (o := .cells #[.int .i64 x121000_5,.string (x5_5.extract 0 (t128 : Int).toNat),.string (x5_5.extract ((ji32) : Int).toNat x5_5.size)] 128 (0,0)) (by (with_reducible repeat (first|refine qah ?_ _|refine qai ?_|refine qag ?_ _));refine blk_put (cs := #[.int .i64 x121000_5,.string (x5_5.extract 0 (t128 : Int).toNat),.string (⟨#[]⟩ : ByteArray)]) ?_ 2 _ rfl;(with_reducible repeat (first|refine qah ?_ _|refine qai ?_|refine qag ?_ _));refine blk_put (cs := #[.int .i64 x121000_5,.string x5_5,.string (⟨#[]⟩ : ByteArray)]) ?_ 1 _ rfl;(with_reducible repeat (first|refine qah ?_ _|refine qai ?_|refine qag ?_ _));exact BK120.out) hb);have n2_ := Aside0.mk (qan (by repeat (first|(with_reducible first|exact HB.out|apply qab|apply qaa|apply qac|refine qaf ?_ GE119.out|refine qaf ?_ GE120.out)|exact HB.out)) hb);clear BK119;clear BK120;clear HB;have BK119 := n0_;have BK120 := n1_;have HB := n2_;clear n0_ n1_ n2_;(try clear hb);(try clear hb2);(try clear hk);(try clear hi);have hcz64_0 : w63.cell? ⟨gb119,0,none⟩ = some (.int .i64 x120000_5) := (qae BK119.out 0).trans rfl;have hcz64_1 : w63.cell? ⟨gb119,1,none⟩ = some (.string x120001_5) := (qae BK119.out 1).trans rfl;have hcz64_2 : w63.cell? ⟨gb119,2,none⟩ = some (.string x120002_5) := (qae BK119.out 2).trans rfl;have hfz64_0 := qad BK119.out 0;have hfz64_1 := qad BK119.out 1;have hfz64_2 := qad BK119.out 2))
           refine bodyPost_ret (results_ct rfl _ _ gb119 128 #[.int .i64 0,.string (⟨#[]⟩ : ByteArray),.string (⟨#[]⟩ : ByteArray)] (0,0) _ rfl (by (with_reducible repeat (first|refine qah ?_ _|refine qai ?_|refine qag ?_ _));refine blk_put (cs := #[.int .i64 0,.string (⟨#[]⟩ : ByteArray),.string x120002_5]) ?_ 2 _ rfl;(with_reducible repeat (first|refine qah ?_ _|refine qai ?_|refine qag ?_ _));refine blk_put (cs := #[.int .i64 0,.string x120001_5,.string x120002_5]) ?_ 1 _ rfl;(with_reducible repeat (first|refine qah ?_ _|refine qai ?_|refine qag ?_ _));refine blk_put (cs := #[.int .i64 x120000_5,.string x120001_5,.string x120002_5]) ?_ 0 _ rfl;(with_reducible repeat (first|refine qah ?_ _|refine qai ?_|refine qag ?_ _));exact BK119.out) Tryz.underlying128 rfl (by kernel_rfl)) rfl ?_
           exact ⟨by first|rfl|(simp [qaj,qak]<;>rfl)|(simp only [← hji32];first|rfl|(simp [qaj,qak]<;>rfl))|(simp [*,qaj,qak]<;>rfl),by repeat (first|(with_reducible first|exact HB.out|apply qab|apply qaa|apply qac|refine qaf ?_ GE119.out|refine qaf ?_ GE120.out)|exact HB.out)⟩
        ·rw [if_neg c34] at H
         exact absurd H (by simp)
       ·rw [if_neg c33] at H
        exact absurd H (by simp)
      ·rw [if_neg c31] at H
       exact absurd H (by simp)
     ·rw [if_neg c30] at H
      exact absurd H (by simp)
    ·rw [if_neg c29] at H
     have c29b0 : decide (0 ≤ t128) = false := decide_eq_false c29
     clear c29
     replace H := Option.bind_eq_some_iff.mp H
     obtain ⟨t130,A650,H⟩ := H
     replace H : (if t130 = true then (some (x121000_5,x5_5,(⟨#[]⟩ : ByteArray),0)) else (some (0,(⟨#[]⟩ : ByteArray),(⟨#[]⟩ : ByteArray),4))) = some (r1,r2,r3,r4) := H
     have A65 := Aside0.mk A650
     clear A650
     by_cases c66 : t130 = true
     ·subst c66
      have H1 : (some (x121000_5,x5_5,(⟨#[]⟩ : ByteArray),0)) = some (r1,r2,r3,r4) := by rw [if_pos rfl] at H;exact H
      clear H
      have H := H1
      clear H1
      simp only [Option.some.injEq,Prod.mk.injEq] at H
      obtain ⟨rfl,rfl,rfl,rfl⟩ := H
      have hnb67 := NB120_119.out
      have hnc67 := NB119_120.out
      have hcz68_0 : wc.cell? ⟨gb120,0,none⟩ = some (.int .i64 x121000_5) := (qae BK120.out 0).trans rfl
      have hcz68_1 : wc.cell? ⟨gb120,1,none⟩ = some (.string (⟨#[]⟩ : ByteArray)) := (qae BK120.out 1).trans rfl
      have hcz68_2 : wc.cell? ⟨gb120,2,none⟩ = some (.string (⟨#[]⟩ : ByteArray)) := (qae BK120.out 2).trans rfl
      have hfz68_0 := qad BK120.out 0
      have hfz68_1 := qad BK120.out 1
      have hfz68_2 := qad BK120.out 2
      go_wp2_with (first|((with_reducible refine qal (f := 172) rfl ?_);refine goesL_ (some 48) rfl rfl Tryz.func172 (by kernel_rfl) rfl #[.string x5_5,.int .u8 45] rfl (by first|rfl|(simp only [List.map_toArray,List.map_cons,List.map_nil,List.length_drop,List.length_take];rfl)|simp only [List.map_toArray,List.map_cons,List.map_nil]) ?_;(with_reducible refine (strings_LastIndexByte.calls x5_5 45 t128 _ (by first|exact hG|exact GL.below hG (by repeat (first|(with_reducible first|exact HB.out|apply qab|apply qaa|apply qac|refine qaf ?_ GE119.out|refine qaf ?_ GE120.out)|exact HB.out)))  A28.out).mono ?_);rintro e w' ⟨rfl,⟨nd,rfl⟩⟩;refine ⟨_,rfl,?_⟩)|((with_reducible refine qal (f := 173) rfl ?_);refine goesL_ (some 65) rfl rfl Tryz.func173 (by kernel_rfl) rfl #[.agg #[.int .i64 x121000_5,.string x5_5,.string (⟨#[]⟩ : ByteArray)]] rfl (by first|rfl|(simp only [List.map_toArray,List.map_cons,List.map_nil,List.length_drop,List.length_take];rfl)|simp only [List.map_toArray,List.map_cons,List.map_nil]) ?_;(with_reducible refine (version_Right.calls kj5 x121000_5 x5_5 (⟨#[]⟩ : ByteArray) true _ (by first|exact hG|exact GL.below hG (by repeat (first|(with_reducible first|exact HB.out|apply qab|apply qaa|apply qac|refine qaf ?_ GE119.out|refine qaf ?_ GE120.out)|exact HB.out)))  A65.out).mono ?_);rintro e w69 ⟨rfl,hb⟩;refine ⟨_,rfl,?_⟩;have n0_ := Aside0.mk (qaq (g := gb119) (o := .cells #[.int .i64 x120000_5,.string x120001_5,.string x120002_5] 128 (0,0)) (by (with_reducible repeat (first|refine qah ?_ _|refine qai ?_|refine qag ?_ _));refine blk_far ?_ NB119_120.out _;(with_reducible repeat (first|refine qah ?_ _|refine qai ?_|refine qag ?_ _));exact BK119.out) hb);have n1_ := Aside0.mk (qaq (g := gb120) (o := .cells #[.int .i64 x121000_5,.string x5_5,.string (⟨#[]⟩ : ByteArray)] 128 (0,0)) (by (with_reducible repeat (first|refine qah ?_ _|refine qai ?_|refine qag ?_ _));refine blk_put (cs := #[.int .i64 x121000_5,.string (⟨#[]⟩ : ByteArray),.string (⟨#[]⟩ : ByteArray)]) ?_ 1 _ rfl;(with_reducible repeat (first|refine qah ?_ _|refine qai ?_|refine qag ?_ _));exact BK120.out) hb);have n2_ := Aside0.mk (qan (by repeat (first|(with_reducible first|exact HB.out|apply qab|apply qaa|apply qac|refine qaf ?_ GE119.out|refine qaf ?_ GE120.out)|exact HB.out)) hb);clear BK119;clear BK120;clear HB;have BK119 := n0_;have BK120 := n1_;have HB := n2_;clear n0_ n1_ n2_;(try clear hb);(try clear hb2);(try clear hk);(try clear hi);have hcz70_0 : w69.cell? ⟨gb120,0,none⟩ = some (.int .i64 x121000_5) := (qae BK120.out 0).trans rfl;have hcz70_1 : w69.cell? ⟨gb120,1,none⟩ = some (.string x5_5) := (qae BK120.out 1).trans rfl;have hcz70_2 : w69.cell? ⟨gb120,2,none⟩ = some (.string (⟨#[]⟩ : ByteArray)) := (qae BK120.out 2).trans rfl;have hfz70_0 := qad BK120.out 0;have hfz70_1 := qad BK120.out 1;have hfz70_2 := qad BK120.out 2;have hcz71_0 : w69.cell? ⟨gb119,0,none⟩ = some (.int .i64 x120000_5) := (qae BK119.out 0).trans rfl;have hcz71_1 : w69.cell? ⟨gb119,1,none⟩ = some (.string x120001_5) := (qae BK119.out 1).trans rfl;have hcz71_2 : w69.cell? ⟨gb119,2,none⟩ = some (.string x120002_5) := (qae BK119.out 2).trans rfl;have hfz71_0 := qad BK119.out 0;have hfz71_1 := qad BK119.out 1;have hfz71_2 := qad BK119.out 2))
      refine bodyPost_ret (results_ct rfl _ _ gb119 128 #[.int .i64 x121000_5,.string x5_5,.string (⟨#[]⟩ : ByteArray)] (0,0) _ rfl (by (with_reducible repeat (first|refine qah ?_ _|refine qai ?_|refine qag ?_ _));refine blk_put (cs := #[.int .i64 x121000_5,.string x5_5,.string x120002_5]) ?_ 2 _ rfl;(with_reducible repeat (first|refine qah ?_ _|refine qai ?_|refine qag ?_ _));refine blk_put (cs := #[.int .i64 x121000_5,.string x120001_5,.string x120002_5]) ?_ 1 _ rfl;(with_reducible repeat (first|refine qah ?_ _|refine qai ?_|refine qag ?_ _));refine blk_put (cs := #[.int .i64 x120000_5,.string x120001_5,.string x120002_5]) ?_ 0 _ rfl;(with_reducible repeat (first|refine qah ?_ _|refine qai ?_|refine qag ?_ _));exact BK119.out) Tryz.underlying128 rfl (by kernel_rfl)) rfl ?_
      exact ⟨by first|rfl|(simp [qaj,qak]<;>rfl)|(simp [*,qaj,qak]<;>rfl),by repeat (first|(with_reducible first|exact HB.out|apply qab|apply qaa|apply qac|refine qaf ?_ GE119.out|refine qaf ?_ GE120.out)|exact HB.out)⟩
     ·replace c66 := Bool.eq_false_iff.mpr c66
      subst c66
      have H1 : (some (0,(⟨#[]⟩ : ByteArray),(⟨#[]⟩ : ByteArray),4)) = some (r1,r2,r3,r4) := by rw [if_neg (show ¬ (false = true) by decide)] at H;exact H
      clear H
      have H := H1
      clear H1
      simp only [Option.some.injEq,Prod.mk.injEq] at H
      obtain ⟨rfl,rfl,rfl,rfl⟩ := H
      have hnb72 := NB120_119.out
      have hnc72 := NB119_120.out
      have hcz73_0 : wc.cell? ⟨gb120,0,none⟩ = some (.int .i64 x121000_5) := (qae BK120.out 0).trans rfl
      have hcz73_1 : wc.cell? ⟨gb120,1,none⟩ = some (.string (⟨#[]⟩ : ByteArray)) := (qae BK120.out 1).trans rfl
      have hcz73_2 : wc.cell? ⟨gb120,2,none⟩ = some (.string (⟨#[]⟩ : ByteArray)) := (qae BK120.out 2).trans rfl
      have hfz73_0 := qad BK120.out 0
      have hfz73_1 := qad BK120.out 1
      have hfz73_2 := qad BK120.out 2
      go_wp2_with (first|((with_reducible refine qal (f := 172) rfl ?_);refine goesL_ (some 48) rfl rfl Tryz.func172 (by kernel_rfl) rfl #[.string x5_5,.int .u8 45] rfl (by first|rfl|(simp only [List.map_toArray,List.map_cons,List.map_nil,List.length_drop,List.length_take];rfl)|simp only [List.map_toArray,List.map_cons,List.map_nil]) ?_;(with_reducible refine (strings_LastIndexByte.calls x5_5 45 t128 _ (by first|exact hG|exact GL.below hG (by repeat (first|(with_reducible first|exact HB.out|apply qab|apply qaa|apply qac|refine qaf ?_ GE119.out|refine qaf ?_ GE120.out)|exact HB.out)))  A28.out).mono ?_);rintro e w' ⟨rfl,⟨nd,rfl⟩⟩;refine ⟨_,rfl,?_⟩)|((with_reducible refine qal (f := 173) rfl ?_);refine goesL_ (some 65) rfl rfl Tryz.func173 (by kernel_rfl) rfl #[.agg #[.int .i64 x121000_5,.string x5_5,.string (⟨#[]⟩ : ByteArray)]] rfl (by first|rfl|(simp only [List.map_toArray,List.map_cons,List.map_nil,List.length_drop,List.length_take];rfl)|simp only [List.map_toArray,List.map_cons,List.map_nil]) ?_;(with_reducible refine (version_Right.calls kj5 x121000_5 x5_5 (⟨#[]⟩ : ByteArray) false _ (by first|exact hG|exact GL.below hG (by repeat (first|(with_reducible first|exact HB.out|apply qab|apply qaa|apply qac|refine qaf ?_ GE119.out|refine qaf ?_ GE120.out)|exact HB.out)))  A65.out).mono ?_);rintro e w74 ⟨rfl,hb⟩;refine ⟨_,rfl,?_⟩;have n0_ := Aside0.mk (qaq (g := gb119) (o := .cells #[.int .i64 x120000_5,.string x120001_5,.string x120002_5] 128 (0,0)) (by (with_reducible repeat (first|refine qah ?_ _|refine qai ?_|refine qag ?_ _));refine blk_far ?_ NB119_120.out _;(with_reducible repeat (first|refine qah ?_ _|refine qai ?_|refine qag ?_ _));exact BK119.out) hb);have n1_ := Aside0.mk (qaq (g := gb120) (o := .cells #[.int .i64 x121000_5,.string x5_5,.string (⟨#[]⟩ : ByteArray)] 128 (0,0)) (by (with_reducible repeat (first|refine qah ?_ _|refine qai ?_|refine qag ?_ _));refine blk_put (cs := #[.int .i64 x121000_5,.string (⟨#[]⟩ : ByteArray),.string (⟨#[]⟩ : ByteArray)]) ?_ 1 _ rfl;(with_reducible repeat (first|refine qah ?_ _|refine qai ?_|refine qag ?_ _));exact BK120.out) hb);have n2_ := Aside0.mk (qan (by repeat (first|(with_reducible first|exact HB.out|apply qab|apply qaa|apply qac|refine qaf ?_ GE119.out|refine qaf ?_ GE120.out)|exact HB.out)) hb);clear BK119;clear BK120;clear HB;have BK119 := n0_;have BK120 := n1_;have HB := n2_;clear n0_ n1_ n2_;(try clear hb);(try clear hb2);(try clear hk);(try clear hi);have hcz75_0 : w74.cell? ⟨gb119,0,none⟩ = some (.int .i64 x120000_5) := (qae BK119.out 0).trans rfl;have hcz75_1 : w74.cell? ⟨gb119,1,none⟩ = some (.string x120001_5) := (qae BK119.out 1).trans rfl;have hcz75_2 : w74.cell? ⟨gb119,2,none⟩ = some (.string x120002_5) := (qae BK119.out 2).trans rfl;have hfz75_0 := qad BK119.out 0;have hfz75_1 := qad BK119.out 1;have hfz75_2 := qad BK119.out 2))
      refine bodyPost_ret (results_ct rfl _ _ gb119 128 #[.int .i64 0,.string (⟨#[]⟩ : ByteArray),.string (⟨#[]⟩ : ByteArray)] (0,0) _ rfl (by (with_reducible repeat (first|refine qah ?_ _|refine qai ?_|refine qag ?_ _));refine blk_put (cs := #[.int .i64 0,.string (⟨#[]⟩ : ByteArray),.string x120002_5]) ?_ 2 _ rfl;(with_reducible repeat (first|refine qah ?_ _|refine qai ?_|refine qag ?_ _));refine blk_put (cs := #[.int .i64 0,.string x120001_5,.string x120002_5]) ?_ 1 _ rfl;(with_reducible repeat (first|refine qah ?_ _|refine qai ?_|refine qag ?_ _));refine blk_put (cs := #[.int .i64 x120000_5,.string x120001_5,.string x120002_5]) ?_ 0 _ rfl;(with_reducible repeat (first|refine qah ?_ _|refine qai ?_|refine qag ?_ _));exact BK119.out) Tryz.underlying128 rfl (by kernel_rfl)) rfl ?_
      exact ⟨by first|rfl|(simp [qaj,qak]<;>rfl)|(simp [*,qaj,qak]<;>rfl),by repeat (first|(with_reducible first|exact HB.out|apply qab|apply qaa|apply qac|refine qaf ?_ GE119.out|refine qaf ?_ GE120.out)|exact HB.out)⟩
def cmp_Or_int.l0 : Nat → Int → List Int → Int → Int → Option (Int)
 | 0,_,_,_,_ => none
 | k + 1,x3,x6,x7,x8 => if x8 < x7 then (if 0 ≤ x8 then (if x8 < (x6.length : Int) then (if (rd x6 x8) = x3 then (cmp_Or_int.l0 k x3 x6 x7 (wrap64 (x8 + 1))) else (some (rd x6 x8))) else (none)) else (none)) else (some x3)
def cmp_Or_int.f (k : Nat) (l0 : List Int) : Option (Int) := cmp_Or_int.l0 k 0 l0 (l0.length : Int) 0
theorem cmp_Or_int.mono_l : ∀ k,(∀ y0 y1 y2 y3,LeO (cmp_Or_int.l0 k y0 y1 y2 y3) (cmp_Or_int.l0 (k + 1) y0 y1 y2 y3))
 | 0 => fun _ _ _ _ r h => by simp [cmp_Or_int.l0] at h
 | k + 1 => by
  have ih0 := cmp_Or_int.mono_l k
  ·intro y0 y1 y2 y3
   unfold cmp_Or_int.l0
   repeat' first
   | (with_reducible exact ih0 _ _ _ _)
   | (with_reducible exact LeO.refl _)
   | (with_reducible exact LeO.none _)
   | (with_reducible refine LeO.ite ?_ ?_)
   | (with_reducible refine LeO.bind ?_ (fun _ => ?_))
   | exact ih0 _ _ _ _
   | exact LeO.none _
   | refine LeO.ite ?_ ?_
   | refine LeO.bind ?_ (fun _ => ?_)
theorem cmp_Or_int.mono : ∀ a0 k,LeO (cmp_Or_int.f k a0) (cmp_Or_int.f (k + 1) a0) := by
 intro a0 k
 have ih0 := cmp_Or_int.mono_l k
 unfold cmp_Or_int.f
 repeat' first
   | (with_reducible exact ih0 _ _ _ _)
   | (with_reducible exact LeO.refl _)
   | (with_reducible exact LeO.none _)
   | (with_reducible refine LeO.ite ?_ ?_)
   | (with_reducible refine LeO.bind ?_ (fun _ => ?_))
   | exact ih0 _ _ _ _
   | exact LeO.none _
   | refine LeO.ite ?_ ?_
   | refine LeO.bind ?_ (fun _ => ?_)
theorem cmp_Or_int.calls (k : Nat) (A0 : Option Addr) (c0 : Nat) (l0 : List Int) (r : Int) (w : World) (hG : GL w) (hr0 : Kd.C (Kd.int .i64) w A0 l0.length l0) (hc0 : l0.length ≤ c0) (h : cmp_Or_int.f k l0 = some r) :
  Calls Tryz.prog 55 #[.slice A0 l0.length c0] w fun e w' => e = .returned (.int .i64 r) ∧ Drawn0 w w' := by
 have HR0 := Aside0.mk hr0
 have HC0 := Aside0.mk hc0
 clear hr0 hc0
 have H : (cmp_Or_int.l0 k 0 l0 (l0.length : Int) 0) = some r := h
 clear h
 have H' := Aside0.mk H
 clear H
 go_enter Tryz.func55,Tryz.ntmps55
 go_wp2
 go_loopg [8] k (fun kq v8 w' => ∃ (x8_1 : Int),v8 = .int .i64 x8_1 ∧ Aside0 (cmp_Or_int.l0 kq 0 l0 (l0.length : Int) x8_1 = some r) ∧ Aside0 (kq ≤ k) ∧ Drawn0 w w')
 case atStart => exact ⟨(0),(by first|rfl|(simp;done)|(simp [*];done)|(simp [qam];done)),H',⟨Nat.le_refl _⟩,by repeat (first|exact Drawn0.refl _|apply Drawn0.step)⟩
 case round =>
  clear H'
  obtain ⟨x8_1,rfl,HA,HK1,⟨m1,rfl⟩⟩ := hrel
  cases gk with
  | zero => exact absurd HA.out (by simp [cmp_Or_int.l0])
  | succ k1 =>
   have H := HA.out
   clear HA
   simp only [cmp_Or_int.l0] at H
   by_cases c2 : x8_1 < (l0.length : Int)
   ·rw [if_pos c2] at H
    have c2b0 : decide (x8_1 < (l0.length : Int)) = true := decide_eq_true c2
    clear c2
    by_cases c3 : 0 ≤ x8_1
    ·rw [if_pos c3] at H
     have c3b0 : decide (0 ≤ x8_1) = true := decide_eq_true c3
     clear c3
     by_cases c4 : x8_1 < (l0.length : Int)
     ·rw [if_pos c4] at H
      have c4b0 : decide (x8_1 < (l0.length : Int)) = true := decide_eq_true c4
      clear c4
      by_cases c5 : (rd l0 x8_1) = 0
      ·rw [if_pos c5] at H
       have c5b0 : ((rd l0 x8_1) == 0) = true := beq_iff_eq.mpr c5
       have c5b1 : ((rd l0 x8_1) != 0) = false := bne_eq_false_iff_eq.mpr c5
       clear c5
       have H' := Aside0.mk H
       clear H
       have p131 : 0 ≤ (x8_1 : Int) := of_decide_eq_true (by assumption)
       have q131 : x8_1 < (l0.length : Int) := of_decide_eq_true (by assumption)
       obtain ⟨ad131,e131,hx131_0⟩ := Kd.at_int HR0.out x8_1 p131 q131
       cases e131
       replace p131 := eq_true p131
       replace q131 := eq_true q131
       go_wp2
       go_roundg k1
       case measure => have := HK1.out;omega
       case rel => exact ⟨(wrap64 (x8_1 + 1)),(by first|rfl|(simp;done)|(simp [*];done)|(simp [qam];done)),H',⟨by have := HK1.out;omega⟩,by repeat (first|exact Drawn0.refl _|apply Drawn0.step)⟩
      ·rw [if_neg c5] at H
       have c5b0 : ((rd l0 x8_1) == 0) = false := beq_eq_false_iff_ne.mpr c5
       have c5b1 : ((rd l0 x8_1) != 0) = true := bne_iff_ne.mpr c5
       obtain rfl := Option.some.inj H
       have p131 : 0 ≤ (x8_1 : Int) := of_decide_eq_true (by assumption)
       have q131 : x8_1 < (l0.length : Int) := of_decide_eq_true (by assumption)
       obtain ⟨ad131,e131,hx131_0⟩ := Kd.at_int HR0.out x8_1 p131 q131
       cases e131
       replace p131 := eq_true p131
       replace q131 := eq_true q131
       go_wp2
       go_ret
       exact ⟨by first|rfl|(simp;done)|(simp [*];done)|(simp [qam];done),by repeat (first|exact Drawn0.refl _|apply Drawn0.step)⟩
     ·rw [if_neg c4] at H
      exact absurd H (by simp)
    ·rw [if_neg c3] at H
     exact absurd H (by simp)
   ·rw [if_neg c2] at H
    have c2b0 : decide (x8_1 < (l0.length : Int)) = false := decide_eq_false c2
    clear c2
    obtain rfl := Option.some.inj H
    go_wp2
    go_ret
    exact ⟨by first|rfl|(simp;done)|(simp [*];done)|(simp [qam];done),by repeat (first|exact Drawn0.refl _|apply Drawn0.step)⟩
def cmp_isNaN_int.f (a0 : Int) : Option (Bool) := some (a0 != a0)
theorem cmp_isNaN_int.calls (a0 : Int) (r : Bool) (w : World) (hG : GL w) (h : cmp_isNaN_int.f a0 = some r) :
  Calls Tryz.prog 239 #[.int .i64 a0] w fun e w' => e = .returned (.bool r) ∧ Drawn0 w w' := by
 have H : (some (a0 != a0)) = some r := h
 clear h
 obtain rfl := Option.some.inj H
 go_enter Tryz.func239,Tryz.ntmps239
 go_wp2
 go_ret
 exact ⟨by first|rfl|(simp;done)|(simp [*];done)|(simp [qam];done),by repeat (first|exact Drawn0.refl _|apply Drawn0.step)⟩
end Go.Proofs.YtooomjcdlfdnmaaGreatDoor.PA
