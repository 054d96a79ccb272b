
import Derived.Test.YtjbbgekkombpnaaGreatDoorPAx0
import Derived.Test.YtjbbgekkombpnaaGreatDoorPAx12
import Derived.Test.YtjbbgekkombpnaaGreatDoorPAx13
import Derived.Test.YtjbbgekkombpnaaGreatDoorPAx14
namespace Go.Proofs.YtjbbgekkombpnaaGreatDoor.PA
open Go.RowKit Go.Proofs.YtjbbgekkombpnaaGreatDoorW.PrintWords Go.Proofs.YtjbbgekkombpnaaGreatDoorW.PrintLast Go.Proofs.YtjbbgekkombpnaaGreatDoorW.PrintMore
attribute [local go_sem] max2_int min2_int max_two min_two max_three min_three max_four min_four
set_option maxHeartbeats 8000000
set_option maxRecDepth 100000
set_option linter.unusedVariables false
set_option linter.unusedSimpArgs false
mutual
def keelsonref2_Parse.j1 : Nat → ByteArray → Int → ByteArray → ByteArray → Option (Int × ByteArray × ByteArray × Int)
 | 0,_,_,_,_ => none
 | k + 1,x0,x272000,x272001,x272002 => keelsonref2_Parse.l1 k x0 (wrap64 ((x272001.size : Int) - 1)) x272000 x272001 x272002
def keelsonref2_Parse.j3 : Nat → ByteArray → Int → ByteArray → ByteArray → Option (Int × ByteArray × ByteArray × Int)
 | 0,_,_,_,_ => none
 | k + 1,x0,x272000,x272001,x272002 => (keelsonref2_Right.f k x272000 x272001 x272002).bind fun t273 => (if t273 = true then ((keelsonref2_text.f k x272000 x272001 x272002).bind fun t274 => (if t274.toList = x0.toList then (some (x272000,x272001,x272002,0)) else ((keelsonref2_text.f k x272000 x272001 x272002).bind fun t275 => (if 2 + t275.size ≤ 9223372036854775807 then (if ((⟨#[48,58]⟩ : ByteArray) ++ t275).toList = x0.toList then (some (x272000,x272001,x272002,0)) else (some (0,(⟨#[]⟩ : ByteArray),(⟨#[]⟩ : ByteArray),4))) else (none))))) else (some (0,(⟨#[]⟩ : ByteArray),(⟨#[]⟩ : ByteArray),4)))
def keelsonref2_Parse.l1 : Nat → ByteArray → Int → Int → ByteArray → ByteArray → Option (Int × ByteArray × ByteArray × Int)
 | 0,_,_,_,_,_ => none
 | k + 1,x0,x6,x272000,x272001,x272002 => if x6 ≥ 0 then (if 0 ≤ x6 then (if x6 < (x272001.size : Int) then (if (bt x272001 x6) = 45 then (if 0 ≤ (wrap64 (x6 + 1)) then (if (wrap64 (x6 + 1)) ≤ (x272001.size : Int) then (if x6 ≤ (x272001.size : Int) then (keelsonref2_Parse.j3 k x0 x272000 (x272001.extract 0 (x6 : Int).toNat) (x272001.extract ((wrap64 (x6 + 1)) : Int).toNat x272001.size)) else (none)) else (none)) else (none)) else (keelsonref2_Parse.l1 k x0 (wrap64 (x6 - 1)) x272000 x272001 x272002)) else (none)) else (none)) else (keelsonref2_Parse.j3 k x0 x272000 x272001 x272002)
def keelsonref2_Parse.l0 : Nat → ByteArray → Int → Int → ByteArray → ByteArray → Option (Int × ByteArray × ByteArray × Int)
 | 0,_,_,_,_,_ => none
 | k + 1,x0,x5,x272000,x272001,x272002 => if x5 < (x0.size : Int) then (if 0 ≤ x5 then (if (bt x0 x5) = 58 then (if x5 ≤ (x0.size : Int) then ((keelsonref2_number.f k (x0.extract 0 (x5 : Int).toNat)).bind fun t272 => (if 0 ≤ (wrap64 (x5 + 1)) then (if (wrap64 (x5 + 1)) ≤ (x0.size : Int) then (keelsonref2_Parse.j1 k x0 t272 (x0.extract ((wrap64 (x5 + 1)) : Int).toNat x0.size) x272002) else (none)) else (none))) else (none)) else (keelsonref2_Parse.l0 k x0 (wrap64 (x5 + 1)) x272000 x272001 x272002)) else (none)) else (keelsonref2_Parse.j1 k x0 x272000 x272001 x272002)
end
def keelsonref2_Parse.f (k : Nat) (a0 : ByteArray) : Option (Int × ByteArray × ByteArray × Int) := if (a0.size : Int) > 60 then (some (0,(⟨#[]⟩ : ByteArray),(⟨#[]⟩ : ByteArray),9)) else (keelsonref2_Parse.l0 k a0 0 0 a0 (⟨#[]⟩ : ByteArray))
theorem keelsonref2_Parse.mono_l : ∀ k,(∀ y0 y1 y2 y3,LeO (keelsonref2_Parse.j1 k y0 y1 y2 y3) (keelsonref2_Parse.j1 (k + 1) y0 y1 y2 y3)) ∧ (∀ y0 y1 y2 y3,LeO (keelsonref2_Parse.j3 k y0 y1 y2 y3) (keelsonref2_Parse.j3 (k + 1) y0 y1 y2 y3)) ∧ (∀ y0 y1 y2 y3 y4,LeO (keelsonref2_Parse.l1 k y0 y1 y2 y3 y4) (keelsonref2_Parse.l1 (k + 1) y0 y1 y2 y3 y4)) ∧ (∀ y0 y1 y2 y3 y4,LeO (keelsonref2_Parse.l0 k y0 y1 y2 y3 y4) (keelsonref2_Parse.l0 (k + 1) y0 y1 y2 y3 y4))
 | 0 => ⟨fun _ _ _ _ r h => by simp [keelsonref2_Parse.j1] at h,fun _ _ _ _ r h => by simp [keelsonref2_Parse.j3] at h,fun _ _ _ _ _ r h => by simp [keelsonref2_Parse.l1] at h,fun _ _ _ _ _ r h => by simp [keelsonref2_Parse.l0] at h⟩
 | k + 1 => by
  obtain ⟨ih0,ih1,ih2,ih3⟩ := keelsonref2_Parse.mono_l k
  refine ⟨?_,?_,?_,?_⟩
  ·intro y0 y1 y2 y3
   unfold keelsonref2_Parse.j1
   repeat' first
   | (with_reducible exact ih0 _ _ _ _)
   | (with_reducible exact ih1 _ _ _ _)
   | (with_reducible exact ih2 _ _ _ _ _)
   | (with_reducible exact ih3 _ _ _ _ _)
   | (with_reducible exact keelsonref2_Right.mono _ _ _ _)
   | (with_reducible exact keelsonref2_number.mono _ _)
   | (with_reducible exact keelsonref2_text.mono _ _ _ _)
   | (with_reducible exact LeO.refl _)
   | (with_reducible exact LeO.none _)
   | (with_reducible refine LeO.ite ?_ ?_)
   | (with_reducible refine LeO.bind ?_ (fun _ => ?_))
   | exact ih0 _ _ _ _
   | exact ih1 _ _ _ _
   | exact ih2 _ _ _ _ _
   | exact ih3 _ _ _ _ _
   | exact keelsonref2_Right.mono _ _ _ _
   | exact keelsonref2_number.mono _ _
   | exact keelsonref2_text.mono _ _ _ _
   | exact LeO.none _
   | refine LeO.ite ?_ ?_
   | refine LeO.bind ?_ (fun _ => ?_)
  ·intro y0 y1 y2 y3
   unfold keelsonref2_Parse.j3
   repeat' first
   | (with_reducible exact ih0 _ _ _ _)
   | (with_reducible exact ih1 _ _ _ _)
   | (with_reducible exact ih2 _ _ _ _ _)
   | (with_reducible exact ih3 _ _ _ _ _)
   | (with_reducible exact keelsonref2_Right.mono _ _ _ _)
   | (with_reducible exact keelsonref2_number.mono _ _)
   | (with_reducible exact keelsonref2_text.mono _ _ _ _)
   | (with_reducible exact LeO.refl _)
   | (with_reducible exact LeO.none _)
   | (with_reducible refine LeO.ite ?_ ?_)
   | (with_reducible refine LeO.bind ?_ (fun _ => ?_))
   | exact ih0 _ _ _ _
   | exact ih1 _ _ _ _
   | exact ih2 _ _ _ _ _
   | exact ih3 _ _ _ _ _
   | exact keelsonref2_Right.mono _ _ _ _
   | exact keelsonref2_number.mono _ _
   | exact keelsonref2_text.mono _ _ _ _
   | exact LeO.none _
   | refine LeO.ite ?_ ?_
   | refine LeO.bind ?_ (fun _ => ?_)
  ·intro y0 y1 y2 y3 y4
   unfold keelsonref2_Parse.l1
   repeat' first
   | (with_reducible exact ih0 _ _ _ _)
   | (with_reducible exact ih1 _ _ _ _)
   | (with_reducible exact ih2 _ _ _ _ _)
   | (with_reducible exact ih3 _ _ _ _ _)
   | (with_reducible exact keelsonref2_Right.mono _ _ _ _)
   | (with_reducible exact keelsonref2_number.mono _ _)
   | (with_reducible exact keelsonref2_text.mono _ _ _ _)
   | (with_reducible exact LeO.refl _)
   | (with_reducible exact LeO.none _)
   | (with_reducible refine LeO.ite ?_ ?_)
   | (with_reducible refine LeO.bind ?_ (fun _ => ?_))
   | exact ih0 _ _ _ _
   | exact ih1 _ _ _ _
   | exact ih2 _ _ _ _ _
   | exact ih3 _ _ _ _ _
   | exact keelsonref2_Right.mono _ _ _ _
   | exact keelsonref2_number.mono _ _
   | exact keelsonref2_text.mono _ _ _ _
   | exact LeO.none _
   | refine LeO.ite ?_ ?_
   | refine LeO.bind ?_ (fun _ => ?_)
  ·intro y0 y1 y2 y3 y4
   unfold keelsonref2_Parse.l0
   repeat' first
   | (with_reducible exact ih0 _ _ _ _)
   | (with_reducible exact ih1 _ _ _ _)
   | (with_reducible exact ih2 _ _ _ _ _)
   | (with_reducible exact ih3 _ _ _ _ _)
   | (with_reducible exact keelsonref2_Right.mono _ _ _ _)
   | (with_reducible exact keelsonref2_number.mono _ _)
   | (with_reducible exact keelsonref2_text.mono _ _ _ _)
   | (with_reducible exact LeO.refl _)
   | (with_reducible exact LeO.none _)
   | (with_reducible refine LeO.ite ?_ ?_)
   | (with_reducible refine LeO.bind ?_ (fun _ => ?_))
   | exact ih0 _ _ _ _
   | exact ih1 _ _ _ _
   | exact ih2 _ _ _ _ _
   | exact ih3 _ _ _ _ _
   | exact keelsonref2_Right.mono _ _ _ _
   | exact keelsonref2_number.mono _ _
   | exact keelsonref2_text.mono _ _ _ _
   | exact LeO.none _
   | refine LeO.ite ?_ ?_
   | refine LeO.bind ?_ (fun _ => ?_)
theorem keelsonref2_Parse.mono : ∀ a0 k,LeO (keelsonref2_Parse.f k a0) (keelsonref2_Parse.f (k + 1) a0) := by
 intro a0 k
 obtain ⟨ih0,ih1,ih2,ih3⟩ := keelsonref2_Parse.mono_l k
 unfold keelsonref2_Parse.f
 repeat' first
   | (with_reducible exact ih0 _ _ _ _)
   | (with_reducible exact ih1 _ _ _ _)
   | (with_reducible exact ih2 _ _ _ _ _)
   | (with_reducible exact ih3 _ _ _ _ _)
   | (with_reducible exact keelsonref2_Right.mono _ _ _ _)
   | (with_reducible exact keelsonref2_number.mono _ _)
   | (with_reducible exact keelsonref2_text.mono _ _ _ _)
   | (with_reducible exact LeO.refl _)
   | (with_reducible exact LeO.none _)
   | (with_reducible refine LeO.ite ?_ ?_)
   | (with_reducible refine LeO.bind ?_ (fun _ => ?_))
   | exact ih0 _ _ _ _
   | exact ih1 _ _ _ _
   | exact ih2 _ _ _ _ _
   | exact ih3 _ _ _ _ _
   | exact keelsonref2_Right.mono _ _ _ _
   | exact keelsonref2_number.mono _ _
   | exact keelsonref2_text.mono _ _ _ _
   | exact LeO.none _
   | refine LeO.ite ?_ ?_
   | refine LeO.bind ?_ (fun _ => ?_)
theorem keelsonref2_Parse.calls (k : Nat) (a0 : ByteArray) (r1 : Int) (r2 : ByteArray) (r3 : ByteArray) (r4 : Int) (w : World) (hG : GL w) (h : keelsonref2_Parse.f k a0 = some (r1,r2,r3,r4)) :
  Calls Tryz.prog 70 #[.string a0] w fun e w' => e = .returned (.tuple #[.agg #[.int .i64 r1,.string r2,.string r3],.int .i64 r4]) ∧ Below w.heap.size w w' := by
 have hu90 := Tryz.underlying90
 have HB := Aside0.mk (Below.refl w.heap.size w)
 have H : (if (a0.size : Int) > 60 then (some (0,(⟨#[]⟩ : ByteArray),(⟨#[]⟩ : ByteArray),9)) else (keelsonref2_Parse.l0 k a0 0 0 a0 (⟨#[]⟩ : ByteArray))) = some (r1,r2,r3,r4) := h
 clear h
 by_cases c2 : (a0.size : Int) > 60
 ·rw [if_pos c2] at H
  have c2b0 : decide (60 < (a0.size : Int)) = true := decide_eq_true c2
  have c2b1 : decide (60 < a0.size) = true := decide_eq_true (by omega)
  clear c2
  simp only [Option.some.injEq,Prod.mk.injEq] at H
  obtain ⟨rfl,rfl,rfl,rfl⟩ := H
  go_enter Tryz.func70,Tryz.ntmps70
  go_wp2_with (first|((with_reducible refine gate_dst (N := 2) rfl ?_);refine box_event ?hg (N := 2) ?hd (cs := #[.int .i64 0,.string (⟨#[]⟩ : ByteArray),.string (⟨#[]⟩ : ByteArray)]) (t := 90) ?hr ?_;(case hd => rfl);(case hg => rfl);(case hr => first|(go_simp;done)|(go_simp;rfl));intro gb270 hg w3 hbox hb;have n0_ := Aside0.mk (qan (by repeat (with_reducible first|exact HB.out|apply qab|apply qaa|apply qac)) hb);have n1_ := Aside0.mk (hbox);have n2_ := Aside0.mk ((by rw [hg];exact (qao (by repeat (with_reducible first|exact HB.out|apply qab|apply qaa|apply qac))) : w.heap.size ≤ gb270));have n3_ := Aside0.mk ((by rw [hg];exact (qao (by repeat (with_reducible first|exact HB.out|apply qab|apply qaa|apply qac))) : w.heap.size ≤ gb270));clear HB;have HB := n0_;have BK270 := n1_;have GW270 := n2_;have GE270 := n3_;clear n0_ n1_ n2_ n3_;clear hb hbox hg;have hcz4_0 : w3.cell? ⟨gb270,0,none⟩ = some (.int .i64 0) := (qaf BK270.out 0).trans rfl;have hcz4_1 : w3.cell? ⟨gb270,1,none⟩ = some (.string (⟨#[]⟩ : ByteArray)) := (qaf BK270.out 1).trans rfl;have hcz4_2 : w3.cell? ⟨gb270,2,none⟩ = some (.string (⟨#[]⟩ : ByteArray)) := (qaf BK270.out 2).trans rfl;have hfz4_0 := qad BK270.out 0;have hfz4_1 := qad BK270.out 1;have hfz4_2 := qad BK270.out 2))
  refine bodyPost_ret (results_ct rfl _ _ gb270 90 #[.int .i64 0,.string (⟨#[]⟩ : ByteArray),.string (⟨#[]⟩ : ByteArray)] (0,0) _ rfl (by (with_reducible repeat (first|refine qah ?_ _|refine qai ?_|refine qag ?_ _));refine blk_put (cs := #[.int .i64 0,.string (⟨#[]⟩ : ByteArray),.string (⟨#[]⟩ : ByteArray)]) ?_ 2 _ rfl;(with_reducible repeat (first|refine qah ?_ _|refine qai ?_|refine qag ?_ _));refine blk_put (cs := #[.int .i64 0,.string (⟨#[]⟩ : ByteArray),.string (⟨#[]⟩ : ByteArray)]) ?_ 1 _ rfl;(with_reducible repeat (first|refine qah ?_ _|refine qai ?_|refine qag ?_ _));refine blk_put (cs := #[.int .i64 0,.string (⟨#[]⟩ : ByteArray),.string (⟨#[]⟩ : ByteArray)]) ?_ 0 _ rfl;(with_reducible repeat (first|refine qah ?_ _|refine qai ?_|refine qag ?_ _));exact BK270.out) Tryz.underlying90 rfl (by kernel_rfl)) rfl ?_
  exact ⟨by first|rfl|(simp [qak,qal]<;>rfl)|(simp [*,qak,qal]<;>rfl),by repeat (first|(with_reducible first|exact HB.out|apply qab|apply qaa|apply qac|refine qae ?_ GE270.out)|exact HB.out)⟩
 ·rw [if_neg c2] at H
  have c2b0 : decide (60 < (a0.size : Int)) = false := decide_eq_false c2
  have c2b1 : decide (60 < a0.size) = false := decide_eq_false (by omega)
  clear c2
  have HC5 := Aside0.mk H
  clear H
  go_enter Tryz.func70,Tryz.ntmps70
  go_upto_block 0 with (first|((with_reducible refine gate_dst (N := 2) rfl ?_);refine box_event ?hg (N := 2) ?hd (cs := #[.int .i64 0,.string (⟨#[]⟩ : ByteArray),.string (⟨#[]⟩ : ByteArray)]) (t := 90) ?hr ?_;(case hd => rfl);(case hg => rfl);(case hr => first|(go_simp;done)|(go_simp;rfl));intro gb270 hg w6 hbox hb;have n0_ := Aside0.mk (qan (by repeat (with_reducible first|exact HB.out|apply qab|apply qaa|apply qac)) hb);have n1_ := Aside0.mk (hbox);have n2_ := Aside0.mk ((by rw [hg];exact (qao (by repeat (with_reducible first|exact HB.out|apply qab|apply qaa|apply qac))) : w.heap.size ≤ gb270));have n3_ := Aside0.mk ((by rw [hg];exact (qao (by repeat (with_reducible first|exact HB.out|apply qab|apply qaa|apply qac))) : w.heap.size ≤ gb270));clear HB;have HB := n0_;have BK270 := n1_;have GW270 := n2_;have GE270 := n3_;clear n0_ n1_ n2_ n3_;clear hb hbox hg)|((with_reducible refine gate_dst (N := 4) rfl ?_);refine box_event ?hg (N := 4) ?hd (cs := #[.int .i64 0,.string (⟨#[]⟩ : ByteArray),.string (⟨#[]⟩ : ByteArray)]) (t := 90) ?hr ?_;(case hd => rfl);(case hg => rfl);(case hr => first|(go_simp;done)|(go_simp;rfl));intro gb271 hg w7 hbox hb;have n0_ := Aside0.mk (qap (g := gb270) (o := .cells #[.int .i64 0,.string (⟨#[]⟩ : ByteArray),.string (⟨#[]⟩ : ByteArray)] 90 (0,0)) (by (with_reducible repeat (first|refine qah ?_ _|refine qai ?_|refine qag ?_ _));exact BK270.out) hb);have n1_ := Aside0.mk (qan (by repeat (first|(with_reducible first|exact HB.out|apply qab|apply qaa|apply qac|refine qae ?_ GE270.out)|exact HB.out)) hb);have n2_ := Aside0.mk (hbox);have n3_ := Aside0.mk ((by rw [hg];exact (qao (by repeat (first|(with_reducible first|exact HB.out|apply qab|apply qaa|apply qac|refine qae ?_ GE270.out)|exact HB.out))) : w.heap.size ≤ gb271));have n4_ := Aside0.mk ((by rw [hg];exact (qao (by repeat (first|(with_reducible first|exact HB.out|apply qab|apply qaa|apply qac|refine qae ?_ GE270.out)|exact HB.out))) : w.heap.size ≤ gb271));have n5_ := Aside0.mk ((by rw [hg];exact Nat.ne_of_lt (blk_lt (g := gb270) (o := .cells #[.int .i64 0,.string (⟨#[]⟩ : ByteArray),.string (⟨#[]⟩ : ByteArray)] 90 (0,0)) (by (with_reducible repeat (first|refine qah ?_ _|refine qai ?_|refine qag ?_ _));exact BK270.out)) : gb270 ≠ gb271));have n6_ := Aside0.mk ((by rw [hg];exact Nat.ne_of_gt (blk_lt (g := gb270) (o := .cells #[.int .i64 0,.string (⟨#[]⟩ : ByteArray),.string (⟨#[]⟩ : ByteArray)] 90 (0,0)) (by (with_reducible repeat (first|refine qah ?_ _|refine qai ?_|refine qag ?_ _));exact BK270.out)) : gb271 ≠ gb270));clear BK270;clear HB;have BK270 := n0_;have HB := n1_;have BK271 := n2_;have GW271 := n3_;have GE271 := n4_;have NB270_271 := n5_;have NB271_270 := n6_;clear n0_ n1_ n2_ n3_ n4_ n5_ n6_;clear hb hbox hg;have hnb8 := NB271_270.out;have hnc8 := NB270_271.out;have hcz9_0 : w7.cell? ⟨gb271,0,none⟩ = some (.int .i64 0) := (qaf BK271.out 0).trans rfl;have hcz9_1 : w7.cell? ⟨gb271,1,none⟩ = some (.string (⟨#[]⟩ : ByteArray)) := (qaf BK271.out 1).trans rfl;have hcz9_2 : w7.cell? ⟨gb271,2,none⟩ = some (.string (⟨#[]⟩ : ByteArray)) := (qaf BK271.out 2).trans rfl;have hfz9_0 := qad BK271.out 0;have hfz9_1 := qad BK271.out 1;have hfz9_2 := qad BK271.out 2))
  (try simp only [Act.put,List.setIfInBounds_toArray,List.set_cons_zero,List.set_cons_succ])
  go_cut [] (fun wc => ∃ (kq : Nat) (x272000_4 : Int) (x272001_4 : ByteArray),Aside0 (keelsonref2_Parse.j1 kq a0 x272000_4 x272001_4 (⟨#[]⟩ : ByteArray) = some (r1,r2,r3,r4)) ∧ Aside0 (kq ≤ k) ∧ Aside0 (wc.heap[gb270]? = some (.cells #[.int .i64 0,.string (⟨#[]⟩ : ByteArray),.string (⟨#[]⟩ : ByteArray)] 90 (0,0))) ∧ Aside0 (wc.heap[gb271]? = some (.cells #[.int .i64 x272000_4,.string x272001_4,.string (⟨#[]⟩ : ByteArray)] 90 (0,0))) ∧ Aside0 (Below w.heap.size w wc))
  case first =>
   have H := HC5.out
   clear HC5
   have H' := Aside0.mk H
   clear H
   go_wp2
   go_loopg [5] k (fun kq v5 w' => ∃ (x5_1 : Int) (x272000_1 : Int) (x272001_1 : ByteArray),v5 = .int .i64 x5_1 ∧ Aside0 (keelsonref2_Parse.l0 kq a0 x5_1 x272000_1 x272001_1 (⟨#[]⟩ : ByteArray) = some (r1,r2,r3,r4)) ∧ Aside0 (kq ≤ k) ∧ Aside0 (w'.heap[gb270]? = some (.cells #[.int .i64 0,.string (⟨#[]⟩ : ByteArray),.string (⟨#[]⟩ : ByteArray)] 90 (0,0))) ∧ Aside0 (w'.heap[gb271]? = some (.cells #[.int .i64 x272000_1,.string x272001_1,.string (⟨#[]⟩ : ByteArray)] 90 (0,0))) ∧ Aside0 (Below w.heap.size w w'))
   case atStart => exact ⟨(0),(0),(a0),(by first|rfl|(simp;done)|(simp [*];done)|(simp [qaj];done)),H',⟨Nat.le_refl _⟩,⟨by (with_reducible repeat (first|refine qah ?_ _|refine qai ?_|refine qag ?_ _));refine blk_far ?_ NB270_271.out _;(with_reducible repeat (first|refine qah ?_ _|refine qai ?_|refine qag ?_ _));refine blk_far ?_ NB270_271.out _;(with_reducible repeat (first|refine qah ?_ _|refine qai ?_|refine qag ?_ _));refine blk_far ?_ NB270_271.out _;(with_reducible repeat (first|refine qah ?_ _|refine qai ?_|refine qag ?_ _));exact BK270.out⟩,⟨by (with_reducible repeat (first|refine qah ?_ _|refine qai ?_|refine qag ?_ _));refine blk_put (cs := #[.int .i64 0,.string a0,.string (⟨#[]⟩ : ByteArray)]) ?_ 2 _ rfl;(with_reducible repeat (first|refine qah ?_ _|refine qai ?_|refine qag ?_ _));refine blk_put (cs := #[.int .i64 0,.string (⟨#[]⟩ : ByteArray),.string (⟨#[]⟩ : ByteArray)]) ?_ 1 _ rfl;(with_reducible repeat (first|refine qah ?_ _|refine qai ?_|refine qag ?_ _));refine blk_put (cs := #[.int .i64 0,.string (⟨#[]⟩ : ByteArray),.string (⟨#[]⟩ : ByteArray)]) ?_ 0 _ rfl;(with_reducible repeat (first|refine qah ?_ _|refine qai ?_|refine qag ?_ _));exact BK271.out⟩,⟨by repeat (first|(with_reducible first|exact HB.out|apply qab|apply qaa|apply qac|refine qae ?_ GE270.out|refine qae ?_ GE271.out)|exact HB.out)⟩⟩
   case round =>
    clear H'
    try clear c2
    try clear c2b0
    try clear c2b1
    try clear p2
    try clear c7
    try clear c8
    try clear hcz4_0
    try clear hcz4_1
    try clear hcz4_2
    try clear hcz9_0
    try clear hcz9_1
    try clear hcz9_2
    try clear hfz4_0
    try clear hfz4_1
    try clear hfz4_2
    try clear hfz9_0
    try clear hfz9_1
    try clear hfz9_2
    obtain ⟨x5_1,x272000_1,x272001_1,rfl,HA,HK1,BK270,BK271,HB⟩ := hrel
    cases gk with
    | zero => exact absurd HA.out (by simp [keelsonref2_Parse.l0])
    | succ k1 =>
     have H := HA.out
     clear HA
     simp only [keelsonref2_Parse.l0] at H
     by_cases c10 : x5_1 < (a0.size : Int)
     ·rw [if_pos c10] at H
      have c10b0 : decide (x5_1 < (a0.size : Int)) = true := decide_eq_true c10
      clear c10
      (first|rw [c10b0]|(simp only [i64_w,i32_w];rw [c10b0]) | skip)
      by_cases c11 : 0 ≤ x5_1
      ·rw [if_pos c11] at H
       have c11b0 : decide (0 ≤ x5_1) = true := decide_eq_true c11
       clear c11
       by_cases c13 : (bt a0 x5_1) = 58
       ·rw [if_pos c13] at H
        have c13b0 : ((bt a0 x5_1) == 58) = true := beq_iff_eq.mpr c13
        have c13b1 : ((bt a0 x5_1) != 58) = false := bne_eq_false_iff_eq.mpr c13
        clear c13
        have c14b0 := eq_true (of_decide_eq_true (by assumption) : 0 ≤ x5_1)
        by_cases c15 : x5_1 ≤ (a0.size : Int)
        ·rw [if_pos c15] at H
         have c15b0 := eq_true c15
         have c15b1 : decide (x5_1 ≤ (a0.size : Int)) = true := decide_eq_true c15
         clear c15
         replace H := Option.bind_eq_some_iff.mp H
         obtain ⟨t272,A160,H⟩ := H
         replace H : (if 0 ≤ (wrap64 (x5_1 + 1)) then (if (wrap64 (x5_1 + 1)) ≤ (a0.size : Int) then (keelsonref2_Parse.j1 k1 a0 t272 (a0.extract ((wrap64 (x5_1 + 1)) : Int).toNat a0.size) (⟨#[]⟩ : ByteArray)) else (none)) else (none)) = some (r1,r2,r3,r4) := H
         have A16 := Aside0.mk A160
         clear A160
         obtain ⟨ji17,hji17⟩ : ∃ j_ : Int,(wrap64 (x5_1 + 1)) = j_ := ⟨_,rfl⟩
         replace H : (if 0 ≤ (ji17) then (if (ji17) ≤ (a0.size : Int) then (keelsonref2_Parse.j1 k1 a0 t272 (a0.extract ((ji17) : Int).toNat a0.size) (⟨#[]⟩ : ByteArray)) else (none)) else (none)) = some (r1,r2,r3,r4) := by first|(rw [hji17] at H;exact H)|(simp only [hji17] at H ⊢;exact H)
         (try rw [hji17] at A16)
         have hji17w : (IntKind.i64.wrap (x5_1 + 1)) = ji17 := (i64_w _).trans hji17
         by_cases c18 : 0 ≤ (ji17)
         ·rw [if_pos c18] at H
          have c18b0 := eq_true c18
          have c18b1 : decide (0 ≤ (ji17)) = true := decide_eq_true c18
          clear c18
          by_cases c19 : (ji17) ≤ (a0.size : Int)
          ·rw [if_pos c19] at H
           have c19b0 := eq_true c19
           have c19b1 : decide ((ji17) ≤ (a0.size : Int)) = true := decide_eq_true c19
           clear c19
           have H' := Aside0.mk H
           clear H
           have p12 : 0 ≤ (x5_1 : Int) := of_decide_eq_true (by assumption)
           have q12 : x5_1 < (a0.size : Int) := of_decide_eq_true (by assumption)
           have hx12 := bt_at a0 x5_1
           replace p12 := eq_true p12
           replace q12 := eq_true q12
           go_wp2_with (first|((with_reducible refine qam (f := 93) rfl ?_);refine goesL_ (some 27) rfl rfl Tryz.func93 (by kernel_rfl) rfl #[.string (a0.extract 0 (x5_1 : Int).toNat)] rfl (by first|rfl|(simp only [List.map_toArray,List.map_cons,List.map_nil,List.length_drop,List.length_take];rfl)|simp only [List.map_toArray,List.map_cons,List.map_nil]) ?_;(with_reducible refine (keelsonref2_number.calls k1 (a0.extract 0 (x5_1 : Int).toNat) t272 _ (by first|exact hG|exact GL.below hG (by repeat (first|(with_reducible first|exact HB.out|apply qab|apply qaa|apply qac|refine qae ?_ GE270.out|refine qae ?_ GE271.out)|exact HB.out)))  A16.out).mono ?_);rintro e w' ⟨rfl,⟨nd,rfl⟩⟩;refine ⟨_,rfl,?_⟩;(try (rw [drewN_self wr];generalize hq_ : World.drewN wr _ = wr;have n0_ : Aside0 (wr.heap[gb270]? = some (.cells #[.int .i64 0,.string (⟨#[]⟩ : ByteArray),.string (⟨#[]⟩ : ByteArray)] 90 (0,0))) := ⟨by rw [← hq_];exact (by (with_reducible repeat (first|refine qah ?_ _|refine qai ?_|refine qag ?_ _));exact BK270.out)⟩;have n1_ : Aside0 (wr.heap[gb271]? = some (.cells #[.int .i64 x272000_1,.string x272001_1,.string (⟨#[]⟩ : ByteArray)] 90 (0,0))) := ⟨by rw [← hq_];exact (by (with_reducible repeat (first|refine qah ?_ _|refine qai ?_|refine qag ?_ _));exact BK271.out)⟩;have n2_ : Aside0 (Below w.heap.size w wr) := ⟨by rw [← hq_];exact (by repeat (first|(with_reducible first|exact HB.out|apply qab|apply qaa|apply qac|refine qae ?_ GE270.out|refine qae ?_ GE271.out)|exact HB.out))⟩;clear BK270 BK271 HB hq_;have BK270 := n0_;have BK271 := n1_;have HB := n2_;clear n0_ n1_ n2_));have hnb20 := NB271_270.out;have hnc20 := NB270_271.out;have hcz21_0 : wr.cell? ⟨gb271,0,none⟩ = some (.int .i64 x272000_1) := (qaf BK271.out 0).trans rfl;have hcz21_1 : wr.cell? ⟨gb271,1,none⟩ = some (.string x272001_1) := (qaf BK271.out 1).trans rfl;have hcz21_2 : wr.cell? ⟨gb271,2,none⟩ = some (.string (⟨#[]⟩ : ByteArray)) := (qaf BK271.out 2).trans rfl;have hfz21_0 := qad BK271.out 0;have hfz21_1 := qad BK271.out 1;have hfz21_2 := qad BK271.out 2))
           go_meet
           case rel => exact ⟨_,(t272),(a0.extract ((ji17) : Int).toNat a0.size),H',⟨by have := HK1.out;first|omega|exact Nat.le_refl _⟩,⟨by (with_reducible repeat (first|refine qah ?_ _|refine qai ?_|refine qag ?_ _));refine blk_far ?_ NB270_271.out _;(with_reducible repeat (first|refine qah ?_ _|refine qai ?_|refine qag ?_ _));refine blk_far ?_ NB270_271.out _;(with_reducible repeat (first|refine qah ?_ _|refine qai ?_|refine qag ?_ _));exact BK270.out⟩,⟨by (with_reducible repeat (first|refine qah ?_ _|refine qai ?_|refine qag ?_ _));refine blk_put (cs := #[.int .i64 t272,.string x272001_1,.string (⟨#[]⟩ : ByteArray)]) ?_ 1 _ rfl;(with_reducible repeat (first|refine qah ?_ _|refine qai ?_|refine qag ?_ _));refine blk_put (cs := #[.int .i64 x272000_1,.string x272001_1,.string (⟨#[]⟩ : ByteArray)]) ?_ 0 _ rfl;(with_reducible repeat (first|refine qah ?_ _|refine qai ?_|refine qag ?_ _));exact BK271.out⟩,⟨by repeat (first|(with_reducible first|exact HB.out|apply qab|apply qaa|apply qac|refine qae ?_ GE270.out|refine qae ?_ GE271.out)|exact HB.out)⟩⟩
          ·rw [if_neg c19] at H
           exact absurd H (by simp)
         ·rw [if_neg c18] at H
          exact absurd H (by simp)
        ·rw [if_neg c15] at H
         exact absurd H (by simp)
       ·rw [if_neg c13] at H
        have c13b0 : ((bt a0 x5_1) == 58) = false := beq_eq_false_iff_ne.mpr c13
        have c13b1 : ((bt a0 x5_1) != 58) = true := bne_iff_ne.mpr c13
        have H' := Aside0.mk H
        clear H
        have p12 : 0 ≤ (x5_1 : Int) := of_decide_eq_true (by assumption)
        have q12 : x5_1 < (a0.size : Int) := of_decide_eq_true (by assumption)
        have hx12 := bt_at a0 x5_1
        replace p12 := eq_true p12
        replace q12 := eq_true q12
        go_wp2
        go_roundg k1
        case measure => have := HK1.out;omega
        case rel => exact ⟨(wrap64 (x5_1 + 1)),(x272000_1),(x272001_1),(by first|rfl|(simp;done)|(simp [*];done)|(simp [qaj];done)),H',⟨by have := HK1.out;omega⟩,⟨by (with_reducible repeat (first|refine qah ?_ _|refine qai ?_|refine qag ?_ _));exact BK270.out⟩,⟨by (with_reducible repeat (first|refine qah ?_ _|refine qai ?_|refine qag ?_ _));exact BK271.out⟩,⟨by repeat (first|(with_reducible first|exact HB.out|apply qab|apply qaa|apply qac|refine qae ?_ GE270.out|refine qae ?_ GE271.out)|exact HB.out)⟩⟩
      ·rw [if_neg c11] at H
       exact absurd H (by simp)
     ·rw [if_neg c10] at H
      have c10b0 : decide (x5_1 < (a0.size : Int)) = false := decide_eq_false c10
      clear c10
      (first|rw [c10b0]|(simp only [i64_w,i32_w];rw [c10b0]) | skip)
      have H' := Aside0.mk H
      clear H
      go_wp2
      go_meet
      case rel => exact ⟨_,(x272000_1),(x272001_1),H',⟨by have := HK1.out;first|omega|exact Nat.le_refl _⟩,⟨by (with_reducible repeat (first|refine qah ?_ _|refine qai ?_|refine qag ?_ _));exact BK270.out⟩,⟨by (with_reducible repeat (first|refine qah ?_ _|refine qai ?_|refine qag ?_ _));exact BK271.out⟩,⟨by repeat (first|(with_reducible first|exact HB.out|apply qab|apply qaa|apply qac|refine qae ?_ GE270.out|refine qae ?_ GE271.out)|exact HB.out)⟩⟩
  case rest =>
   clear HC5
   try clear c1
   try clear p1
   try clear q1
   try clear hx1
   try clear c2
   try clear c2b0
   try clear c2b1
   try clear p2
   try clear p6
   try clear c7
   try clear c8
   try clear c9
   try clear c10
   try clear c10b0
   try clear c11
   try clear c11b0
   try clear p12
   try clear q12
   try clear hx12
   try clear c13
   try clear c13b0
   try clear c13b1
   try clear c14
   try clear c14b0
   try clear c15
   try clear c15b0
   try clear c15b1
   try clear c18
   try clear c18b0
   try clear c18b1
   try clear c19
   try clear c19b0
   try clear c19b1
   try clear c20
   try clear hcz21_0
   try clear hcz21_1
   try clear hcz21_2
   try clear hcz4_0
   try clear hcz4_1
   try clear hcz4_2
   try clear hcz9_0
   try clear hcz9_1
   try clear hcz9_2
   try clear hfz21_0
   try clear hfz21_1
   try clear hfz21_2
   try clear hfz4_0
   try clear hfz4_1
   try clear hfz4_2
   try clear hfz9_0
   try clear hfz9_1
   try clear hfz9_2
   try clear p12
   try clear p2
   try clear q12
   obtain ⟨kq,x272000_4,x272001_4,HA,HJ4,BK270,BK271,HB⟩ := hcut
   cases kq with
   | zero => exact absurd HA.out (by simp [keelsonref2_Parse.j1])
   | succ kj4 =>
    have H := HA.out
    clear HA
    simp only [keelsonref2_Parse.j1] at H
    have HC22 := Aside0.mk H
    clear H
    have hnb23 := NB271_270.out
    have hnc23 := NB270_271.out
    have hcz24_0 : wc.cell? ⟨gb271,0,none⟩ = some (.int .i64 x272000_4) := (qaf BK271.out 0).trans rfl
    have hcz24_1 : wc.cell? ⟨gb271,1,none⟩ = some (.string x272001_4) := (qaf BK271.out 1).trans rfl
    have hcz24_2 : wc.cell? ⟨gb271,2,none⟩ = some (.string (⟨#[]⟩ : ByteArray)) := (qaf BK271.out 2).trans rfl
    have hfz24_0 := qad BK271.out 0
    have hfz24_1 := qad BK271.out 1
    have hfz24_2 := qad BK271.out 2
    go_upto_block 2 with (fail)
    go_cut [] (fun wc => ∃ (kq : Nat) (x272001_21 : ByteArray) (x272002_21 : ByteArray),Aside0 (keelsonref2_Parse.j3 kq a0 x272000_4 x272001_21 x272002_21 = some (r1,r2,r3,r4)) ∧ Aside0 (kq ≤ kj4) ∧ Aside0 (wc.heap[gb270]? = some (.cells #[.int .i64 0,.string (⟨#[]⟩ : ByteArray),.string (⟨#[]⟩ : ByteArray)] 90 (0,0))) ∧ Aside0 (wc.heap[gb271]? = some (.cells #[.int .i64 x272000_4,.string x272001_21,.string x272002_21] 90 (0,0))) ∧ Aside0 (Below w.heap.size w wc))
    case first =>
     have H := HC22.out
     clear HC22
     have H' := Aside0.mk H
     clear H
     go_wp2
     go_loopg [6] kj4 (fun kq v6 w' => ∃ (x6_2 : Int) (x272001_2 : ByteArray) (x272002_2 : ByteArray),v6 = .int .i64 x6_2 ∧ Aside0 (keelsonref2_Parse.l1 kq a0 x6_2 x272000_4 x272001_2 x272002_2 = some (r1,r2,r3,r4)) ∧ Aside0 (kq ≤ kj4) ∧ Aside0 (w'.heap[gb270]? = some (.cells #[.int .i64 0,.string (⟨#[]⟩ : ByteArray),.string (⟨#[]⟩ : ByteArray)] 90 (0,0))) ∧ Aside0 (w'.heap[gb271]? = some (.cells #[.int .i64 x272000_4,.string x272001_2,.string x272002_2] 90 (0,0))) ∧ Aside0 (Below w.heap.size w w'))
     case atStart => exact ⟨(wrap64 ((x272001_4.size : Int) - 1)),(x272001_4),((⟨#[]⟩ : ByteArray)),(by first|rfl|(simp;done)|(simp [*];done)|(simp [qaj];done)),H',⟨Nat.le_refl _⟩,⟨by (with_reducible repeat (first|refine qah ?_ _|refine qai ?_|refine qag ?_ _));exact BK270.out⟩,⟨by (with_reducible repeat (first|refine qah ?_ _|refine qai ?_|refine qag ?_ _));exact BK271.out⟩,⟨by repeat (first|(with_reducible first|exact HB.out|apply qab|apply qaa|apply qac|refine qae ?_ GE270.out|refine qae ?_ GE271.out)|exact HB.out)⟩⟩
     case round =>
      clear H'
      try clear c1
      try clear p1
      try clear q1
      try clear hx1
      try clear c2
      try clear c2b0
      try clear c2b1
      try clear p2
      try clear p6
      try clear c7
      try clear c8
      try clear c9
      try clear c10
      try clear c10b0
      try clear c11
      try clear c11b0
      try clear p12
      try clear q12
      try clear hx12
      try clear c13
      try clear c13b0
      try clear c13b1
      try clear c14
      try clear c14b0
      try clear c15
      try clear c15b0
      try clear c15b1
      try clear c18
      try clear c18b0
      try clear c18b1
      try clear c19
      try clear c19b0
      try clear c19b1
      try clear c20
      try clear c23
      try clear hcz21_0
      try clear hcz21_1
      try clear hcz21_2
      try clear hcz24_0
      try clear hcz24_1
      try clear hcz24_2
      try clear hcz4_0
      try clear hcz4_1
      try clear hcz4_2
      try clear hcz9_0
      try clear hcz9_1
      try clear hcz9_2
      try clear hfz21_0
      try clear hfz21_1
      try clear hfz21_2
      try clear hfz24_0
      try clear hfz24_1
      try clear hfz24_2
      try clear hfz4_0
      try clear hfz4_1
      try clear hfz4_2
      try clear hfz9_0
      try clear hfz9_1
      try clear hfz9_2
      try clear p1
      try clear p12
      try clear p2
      try clear p6
      try clear q1
      try clear q12
      obtain ⟨x6_2,x272001_2,x272002_2,rfl,HA,HK2,BK270,BK271,HB⟩ := hrel
      cases gk with
      | zero => exact absurd HA.out (by simp [keelsonref2_Parse.l1])
      | succ k2 =>
       have H := HA.out
       clear HA
       simp only [keelsonref2_Parse.l1] at H
       by_cases c25 : x6_2 ≥ 0
       ·rw [if_pos c25] at H
        have c25b0 : decide (0 ≤ x6_2) = true := decide_eq_true c25
        clear c25
        (first|rw [c25b0]|(simp only [i64_w,i32_w];rw [c25b0]) | skip)
        by_cases c26 : 0 ≤ x6_2
        ·rw [if_pos c26] at H
         have c26b0 : decide (0 ≤ x6_2) = true := decide_eq_true c26
         clear c26
         by_cases c27 : x6_2 < (x272001_2.size : Int)
         ·rw [if_pos c27] at H
          have c27b0 : decide (x6_2 < (x272001_2.size : Int)) = true := decide_eq_true c27
          clear c27
          by_cases c29 : (bt x272001_2 x6_2) = 45
          ·rw [if_pos c29] at H
           have c29b0 : ((bt x272001_2 x6_2) == 45) = true := beq_iff_eq.mpr c29
           have c29b1 : ((bt x272001_2 x6_2) != 45) = false := bne_eq_false_iff_eq.mpr c29
           clear c29
           obtain ⟨ji30,hji30⟩ : ∃ j_ : Int,(wrap64 (x6_2 + 1)) = j_ := ⟨_,rfl⟩
           replace H : (if 0 ≤ (ji30) then (if (ji30) ≤ (x272001_2.size : Int) then (if x6_2 ≤ (x272001_2.size : Int) then (keelsonref2_Parse.j3 k2 a0 x272000_4 (x272001_2.extract 0 (x6_2 : Int).toNat) (x272001_2.extract ((ji30) : Int).toNat x272001_2.size)) else (none)) else (none)) else (none)) = some (r1,r2,r3,r4) := by first|(rw [hji30] at H;exact H)|(simp only [hji30] at H ⊢;exact H)
           have hji30w : (IntKind.i64.wrap (x6_2 + 1)) = ji30 := (i64_w _).trans hji30
           by_cases c31 : 0 ≤ (ji30)
           ·rw [if_pos c31] at H
            have c31b0 := eq_true c31
            have c31b1 : decide (0 ≤ (ji30)) = true := decide_eq_true c31
            clear c31
            by_cases c32 : (ji30) ≤ (x272001_2.size : Int)
            ·rw [if_pos c32] at H
             have c32b0 := eq_true c32
             have c32b1 : decide ((ji30) ≤ (x272001_2.size : Int)) = true := decide_eq_true c32
             clear c32
             have c33b0 := eq_true (of_decide_eq_true (by assumption) : 0 ≤ x6_2)
             by_cases c34 : x6_2 ≤ (x272001_2.size : Int)
             ·rw [if_pos c34] at H
              have c34b0 := eq_true c34
              have c34b1 : decide (x6_2 ≤ (x272001_2.size : Int)) = true := decide_eq_true c34
              clear c34
              have H' := Aside0.mk H
              clear H
              have hnb35 := NB271_270.out
              have hnc35 := NB270_271.out
              have hcz36_0 : wr.cell? ⟨gb271,0,none⟩ = some (.int .i64 x272000_4) := (qaf BK271.out 0).trans rfl
              have hcz36_1 : wr.cell? ⟨gb271,1,none⟩ = some (.string x272001_2) := (qaf BK271.out 1).trans rfl
              have hcz36_2 : wr.cell? ⟨gb271,2,none⟩ = some (.string x272002_2) := (qaf BK271.out 2).trans rfl
              have hfz36_0 := qad BK271.out 0
              have hfz36_1 := qad BK271.out 1
              have hfz36_2 := qad BK271.out 2
              have p28 : 0 ≤ (x6_2 : Int) := of_decide_eq_true (by assumption)
              have q28 : x6_2 < (x272001_2.size : Int) := of_decide_eq_true (by assumption)
              have hx28 := bt_at x272001_2 x6_2
              replace p28 := eq_true p28
              replace q28 := eq_true q28
              go_wp2
              go_meet
              case rel => exact ⟨_,(x272001_2.extract 0 (x6_2 : Int).toNat),(x272001_2.extract ((ji30) : Int).toNat x272001_2.size),H',⟨by have := HJ4.out;have := HK2.out;first|omega|exact Nat.le_refl _⟩,⟨by (with_reducible repeat (first|refine qah ?_ _|refine qai ?_|refine qag ?_ _));refine blk_far ?_ NB270_271.out _;(with_reducible repeat (first|refine qah ?_ _|refine qai ?_|refine qag ?_ _));refine blk_far ?_ NB270_271.out _;(with_reducible repeat (first|refine qah ?_ _|refine qai ?_|refine qag ?_ _));exact BK270.out⟩,⟨by (with_reducible repeat (first|refine qah ?_ _|refine qai ?_|refine qag ?_ _));refine blk_put (cs := #[.int .i64 x272000_4,.string x272001_2,.string (x272001_2.extract ((ji30) : Int).toNat x272001_2.size)]) ?_ 1 _ rfl;(with_reducible repeat (first|refine qah ?_ _|refine qai ?_|refine qag ?_ _));refine blk_put (cs := #[.int .i64 x272000_4,.string x272001_2,.string x272002_2]) ?_ 2 _ rfl;(with_reducible repeat (first|refine qah ?_ _|refine qai ?_|refine qag ?_ _));exact BK271.out⟩,⟨by repeat (first|(with_reducible first|exact HB.out|apply qab|apply qaa|apply qac|refine qae ?_ GE270.out|refine qae ?_ GE271.out)|exact HB.out)⟩⟩
             ·rw [if_neg c34] at H
              exact absurd H (by simp)
            ·rw [if_neg c32] at H
             exact absurd H (by simp)
           ·rw [if_neg c31] at H
            exact absurd H (by simp)
          ·rw [if_neg c29] at H
           have c29b0 : ((bt x272001_2 x6_2) == 45) = false := beq_eq_false_iff_ne.mpr c29
           have c29b1 : ((bt x272001_2 x6_2) != 45) = true := bne_iff_ne.mpr c29
           have H' := Aside0.mk H
           clear H
           have hnb37 := NB271_270.out
           have hnc37 := NB270_271.out
           have hcz38_0 : wr.cell? ⟨gb271,0,none⟩ = some (.int .i64 x272000_4) := (qaf BK271.out 0).trans rfl
           have hcz38_1 : wr.cell? ⟨gb271,1,none⟩ = some (.string x272001_2) := (qaf BK271.out 1).trans rfl
           have hcz38_2 : wr.cell? ⟨gb271,2,none⟩ = some (.string x272002_2) := (qaf BK271.out 2).trans rfl
           have hfz38_0 := qad BK271.out 0
           have hfz38_1 := qad BK271.out 1
           have hfz38_2 := qad BK271.out 2
           have p28 : 0 ≤ (x6_2 : Int) := of_decide_eq_true (by assumption)
           have q28 : x6_2 < (x272001_2.size : Int) := of_decide_eq_true (by assumption)
           have hx28 := bt_at x272001_2 x6_2
           replace p28 := eq_true p28
           replace q28 := eq_true q28
           go_wp2
           go_roundg k2
           case measure => have := HJ4.out;have := HK2.out;omega
           case rel => exact ⟨(wrap64 (x6_2 - 1)),(x272001_2),(x272002_2),(by first|rfl|(simp;done)|(simp [*];done)|(simp [qaj];done)),H',⟨by have := HJ4.out;have := HK2.out;omega⟩,⟨by (with_reducible repeat (first|refine qah ?_ _|refine qai ?_|refine qag ?_ _));exact BK270.out⟩,⟨by (with_reducible repeat (first|refine qah ?_ _|refine qai ?_|refine qag ?_ _));exact BK271.out⟩,⟨by repeat (first|(with_reducible first|exact HB.out|apply qab|apply qaa|apply qac|refine qae ?_ GE270.out|refine qae ?_ GE271.out)|exact HB.out)⟩⟩
         ·rw [if_neg c27] at H
          exact absurd H (by simp)
        ·rw [if_neg c26] at H
         exact absurd H (by simp)
       ·rw [if_neg c25] at H
        have c25b0 : decide (0 ≤ x6_2) = false := decide_eq_false c25
        clear c25
        (first|rw [c25b0]|(simp only [i64_w,i32_w];rw [c25b0]) | skip)
        have H' := Aside0.mk H
        clear H
        go_wp2
        go_meet
        case rel => exact ⟨_,(x272001_2),(x272002_2),H',⟨by have := HJ4.out;have := HK2.out;first|omega|exact Nat.le_refl _⟩,⟨by (with_reducible repeat (first|refine qah ?_ _|refine qai ?_|refine qag ?_ _));exact BK270.out⟩,⟨by (with_reducible repeat (first|refine qah ?_ _|refine qai ?_|refine qag ?_ _));exact BK271.out⟩,⟨by repeat (first|(with_reducible first|exact HB.out|apply qab|apply qaa|apply qac|refine qae ?_ GE270.out|refine qae ?_ GE271.out)|exact HB.out)⟩⟩
    case rest =>
     clear HC22
     try clear c1
     try clear p1
     try clear q1
     try clear hx1
     try clear c2
     try clear c2b0
     try clear c2b1
     try clear p2
     try clear q2
     try clear hx2
     try clear c3
     try clear p6
     try clear c7
     try clear c8
     try clear c9
     try clear c10
     try clear c10b0
     try clear c11
     try clear c11b0
     try clear p12
     try clear q12
     try clear hx12
     try clear c13
     try clear c13b0
     try clear c13b1
     try clear c14
     try clear c14b0
     try clear c15
     try clear c15b0
     try clear c15b1
     try clear c18
     try clear c18b0
     try clear c18b1
     try clear c19
     try clear c19b0
     try clear c19b1
     try clear c20
     try clear c23
     try clear c25
     try clear c25b0
     try clear c26
     try clear c26b0
     try clear c27
     try clear c27b0
     try clear p28
     try clear q28
     try clear hx28
     try clear c29
     try clear c29b0
     try clear c29b1
     try clear c31
     try clear c31b0
     try clear c31b1
     try clear c32
     try clear c32b0
     try clear c32b1
     try clear c33
     try clear c33b0
     try clear c34
     try clear c34b0
     try clear c34b1
     try clear c35
     try clear c37
     try clear hcz21_0
     try clear hcz21_1
     try clear hcz21_2
     try clear hcz24_0
     try clear hcz24_1
     try clear hcz24_2
     try clear hcz36_0
     try clear hcz36_1
     try clear hcz36_2
     try clear hcz38_0
     try clear hcz38_1
     try clear hcz38_2
     try clear hcz4_0
     try clear hcz4_1
     try clear hcz4_2
     try clear hcz9_0
     try clear hcz9_1
     try clear hcz9_2
     try clear hfz21_0
     try clear hfz21_1
     try clear hfz21_2
     try clear hfz24_0
     try clear hfz24_1
     try clear hfz24_2
     try clear hfz36_0
     try clear hfz36_1
     try clear hfz36_2
     try clear hfz38_0
     try clear hfz38_1
     try clear hfz38_2
     try clear hfz4_0
     try clear hfz4_1
     try clear hfz4_2
     try clear hfz9_0
     try clear hfz9_1
     try clear hfz9_2
     try clear p1
     try clear p12
     try clear p2
     try clear p28
     try clear p6
     try clear q1
     try clear q12
     try clear q28
     obtain ⟨kq,x272001_21,x272002_21,HA,HJ21,BK270,BK271,HB⟩ := hcut
     cases kq with
     | zero => exact absurd HA.out (by simp [keelsonref2_Parse.j3])
     | succ kj21 =>
      have H := HA.out
      clear HA
      simp only [keelsonref2_Parse.j3] at H
      replace H := Option.bind_eq_some_iff.mp H
      obtain ⟨t273,A390,H⟩ := H
      replace H : (if t273 = true then ((keelsonref2_text.f kj21 x272000_4 x272001_21 x272002_21).bind fun t274 => (if t274.toList = a0.toList then (some (x272000_4,x272001_21,x272002_21,0)) else ((keelsonref2_text.f kj21 x272000_4 x272001_21 x272002_21).bind fun t275 => (if 2 + t275.size ≤ 9223372036854775807 then (if ((⟨#[48,58]⟩ : ByteArray) ++ t275).toList = a0.toList then (some (x272000_4,x272001_21,x272002_21,0)) else (some (0,(⟨#[]⟩ : ByteArray),(⟨#[]⟩ : ByteArray),4))) else (none))))) else (some (0,(⟨#[]⟩ : ByteArray),(⟨#[]⟩ : ByteArray),4))) = some (r1,r2,r3,r4) := H
      have A39 := Aside0.mk A390
      clear A390
      by_cases c40 : t273 = true
      ·subst c40
       have H1 : ((keelsonref2_text.f kj21 x272000_4 x272001_21 x272002_21).bind fun t274 => (if t274.toList = a0.toList then (some (x272000_4,x272001_21,x272002_21,0)) else ((keelsonref2_text.f kj21 x272000_4 x272001_21 x272002_21).bind fun t275 => (if 2 + t275.size ≤ 9223372036854775807 then (if ((⟨#[48,58]⟩ : ByteArray) ++ t275).toList = a0.toList then (some (x272000_4,x272001_21,x272002_21,0)) else (some (0,(⟨#[]⟩ : ByteArray),(⟨#[]⟩ : ByteArray),4))) else (none))))) = some (r1,r2,r3,r4) := by rw [if_pos rfl] at H;exact H
       clear H
       have H := H1
       clear H1
       replace H := Option.bind_eq_some_iff.mp H
       obtain ⟨t274,A410,H⟩ := H
       replace H : (if t274.toList = a0.toList then (some (x272000_4,x272001_21,x272002_21,0)) else ((keelsonref2_text.f kj21 x272000_4 x272001_21 x272002_21).bind fun t275 => (if 2 + t275.size ≤ 9223372036854775807 then (if ((⟨#[48,58]⟩ : ByteArray) ++ t275).toList = a0.toList then (some (x272000_4,x272001_21,x272002_21,0)) else (some (0,(⟨#[]⟩ : ByteArray),(⟨#[]⟩ : ByteArray),4))) else (none)))) = some (r1,r2,r3,r4) := H
       have A41 := Aside0.mk A410
       clear A410
       by_cases c42 : t274.toList = a0.toList
       ·rw [if_pos c42] at H
        have c42b0 : (t274.toList == a0.toList) = true := beq_iff_eq.mpr c42
        have c42b1 : (t274.toList != a0.toList) = false := bne_eq_false_iff_eq.mpr c42
        clear c42
        simp only [Option.some.injEq,Prod.mk.injEq] at H
        obtain ⟨rfl,rfl,rfl,rfl⟩ := H
        have hnb43 := NB271_270.out
        have hnc43 := NB270_271.out
        have hcz44_0 : wc.cell? ⟨gb271,0,none⟩ = some (.int .i64 x272000_4) := (qaf BK271.out 0).trans rfl
        have hcz44_1 : wc.cell? ⟨gb271,1,none⟩ = some (.string x272001_21) := (qaf BK271.out 1).trans rfl
        have hcz44_2 : wc.cell? ⟨gb271,2,none⟩ = some (.string x272002_21) := (qaf BK271.out 2).trans rfl
        have hfz44_0 := qad BK271.out 0
        have hfz44_1 := qad BK271.out 1
        have hfz44_2 := qad BK271.out 2
        go_wp2_with (first|((with_reducible refine qam (f := 94) rfl ?_);refine goesL_ (some 59) rfl rfl Tryz.func94 (by kernel_rfl) rfl #[.agg #[.int .i64 x272000_4,.string x272001_21,.string x272002_21]] rfl (by first|rfl|(simp only [List.map_toArray,List.map_cons,List.map_nil,List.length_drop,List.length_take];rfl)|simp only [List.map_toArray,List.map_cons,List.map_nil]) ?_;(with_reducible refine (keelsonref2_Right.calls kj21 x272000_4 x272001_21 x272002_21 true _ (by first|exact hG|exact GL.below hG (by repeat (first|(with_reducible first|exact HB.out|apply qab|apply qaa|apply qac|refine qae ?_ GE270.out|refine qae ?_ GE271.out)|exact HB.out)))  A39.out).mono ?_);rintro e w45 ⟨rfl,hb⟩;refine ⟨_,rfl,?_⟩;have n0_ := Aside0.mk (qap (g := gb270) (o := .cells #[.int .i64 0,.string (⟨#[]⟩ : ByteArray),.string (⟨#[]⟩ : ByteArray)] 90 (0,0)) (by (with_reducible repeat (first|refine qah ?_ _|refine qai ?_|refine qag ?_ _));exact BK270.out) hb);have n1_ := Aside0.mk (qap (g := gb271) (o := .cells #[.int .i64 x272000_4,.string x272001_21,.string x272002_21] 90 (0,0)) (by (with_reducible repeat (first|refine qah ?_ _|refine qai ?_|refine qag ?_ _));exact BK271.out) hb);have n2_ := Aside0.mk (qan (by repeat (first|(with_reducible first|exact HB.out|apply qab|apply qaa|apply qac|refine qae ?_ GE270.out|refine qae ?_ GE271.out)|exact HB.out)) hb);clear BK270;clear BK271;clear HB;have BK270 := n0_;have BK271 := n1_;have HB := n2_;clear n0_ n1_ n2_;(try clear hb);(try clear hb2);(try clear hk);(try clear hi);have hcz46_0 : w45.cell? ⟨gb271,0,none⟩ = some (.int .i64 x272000_4) := (qaf BK271.out 0).trans rfl;have hcz46_1 : w45.cell? ⟨gb271,1,none⟩ = some (.string x272001_21) := (qaf BK271.out 1).trans rfl;have hcz46_2 : w45.cell? ⟨gb271,2,none⟩ = some (.string x272002_21) := (qaf BK271.out 2).trans rfl;have hfz46_0 := qad BK271.out 0;have hfz46_1 := qad BK271.out 1;have hfz46_2 := qad BK271.out 2)|(go_at_call 95;(with_reducible refine (keelsonref2_text.calls kj21 x272000_4 x272001_21 x272002_21 t274 _ (by first|exact hG|exact GL.below hG (by repeat (first|(with_reducible first|exact HB.out|apply qab|apply qaa|apply qac|refine qae ?_ GE270.out|refine qae ?_ GE271.out)|exact HB.out)))  A41.out).mono ?_);rintro e w47 ⟨rfl,hb⟩;have n0_ := Aside0.mk (qap (g := gb270) (o := .cells #[.int .i64 0,.string (⟨#[]⟩ : ByteArray),.string (⟨#[]⟩ : ByteArray)] 90 (0,0)) (by (with_reducible repeat (first|refine qah ?_ _|refine qai ?_|refine qag ?_ _));exact BK270.out) hb);have n1_ := Aside0.mk (qap (g := gb271) (o := .cells #[.int .i64 x272000_4,.string x272001_21,.string x272002_21] 90 (0,0)) (by (with_reducible repeat (first|refine qah ?_ _|refine qai ?_|refine qag ?_ _));exact BK271.out) hb);have n2_ := Aside0.mk (qan (by repeat (first|(with_reducible first|exact HB.out|apply qab|apply qaa|apply qac|refine qae ?_ GE270.out|refine qae ?_ GE271.out)|exact HB.out)) hb);clear BK270;clear BK271;clear HB;have BK270 := n0_;have BK271 := n1_;have HB := n2_;clear n0_ n1_ n2_;(try clear hb);(try clear hb2);(try clear hk);(try clear hi);have hcz48_0 : w47.cell? ⟨gb271,0,none⟩ = some (.int .i64 x272000_4) := (qaf BK271.out 0).trans rfl;have hcz48_1 : w47.cell? ⟨gb271,1,none⟩ = some (.string x272001_21) := (qaf BK271.out 1).trans rfl;have hcz48_2 : w47.cell? ⟨gb271,2,none⟩ = some (.string x272002_21) := (qaf BK271.out 2).trans rfl;have hfz48_0 := qad BK271.out 0;have hfz48_1 := qad BK271.out 1;have hfz48_2 := qad BK271.out 2;have hcz49_0 : w47.cell? ⟨gb270,0,none⟩ = some (.int .i64 0) := (qaf BK270.out 0).trans rfl;have hcz49_1 : w47.cell? ⟨gb270,1,none⟩ = some (.string (⟨#[]⟩ : ByteArray)) := (qaf BK270.out 1).trans rfl;have hcz49_2 : w47.cell? ⟨gb270,2,none⟩ = some (.string (⟨#[]⟩ : ByteArray)) := (qaf BK270.out 2).trans rfl;have hfz49_0 := qad BK270.out 0;have hfz49_1 := qad BK270.out 1;have hfz49_2 := qad BK270.out 2))
        refine bodyPost_ret (results_ct rfl _ _ gb270 90 #[.int .i64 x272000_4,.string x272001_21,.string x272002_21] (0,0) _ rfl (by (with_reducible repeat (first|refine qah ?_ _|refine qai ?_|refine qag ?_ _));refine blk_put (cs := #[.int .i64 x272000_4,.string x272001_21,.string (⟨#[]⟩ : ByteArray)]) ?_ 2 _ rfl;(with_reducible repeat (first|refine qah ?_ _|refine qai ?_|refine qag ?_ _));refine blk_put (cs := #[.int .i64 x272000_4,.string (⟨#[]⟩ : ByteArray),.string (⟨#[]⟩ : ByteArray)]) ?_ 1 _ rfl;(with_reducible repeat (first|refine qah ?_ _|refine qai ?_|refine qag ?_ _));refine blk_put (cs := #[.int .i64 0,.string (⟨#[]⟩ : ByteArray),.string (⟨#[]⟩ : ByteArray)]) ?_ 0 _ rfl;(with_reducible repeat (first|refine qah ?_ _|refine qai ?_|refine qag ?_ _));exact BK270.out) Tryz.underlying90 rfl (by kernel_rfl)) rfl ?_
        exact ⟨by first|rfl|(simp [qak,qal]<;>rfl)|(simp [*,qak,qal]<;>rfl),by repeat (first|(with_reducible first|exact HB.out|apply qab|apply qaa|apply qac|refine qae ?_ GE270.out|refine qae ?_ GE271.out)|exact HB.out)⟩
       ·rw [if_neg c42] at H
        have c42b0 : (t274.toList == a0.toList) = false := beq_eq_false_iff_ne.mpr c42
        have c42b1 : (t274.toList != a0.toList) = true := bne_iff_ne.mpr c42
        replace H := Option.bind_eq_some_iff.mp H
        obtain ⟨t275,A500,H⟩ := H
        replace H : (if 2 + t275.size ≤ 9223372036854775807 then (if ((⟨#[48,58]⟩ : ByteArray) ++ t275).toList = a0.toList then (some (x272000_4,x272001_21,x272002_21,0)) else (some (0,(⟨#[]⟩ : ByteArray),(⟨#[]⟩ : ByteArray),4))) else (none)) = some (r1,r2,r3,r4) := H
        have A50 := Aside0.mk A500
        clear A500
        by_cases c51 : 2 + t275.size ≤ 9223372036854775807
        ·rw [if_pos c51] at H
         have c51b0 := eq_true c51
         have c51b1 : decide (2 + t275.size ≤ 9223372036854775807) = true := decide_eq_true c51
         try have c51b2 : (9223372036854775807 < 2 + t275.size) = False := eq_false (Nat.not_lt.2 c51)
         by_cases c52 : ((⟨#[48,58]⟩ : ByteArray) ++ t275).toList = a0.toList
         ·rw [if_pos c52] at H
          have c52b0 : (((⟨#[48,58]⟩ : ByteArray) ++ t275).toList == a0.toList) = true := beq_iff_eq.mpr c52
          have c52b1 : (((⟨#[48,58]⟩ : ByteArray) ++ t275).toList != a0.toList) = false := bne_eq_false_iff_eq.mpr c52
          clear c52
          simp only [Option.some.injEq,Prod.mk.injEq] at H
          obtain ⟨rfl,rfl,rfl,rfl⟩ := H
          have hnb53 := NB271_270.out
          have hnc53 := NB270_271.out
          have hcz54_0 : wc.cell? ⟨gb271,0,none⟩ = some (.int .i64 x272000_4) := (qaf BK271.out 0).trans rfl
          have hcz54_1 : wc.cell? ⟨gb271,1,none⟩ = some (.string x272001_21) := (qaf BK271.out 1).trans rfl
          have hcz54_2 : wc.cell? ⟨gb271,2,none⟩ = some (.string x272002_21) := (qaf BK271.out 2).trans rfl
          have hfz54_0 := qad BK271.out 0
          have hfz54_1 := qad BK271.out 1
          have hfz54_2 := qad BK271.out 2
          have tok62 : True := trivial
          have tok63 : True := trivial
          go_wp2_with (first|((with_reducible refine qam (f := 94) rfl ?_);refine goesL_ (some 59) rfl rfl Tryz.func94 (by kernel_rfl) rfl #[.agg #[.int .i64 x272000_4,.string x272001_21,.string x272002_21]] rfl (by first|rfl|(simp only [List.map_toArray,List.map_cons,List.map_nil,List.length_drop,List.length_take];rfl)|simp only [List.map_toArray,List.map_cons,List.map_nil]) ?_;(with_reducible refine (keelsonref2_Right.calls kj21 x272000_4 x272001_21 x272002_21 true _ (by first|exact hG|exact GL.below hG (by repeat (first|(with_reducible first|exact HB.out|apply qab|apply qaa|apply qac|refine qae ?_ GE270.out|refine qae ?_ GE271.out)|exact HB.out)))  A39.out).mono ?_);rintro e w55 ⟨rfl,hb⟩;refine ⟨_,rfl,?_⟩;have n0_ := Aside0.mk (qap (g := gb270) (o := .cells #[.int .i64 0,.string (⟨#[]⟩ : ByteArray),.string (⟨#[]⟩ : ByteArray)] 90 (0,0)) (by (with_reducible repeat (first|refine qah ?_ _|refine qai ?_|refine qag ?_ _));exact BK270.out) hb);have n1_ := Aside0.mk (qap (g := gb271) (o := .cells #[.int .i64 x272000_4,.string x272001_21,.string x272002_21] 90 (0,0)) (by (with_reducible repeat (first|refine qah ?_ _|refine qai ?_|refine qag ?_ _));exact BK271.out) hb);have n2_ := Aside0.mk (qan (by repeat (first|(with_reducible first|exact HB.out|apply qab|apply qaa|apply qac|refine qae ?_ GE270.out|refine qae ?_ GE271.out)|exact HB.out)) hb);clear BK270;clear BK271;clear HB;have BK270 := n0_;have BK271 := n1_;have HB := n2_;clear n0_ n1_ n2_;(try clear hb);(try clear hb2);(try clear hk);(try clear hi);have hcz56_0 : w55.cell? ⟨gb271,0,none⟩ = some (.int .i64 x272000_4) := (qaf BK271.out 0).trans rfl;have hcz56_1 : w55.cell? ⟨gb271,1,none⟩ = some (.string x272001_21) := (qaf BK271.out 1).trans rfl;have hcz56_2 : w55.cell? ⟨gb271,2,none⟩ = some (.string x272002_21) := (qaf BK271.out 2).trans rfl;have hfz56_0 := qad BK271.out 0;have hfz56_1 := qad BK271.out 1;have hfz56_2 := qad BK271.out 2)|(go_at_call 95;have _t_ := tok62;clear _t_ tok62;(with_reducible refine (keelsonref2_text.calls kj21 x272000_4 x272001_21 x272002_21 t274 _ (by first|exact hG|exact GL.below hG (by repeat (first|(with_reducible first|exact HB.out|apply qab|apply qaa|apply qac|refine qae ?_ GE270.out|refine qae ?_ GE271.out)|exact HB.out)))  A41.out).mono ?_);rintro e w57 ⟨rfl,hb⟩;have n0_ := Aside0.mk (qap (g := gb270) (o := .cells #[.int .i64 0,.string (⟨#[]⟩ : ByteArray),.string (⟨#[]⟩ : ByteArray)] 90 (0,0)) (by (with_reducible repeat (first|refine qah ?_ _|refine qai ?_|refine qag ?_ _));exact BK270.out) hb);have n1_ := Aside0.mk (qap (g := gb271) (o := .cells #[.int .i64 x272000_4,.string x272001_21,.string x272002_21] 90 (0,0)) (by (with_reducible repeat (first|refine qah ?_ _|refine qai ?_|refine qag ?_ _));exact BK271.out) hb);have n2_ := Aside0.mk (qan (by repeat (first|(with_reducible first|exact HB.out|apply qab|apply qaa|apply qac|refine qae ?_ GE270.out|refine qae ?_ GE271.out)|exact HB.out)) hb);clear BK270;clear BK271;clear HB;have BK270 := n0_;have BK271 := n1_;have HB := n2_;clear n0_ n1_ n2_;(try clear hb);(try clear hb2);(try clear hk);(try clear hi);have hcz58_0 : w57.cell? ⟨gb271,0,none⟩ = some (.int .i64 x272000_4) := (qaf BK271.out 0).trans rfl;have hcz58_1 : w57.cell? ⟨gb271,1,none⟩ = some (.string x272001_21) := (qaf BK271.out 1).trans rfl;have hcz58_2 : w57.cell? ⟨gb271,2,none⟩ = some (.string x272002_21) := (qaf BK271.out 2).trans rfl;have hfz58_0 := qad BK271.out 0;have hfz58_1 := qad BK271.out 1;have hfz58_2 := qad BK271.out 2)|(go_at_call 95;have _t_ := tok63;clear _t_ tok63;(with_reducible refine (keelsonref2_text.calls kj21 x272000_4 x272001_21 x272002_21 t275 _ (by first|exact hG|exact GL.below hG (by repeat (first|(with_reducible first|exact HB.out|apply qab|apply qaa|apply qac|refine qae ?_ GE270.out|refine qae ?_ GE271.out)|exact HB.out)))  A50.out).mono ?_);rintro e w59 ⟨rfl,hb⟩;have n0_ := Aside0.mk (qap (g := gb270) (o := .cells #[.int .i64 0,.string (⟨#[]⟩ : ByteArray),.string (⟨#[]⟩ : ByteArray)] 90 (0,0)) (by (with_reducible repeat (first|refine qah ?_ _|refine qai ?_|refine qag ?_ _));exact BK270.out) hb);have n1_ := Aside0.mk (qap (g := gb271) (o := .cells #[.int .i64 x272000_4,.string x272001_21,.string x272002_21] 90 (0,0)) (by (with_reducible repeat (first|refine qah ?_ _|refine qai ?_|refine qag ?_ _));exact BK271.out) hb);have n2_ := Aside0.mk (qan (by repeat (first|(with_reducible first|exact HB.out|apply qab|apply qaa|apply qac|refine qae ?_ GE270.out|refine qae ?_ GE271.out)|exact HB.out)) hb);clear BK270;clear BK271;clear HB;have BK270 := n0_;have BK271 := n1_;have HB := n2_;clear n0_ n1_ n2_;(try clear hb);(try clear hb2);(try clear hk);(try clear hi);have hcz60_0 : w59.cell? ⟨gb271,0,none⟩ = some (.int .i64 x272000_4) := (qaf BK271.out 0).trans rfl;have hcz60_1 : w59.cell? ⟨gb271,1,none⟩ = some (.string x272001_21) := (qaf BK271.out 1).trans rfl;have hcz60_2 : w59.cell? ⟨gb271,2,none⟩ = some (.string x272002_21) := (qaf BK271.out 2).trans rfl;have hfz60_0 := qad BK271.out 0;have hfz60_1 := qad BK271.out 1;have hfz60_2 := qad BK271.out 2;have hcz61_0 : w59.cell? ⟨gb270,0,none⟩ = some (.int .i64 0) := (qaf BK270.out 0).trans rfl;have hcz61_1 : w59.cell? ⟨gb270,1,none⟩ = some (.string (⟨#[]⟩ : ByteArray)) := (qaf BK270.out 1).trans rfl;have hcz61_2 : w59.cell? ⟨gb270,2,none⟩ = some (.string (⟨#[]⟩ : ByteArray)) := (qaf BK270.out 2).trans rfl;have hfz61_0 := qad BK270.out 0;have hfz61_1 := qad BK270.out 1;have hfz61_2 := qad BK270.out 2))
          refine bodyPost_ret (results_ct rfl _ _ gb270 90 #[.int .i64 x272000_4,.string x272001_21,.string x272002_21] (0,0) _ rfl (by (with_reducible repeat (first|refine qah ?_ _|refine qai ?_|refine qag ?_ _));refine blk_put (cs := #[.int .i64 x272000_4,.string x272001_21,.string (⟨#[]⟩ : ByteArray)]) ?_ 2 _ rfl;(with_reducible repeat (first|refine qah ?_ _|refine qai ?_|refine qag ?_ _));refine blk_put (cs := #[.int .i64 x272000_4,.string (⟨#[]⟩ : ByteArray),.string (⟨#[]⟩ : ByteArray)]) ?_ 1 _ rfl;(with_reducible repeat (first|refine qah ?_ _|refine qai ?_|refine qag ?_ _));refine blk_put (cs := #[.int .i64 0,.string (⟨#[]⟩ : ByteArray),.string (⟨#[]⟩ : ByteArray)]) ?_ 0 _ rfl;(with_reducible repeat (first|refine qah ?_ _|refine qai ?_|refine qag ?_ _));exact BK270.out) Tryz.underlying90 rfl (by kernel_rfl)) rfl ?_
          exact ⟨by first|rfl|(simp [qak,qal]<;>rfl)|(simp [*,qak,qal]<;>rfl),by repeat (first|(with_reducible first|exact HB.out|apply qab|apply qaa|apply qac|refine qae ?_ GE270.out|refine qae ?_ GE271.out)|exact HB.out)⟩
         ·rw [if_neg c52] at H
          have c52b0 : (((⟨#[48,58]⟩ : ByteArray) ++ t275).toList == a0.toList) = false := beq_eq_false_iff_ne.mpr c52
          have c52b1 : (((⟨#[48,58]⟩ : ByteArray) ++ t275).toList != a0.toList) = true := bne_iff_ne.mpr c52
          simp only [Option.some.injEq,Prod.mk.injEq] at H
          obtain ⟨rfl,rfl,rfl,rfl⟩ := H
          have hnb64 := NB271_270.out
          have hnc64 := NB270_271.out
          have hcz65_0 : wc.cell? ⟨gb271,0,none⟩ = some (.int .i64 x272000_4) := (qaf BK271.out 0).trans rfl
          have hcz65_1 : wc.cell? ⟨gb271,1,none⟩ = some (.string x272001_21) := (qaf BK271.out 1).trans rfl
          have hcz65_2 : wc.cell? ⟨gb271,2,none⟩ = some (.string x272002_21) := (qaf BK271.out 2).trans rfl
          have hfz65_0 := qad BK271.out 0
          have hfz65_1 := qad BK271.out 1
          have hfz65_2 := qad BK271.out 2
          have tok72 : True := trivial
          have tok73 : True := trivial
          go_wp2_with (first|((with_reducible refine qam (f := 94) rfl ?_);refine goesL_ (some 59) rfl rfl Tryz.func94 (by kernel_rfl) rfl #[.agg #[.int .i64 x272000_4,.string x272001_21,.string x272002_21]] rfl (by first|rfl|(simp only [List.map_toArray,List.map_cons,List.map_nil,List.length_drop,List.length_take];rfl)|simp only [List.map_toArray,List.map_cons,List.map_nil]) ?_;(with_reducible refine (keelsonref2_Right.calls kj21 x272000_4 x272001_21 x272002_21 true _ (by first|exact hG|exact GL.below hG (by repeat (first|(with_reducible first|exact HB.out|apply qab|apply qaa|apply qac|refine qae ?_ GE270.out|refine qae ?_ GE271.out)|exact HB.out)))  A39.out).mono ?_);rintro e w66 ⟨rfl,hb⟩;refine ⟨_,rfl,?_⟩;have n0_ := Aside0.mk (qap (g := gb270) (o := .cells #[.int .i64 0,.string (⟨#[]⟩ : ByteArray),.string (⟨#[]⟩ : ByteArray)] 90 (0,0)) (by (with_reducible repeat (first|refine qah ?_ _|refine qai ?_|refine qag ?_ _));exact BK270.out) hb);have n1_ := Aside0.mk (qap (g := gb271) (o := .cells #[.int .i64 x272000_4,.string x272001_21,.string x272002_21] 90 (0,0)) (by (with_reducible repeat (first|refine qah ?_ _|refine qai ?_|refine qag ?_ _));exact BK271.out) hb);have n2_ := Aside0.mk (qan (by repeat (first|(with_reducible first|exact HB.out|apply qab|apply qaa|apply qac|refine qae ?_ GE270.out|refine qae ?_ GE271.out)|exact HB.out)) hb);clear BK270;clear BK271;clear HB;have BK270 := n0_;have BK271 := n1_;have HB := n2_;clear n0_ n1_ n2_;(try clear hb);(try clear hb2);(try clear hk);(try clear hi);have hcz67_0 : w66.cell? ⟨gb271,0,none⟩ = some (.int .i64 x272000_4) := (qaf BK271.out 0).trans rfl;have hcz67_1 : w66.cell? ⟨gb271,1,none⟩ = some (.string x272001_21) := (qaf BK271.out 1).trans rfl;have hcz67_2 : w66.cell? ⟨gb271,2,none⟩ = some (.string x272002_21) := (qaf BK271.out 2).trans rfl;have hfz67_0 := qad BK271.out 0;have hfz67_1 := qad BK271.out 1;have hfz67_2 := qad BK271.out 2)|(go_at_call 95;have _t_ := tok72;clear _t_ tok72;(with_reducible refine (keelsonref2_text.calls kj21 x272000_4 x272001_21 x272002_21 t274 _ (by first|exact hG|exact GL.below hG (by repeat (first|(with_reducible first|exact HB.out|apply qab|apply qaa|apply qac|refine qae ?_ GE270.out|refine qae ?_ GE271.out)|exact HB.out)))  A41.out).mono ?_);rintro e w68 ⟨rfl,hb⟩;have n0_ := Aside0.mk (qap (g := gb270) (o := .cells #[.int .i64 0,.string (⟨#[]⟩ : ByteArray),.string (⟨#[]⟩ : ByteArray)] 90 (0,0)) (by (with_reducible repeat (first|refine qah ?_ _|refine qai ?_|refine qag ?_ _));exact BK270.out) hb);have n1_ := Aside0.mk (qap (g := gb271) (o := .cells #[.int .i64 x272000_4,.string x272001_21,.string x272002_21] 90 (0,0)) (by (with_reducible repeat (first|refine qah ?_ _|refine qai ?_|refine qag ?_ _));exact BK271.out) hb);have n2_ := Aside0.mk (qan (by repeat (first|(with_reducible first|exact HB.out|apply qab|apply qaa|apply qac|refine qae ?_ GE270.out|refine qae ?_ GE271.out)|exact HB.out)) hb);clear BK270;clear BK271;clear HB;have BK270 := n0_;have BK271 := n1_;have HB := n2_;clear n0_ n1_ n2_;(try clear hb);(try clear hb2);(try clear hk);(try clear hi);have hcz69_0 : w68.cell? ⟨gb271,0,none⟩ = some (.int .i64 x272000_4) := (qaf BK271.out 0).trans rfl;have hcz69_1 : w68.cell? ⟨gb271,1,none⟩ = some (.string x272001_21) := (qaf BK271.out 1).trans rfl;have hcz69_2 : w68.cell? ⟨gb271,2,none⟩ = some (.string x272002_21) := (qaf BK271.out 2).trans rfl;have hfz69_0 := qad BK271.out 0;have hfz69_1 := qad BK271.out 1;have hfz69_2 := qad BK271.out 2)|(go_at_call 95;have _t_ := tok73;clear _t_ tok73;(with_reducible refine (keelsonref2_text.calls kj21 x272000_4 x272001_21 x272002_21 t275 _ (by first|exact hG|exact GL.below hG (by repeat (first|(with_reducible first|exact HB.out|apply qab|apply qaa|apply qac|refine qae ?_ GE270.out|refine qae ?_ GE271.out)|exact HB.out)))  A50.out).mono ?_);rintro e w70 ⟨rfl,hb⟩;have n0_ := Aside0.mk (qap (g := gb270) (o := .cells #[.int .i64 0,.string (⟨#[]⟩ : ByteArray),.string (⟨#[]⟩ : ByteArray)] 90 (0,0)) (by (with_reducible repeat (first|refine qah ?_ _|refine qai ?_|refine qag ?_ _));exact BK270.out) hb);have n1_ := Aside0.mk (qap (g := gb271) (o := .cells #[.int .i64 x272000_4,.string x272001_21,.string x272002_21] 90 (0,0)) (by (with_reducible repeat (first|refine qah ?_ _|refine qai ?_|refine qag ?_ _));exact BK271.out) hb);have n2_ := Aside0.mk (qan (by repeat (first|(with_reducible first|exact HB.out|apply qab|apply qaa|apply qac|refine qae ?_ GE270.out|refine qae ?_ GE271.out)|exact HB.out)) hb);clear BK270;clear BK271;clear HB;have BK270 := n0_;have BK271 := n1_;have HB := n2_;clear n0_ n1_ n2_;(try clear hb);(try clear hb2);(try clear hk);(try clear hi);have hcz71_0 : w70.cell? ⟨gb270,0,none⟩ = some (.int .i64 0) := (qaf BK270.out 0).trans rfl;have hcz71_1 : w70.cell? ⟨gb270,1,none⟩ = some (.string (⟨#[]⟩ : ByteArray)) := (qaf BK270.out 1).trans rfl;have hcz71_2 : w70.cell? ⟨gb270,2,none⟩ = some (.string (⟨#[]⟩ : ByteArray)) := (qaf BK270.out 2).trans rfl;have hfz71_0 := qad BK270.out 0;have hfz71_1 := qad BK270.out 1;have hfz71_2 := qad BK270.out 2))
          refine bodyPost_ret (results_ct rfl _ _ gb270 90 #[.int .i64 0,.string (⟨#[]⟩ : ByteArray),.string (⟨#[]⟩ : ByteArray)] (0,0) _ rfl (by (with_reducible repeat (first|refine qah ?_ _|refine qai ?_|refine qag ?_ _));refine blk_put (cs := #[.int .i64 0,.string (⟨#[]⟩ : ByteArray),.string (⟨#[]⟩ : ByteArray)]) ?_ 2 _ rfl;(with_reducible repeat (first|refine qah ?_ _|refine qai ?_|refine qag ?_ _));refine blk_put (cs := #[.int .i64 0,.string (⟨#[]⟩ : ByteArray),.string (⟨#[]⟩ : ByteArray)]) ?_ 1 _ rfl;(with_reducible repeat (first|refine qah ?_ _|refine qai ?_|refine qag ?_ _));refine blk_put (cs := #[.int .i64 0,.string (⟨#[]⟩ : ByteArray),.string (⟨#[]⟩ : ByteArray)]) ?_ 0 _ rfl;(with_reducible repeat (first|refine qah ?_ _|refine qai ?_|refine qag ?_ _));exact BK270.out) Tryz.underlying90 rfl (by kernel_rfl)) rfl ?_
          exact ⟨by first|rfl|(simp [qak,qal]<;>rfl)|(simp [*,qak,qal]<;>rfl),by repeat (first|(with_reducible first|exact HB.out|apply qab|apply qaa|apply qac|refine qae ?_ GE270.out|refine qae ?_ GE271.out)|exact HB.out)⟩
        ·rw [if_neg c51] at H
         exact absurd H (by simp)
      ·replace c40 := Bool.eq_false_iff.mpr c40
       subst c40
       have H1 : (some (0,(⟨#[]⟩ : ByteArray),(⟨#[]⟩ : ByteArray),4)) = some (r1,r2,r3,r4) := by rw [if_neg (show ¬ (false = true) by decide)] at H;exact H
       clear H
       have H := H1
       clear H1
       simp only [Option.some.injEq,Prod.mk.injEq] at H
       obtain ⟨rfl,rfl,rfl,rfl⟩ := H
       have hnb74 := NB271_270.out
       have hnc74 := NB270_271.out
       have hcz75_0 : wc.cell? ⟨gb271,0,none⟩ = some (.int .i64 x272000_4) := (qaf BK271.out 0).trans rfl
       have hcz75_1 : wc.cell? ⟨gb271,1,none⟩ = some (.string x272001_21) := (qaf BK271.out 1).trans rfl
       have hcz75_2 : wc.cell? ⟨gb271,2,none⟩ = some (.string x272002_21) := (qaf BK271.out 2).trans rfl
       have hfz75_0 := qad BK271.out 0
       have hfz75_1 := qad BK271.out 1
       have hfz75_2 := qad BK271.out 2
       go_wp2_with (first|((with_reducible refine qam (f := 94) rfl ?_);refine goesL_ (some 59) rfl rfl Tryz.func94 (by kernel_rfl) rfl #[.agg #[.int .i64 x272000_4,.string x272001_21,.string x272002_21]] rfl (by first|rfl|(simp only [List.map_toArray,List.map_cons,List.map_nil,List.length_drop,List.length_take];rfl)|simp only [List.map_toArray,List.map_cons,List.map_nil]) ?_;(with_reducible refine (keelsonref2_Right.calls kj21 x272000_4 x272001_21 x272002_21 false _ (by first|exact hG|exact GL.below hG (by repeat (first|(with_reducible first|exact HB.out|apply qab|apply qaa|apply qac|refine qae ?_ GE270.out|refine qae ?_ GE271.out)|exact HB.out)))  A39.out).mono ?_);rintro e w76 ⟨rfl,hb⟩;refine ⟨_,rfl,?_⟩;have n0_ := Aside0.mk (qap (g := gb270) (o := .cells #[.int .i64 0,.string (⟨#[]⟩ : ByteArray),.string (⟨#[]⟩ : ByteArray)] 90 (0,0)) (by (with_reducible repeat (first|refine qah ?_ _|refine qai ?_|refine qag ?_ _));exact BK270.out) hb);have n1_ := Aside0.mk (qap (g := gb271) (o := .cells #[.int .i64 x272000_4,.string x272001_21,.string x272002_21] 90 (0,0)) (by (with_reducible repeat (first|refine qah ?_ _|refine qai ?_|refine qag ?_ _));exact BK271.out) hb);have n2_ := Aside0.mk (qan (by repeat (first|(with_reducible first|exact HB.out|apply qab|apply qaa|apply qac|refine qae ?_ GE270.out|refine qae ?_ GE271.out)|exact HB.out)) hb);clear BK270;clear BK271;clear HB;have BK270 := n0_;have BK271 := n1_;have HB := n2_;clear n0_ n1_ n2_;(try clear hb);(try clear hb2);(try clear hk);(try clear hi);have hcz77_0 : w76.cell? ⟨gb270,0,none⟩ = some (.int .i64 0) := (qaf BK270.out 0).trans rfl;have hcz77_1 : w76.cell? ⟨gb270,1,none⟩ = some (.string (⟨#[]⟩ : ByteArray)) := (qaf BK270.out 1).trans rfl;have hcz77_2 : w76.cell? ⟨gb270,2,none⟩ = some (.string (⟨#[]⟩ : ByteArray)) := (qaf BK270.out 2).trans rfl;have hfz77_0 := qad BK270.out 0;have hfz77_1 := qad BK270.out 1;have hfz77_2 := qad BK270.out 2))
       refine bodyPost_ret (results_ct rfl _ _ gb270 90 #[.int .i64 0,.string (⟨#[]⟩ : ByteArray),.string (⟨#[]⟩ : ByteArray)] (0,0) _ rfl (by (with_reducible repeat (first|refine qah ?_ _|refine qai ?_|refine qag ?_ _));refine blk_put (cs := #[.int .i64 0,.string (⟨#[]⟩ : ByteArray),.string (⟨#[]⟩ : ByteArray)]) ?_ 2 _ rfl;(with_reducible repeat (first|refine qah ?_ _|refine qai ?_|refine qag ?_ _));refine blk_put (cs := #[.int .i64 0,.string (⟨#[]⟩ : ByteArray),.string (⟨#[]⟩ : ByteArray)]) ?_ 1 _ rfl;(with_reducible repeat (first|refine qah ?_ _|refine qai ?_|refine qag ?_ _));refine blk_put (cs := #[.int .i64 0,.string (⟨#[]⟩ : ByteArray),.string (⟨#[]⟩ : ByteArray)]) ?_ 0 _ rfl;(with_reducible repeat (first|refine qah ?_ _|refine qai ?_|refine qag ?_ _));exact BK270.out) Tryz.underlying90 rfl (by kernel_rfl)) rfl ?_
       exact ⟨by first|rfl|(simp [qak,qal]<;>rfl)|(simp [*,qak,qal]<;>rfl),by repeat (first|(with_reducible first|exact HB.out|apply qab|apply qaa|apply qac|refine qae ?_ GE270.out|refine qae ?_ GE271.out)|exact HB.out)⟩
def keelsonref2_Print.f (k : Nat) (a0_0 : Int) (a0_1 : ByteArray) (a0_2 : ByteArray) : Option (ByteArray) := (keelsonref2_Right.f k a0_0 a0_1 a0_2).bind fun t277 => (if t277 = true then ((keelsonref2_text.f k a0_0 a0_1 a0_2).bind fun t278 => (some t278)) else (some (⟨#[]⟩ : ByteArray)))
theorem keelsonref2_Print.mono : ∀ a0 a1 a2 k,LeO (keelsonref2_Print.f k a0 a1 a2) (keelsonref2_Print.f (k + 1) a0 a1 a2) := by
 intro a0 a1 a2 k
 unfold keelsonref2_Print.f
 repeat' first
   | (with_reducible exact keelsonref2_Right.mono _ _ _ _)
   | (with_reducible exact keelsonref2_text.mono _ _ _ _)
   | (with_reducible exact LeO.refl _)
   | (with_reducible exact LeO.none _)
   | (with_reducible refine LeO.ite ?_ ?_)
   | (with_reducible refine LeO.bind ?_ (fun _ => ?_))
   | exact keelsonref2_Right.mono _ _ _ _
   | exact keelsonref2_text.mono _ _ _ _
   | exact LeO.none _
   | refine LeO.ite ?_ ?_
   | refine LeO.bind ?_ (fun _ => ?_)
theorem keelsonref2_Print.calls (k : Nat) (a0_0 : Int) (a0_1 : ByteArray) (a0_2 : ByteArray) (r : ByteArray) (w : World) (hG : GL w) (h : keelsonref2_Print.f k a0_0 a0_1 a0_2 = some r) :
  Calls Tryz.prog 71 #[.agg #[.int .i64 a0_0,.string a0_1,.string a0_2]] w fun e w' => e = .returned (.string r) ∧ Below w.heap.size w w' := by
 have hu90 := Tryz.underlying90
 have HB := Aside0.mk (Below.refl w.heap.size w)
 have H : ((keelsonref2_Right.f k a0_0 a0_1 a0_2).bind fun t277 => (if t277 = true then ((keelsonref2_text.f k a0_0 a0_1 a0_2).bind fun t278 => (some t278)) else (some (⟨#[]⟩ : ByteArray)))) = some r := h
 clear h
 replace H := Option.bind_eq_some_iff.mp H
 obtain ⟨t277,A20,H⟩ := H
 replace H : (if t277 = true then ((keelsonref2_text.f k a0_0 a0_1 a0_2).bind fun t278 => (some t278)) else (some (⟨#[]⟩ : ByteArray))) = some r := H
 have A2 := Aside0.mk A20
 clear A20
 by_cases c3 : t277 = true
 ·subst c3
  have H1 : ((keelsonref2_text.f k a0_0 a0_1 a0_2).bind fun t278 => (some t278)) = some r := by rw [if_pos rfl] at H;exact H
  clear H
  have H := H1
  clear H1
  replace H := Option.bind_eq_some_iff.mp H
  obtain ⟨t278,A40,H⟩ := H
  replace H : (some t278) = some r := H
  have A4 := Aside0.mk A40
  clear A40
  obtain rfl := Option.some.inj H
  go_enter Tryz.func71,Tryz.ntmps71
  go_wp2_with (first|((with_reducible refine gate_dst (N := 1) rfl ?_);refine box_event ?hg (N := 1) ?hd (cs := #[.int .i64 a0_0,.string a0_1,.string a0_2]) (t := 90) ?hr ?_;(case hd => rfl);(case hg => rfl);(case hr => first|(go_simp;done)|(go_simp;rfl));intro gb276 hg w5 hbox hb;have n0_ := Aside0.mk (qan (by repeat (with_reducible first|exact HB.out|apply qab|apply qaa|apply qac)) hb);have n1_ := Aside0.mk (hbox);have n2_ := Aside0.mk ((by rw [hg];exact (qao (by repeat (with_reducible first|exact HB.out|apply qab|apply qaa|apply qac))) : w.heap.size ≤ gb276));have n3_ := Aside0.mk ((by rw [hg];exact (qao (by repeat (with_reducible first|exact HB.out|apply qab|apply qaa|apply qac))) : w.heap.size ≤ gb276));clear HB;have HB := n0_;have BK276 := n1_;have GW276 := n2_;have GE276 := n3_;clear n0_ n1_ n2_ n3_;clear hb hbox hg;have hcz6_0 : w5.cell? ⟨gb276,0,none⟩ = some (.int .i64 a0_0) := (qaf BK276.out 0).trans rfl;have hcz6_1 : w5.cell? ⟨gb276,1,none⟩ = some (.string a0_1) := (qaf BK276.out 1).trans rfl;have hcz6_2 : w5.cell? ⟨gb276,2,none⟩ = some (.string a0_2) := (qaf BK276.out 2).trans rfl;have hfz6_0 := qad BK276.out 0;have hfz6_1 := qad BK276.out 1;have hfz6_2 := qad BK276.out 2)|((with_reducible refine qam (f := 94) rfl ?_);refine goesL_ (some 5) rfl rfl Tryz.func94 (by kernel_rfl) rfl #[.agg #[.int .i64 a0_0,.string a0_1,.string a0_2]] rfl (by first|rfl|(simp only [List.map_toArray,List.map_cons,List.map_nil,List.length_drop,List.length_take];rfl)|simp only [List.map_toArray,List.map_cons,List.map_nil]) ?_;(with_reducible refine (keelsonref2_Right.calls k a0_0 a0_1 a0_2 true _ (by first|exact hG|exact GL.below hG (by repeat (first|(with_reducible first|exact HB.out|apply qab|apply qaa|apply qac|refine qae ?_ GE276.out)|exact HB.out)))  A2.out).mono ?_);rintro e w7 ⟨rfl,hb⟩;refine ⟨_,rfl,?_⟩;have n0_ := Aside0.mk (qap (g := gb276) (o := .cells #[.int .i64 a0_0,.string a0_1,.string a0_2] 90 (0,0)) (by (with_reducible repeat (first|refine qah ?_ _|refine qai ?_|refine qag ?_ _));exact BK276.out) hb);have n1_ := Aside0.mk (qan (by repeat (first|(with_reducible first|exact HB.out|apply qab|apply qaa|apply qac|refine qae ?_ GE276.out)|exact HB.out)) hb);clear BK276;clear HB;have BK276 := n0_;have HB := n1_;clear n0_ n1_;(try clear hb);(try clear hb2);(try clear hk);(try clear hi);have hcz8_0 : w7.cell? ⟨gb276,0,none⟩ = some (.int .i64 a0_0) := (qaf BK276.out 0).trans rfl;have hcz8_1 : w7.cell? ⟨gb276,1,none⟩ = some (.string a0_1) := (qaf BK276.out 1).trans rfl;have hcz8_2 : w7.cell? ⟨gb276,2,none⟩ = some (.string a0_2) := (qaf BK276.out 2).trans rfl;have hfz8_0 := qad BK276.out 0;have hfz8_1 := qad BK276.out 1;have hfz8_2 := qad BK276.out 2)|((with_reducible refine qam (f := 95) rfl ?_);refine goesL_ (some 9) rfl rfl Tryz.func95 (by kernel_rfl) rfl #[.agg #[.int .i64 a0_0,.string a0_1,.string a0_2]] rfl (by first|rfl|(simp only [List.map_toArray,List.map_cons,List.map_nil,List.length_drop,List.length_take];rfl)|simp only [List.map_toArray,List.map_cons,List.map_nil]) ?_;(with_reducible refine (keelsonref2_text.calls k a0_0 a0_1 a0_2 t278 _ (by first|exact hG|exact GL.below hG (by repeat (first|(with_reducible first|exact HB.out|apply qab|apply qaa|apply qac|refine qae ?_ GE276.out)|exact HB.out)))  A4.out).mono ?_);rintro e w9 ⟨rfl,hb⟩;refine ⟨_,rfl,?_⟩;have n0_ := Aside0.mk (qap (g := gb276) (o := .cells #[.int .i64 a0_0,.string a0_1,.string a0_2] 90 (0,0)) (by (with_reducible repeat (first|refine qah ?_ _|refine qai ?_|refine qag ?_ _));exact BK276.out) hb);have n1_ := Aside0.mk (qan (by repeat (first|(with_reducible first|exact HB.out|apply qab|apply qaa|apply qac|refine qae ?_ GE276.out)|exact HB.out)) hb);clear BK276;clear HB;have BK276 := n0_;have HB := n1_;clear n0_ n1_;(try clear hb);(try clear hb2);(try clear hk);(try clear hi)))
  go_ret
  exact ⟨by first|rfl|(simp [qak,qal]<;>rfl)|(simp [*,qak,qal]<;>rfl),by repeat (first|(with_reducible first|exact HB.out|apply qab|apply qaa|apply qac|refine qae ?_ GE276.out)|exact HB.out)⟩
 ·replace c3 := Bool.eq_false_iff.mpr c3
  subst c3
  have H1 : (some (⟨#[]⟩ : ByteArray)) = some r := by rw [if_neg (show ¬ (false = true) by decide)] at H;exact H
  clear H
  have H := H1
  clear H1
  obtain rfl := Option.some.inj H
  go_enter Tryz.func71,Tryz.ntmps71
  go_wp2_with (first|((with_reducible refine gate_dst (N := 1) rfl ?_);refine box_event ?hg (N := 1) ?hd (cs := #[.int .i64 a0_0,.string a0_1,.string a0_2]) (t := 90) ?hr ?_;(case hd => rfl);(case hg => rfl);(case hr => first|(go_simp;done)|(go_simp;rfl));intro gb276 hg w10 hbox hb;have n0_ := Aside0.mk (qan (by repeat (with_reducible first|exact HB.out|apply qab|apply qaa|apply qac)) hb);have n1_ := Aside0.mk (hbox);have n2_ := Aside0.mk ((by rw [hg];exact (qao (by repeat (with_reducible first|exact HB.out|apply qab|apply qaa|apply qac))) : w.heap.size ≤ gb276));have n3_ := Aside0.mk ((by rw [hg];exact (qao (by repeat (with_reducible first|exact HB.out|apply qab|apply qaa|apply qac))) : w.heap.size ≤ gb276));clear HB;have HB := n0_;have BK276 := n1_;have GW276 := n2_;have GE276 := n3_;clear n0_ n1_ n2_ n3_;clear hb hbox hg;have hcz11_0 : w10.cell? ⟨gb276,0,none⟩ = some (.int .i64 a0_0) := (qaf BK276.out 0).trans rfl;have hcz11_1 : w10.cell? ⟨gb276,1,none⟩ = some (.string a0_1) := (qaf BK276.out 1).trans rfl;have hcz11_2 : w10.cell? ⟨gb276,2,none⟩ = some (.string a0_2) := (qaf BK276.out 2).trans rfl;have hfz11_0 := qad BK276.out 0;have hfz11_1 := qad BK276.out 1;have hfz11_2 := qad BK276.out 2)|((with_reducible refine qam (f := 94) rfl ?_);refine goesL_ (some 5) rfl rfl Tryz.func94 (by kernel_rfl) rfl #[.agg #[.int .i64 a0_0,.string a0_1,.string a0_2]] rfl (by first|rfl|(simp only [List.map_toArray,List.map_cons,List.map_nil,List.length_drop,List.length_take];rfl)|simp only [List.map_toArray,List.map_cons,List.map_nil]) ?_;(with_reducible refine (keelsonref2_Right.calls k a0_0 a0_1 a0_2 false _ (by first|exact hG|exact GL.below hG (by repeat (first|(with_reducible first|exact HB.out|apply qab|apply qaa|apply qac|refine qae ?_ GE276.out)|exact HB.out)))  A2.out).mono ?_);rintro e w12 ⟨rfl,hb⟩;refine ⟨_,rfl,?_⟩;have n0_ := Aside0.mk (qap (g := gb276) (o := .cells #[.int .i64 a0_0,.string a0_1,.string a0_2] 90 (0,0)) (by (with_reducible repeat (first|refine qah ?_ _|refine qai ?_|refine qag ?_ _));exact BK276.out) hb);have n1_ := Aside0.mk (qan (by repeat (first|(with_reducible first|exact HB.out|apply qab|apply qaa|apply qac|refine qae ?_ GE276.out)|exact HB.out)) hb);clear BK276;clear HB;have BK276 := n0_;have HB := n1_;clear n0_ n1_;(try clear hb);(try clear hb2);(try clear hk);(try clear hi)))
  go_ret
  exact ⟨by first|rfl|(simp [qak,qal]<;>rfl)|(simp [*,qak,qal]<;>rfl),by repeat (first|(with_reducible first|exact HB.out|apply qab|apply qaa|apply qac|refine qae ?_ GE276.out)|exact HB.out)⟩
def keelsonref3_plain.f (k : Nat) (a0 : ByteArray) : Option (Bool) := (keelsonref2_Parse.f k a0).bind fun bt279 => (if bt279.2.2.2 = 0 then ((keelsonref2_Print.f k bt279.1 bt279.2.1 bt279.2.2.1).bind fun t284 => (some (t284.toList == a0.toList))) else (some false))
theorem keelsonref3_plain.mono : ∀ a0 k,LeO (keelsonref3_plain.f k a0) (keelsonref3_plain.f (k + 1) a0) := by
 intro a0 k
 unfold keelsonref3_plain.f
 repeat' first
   | (with_reducible exact keelsonref2_Parse.mono _ _)
   | (with_reducible exact keelsonref2_Print.mono _ _ _ _)
   | (with_reducible exact LeO.refl _)
   | (with_reducible exact LeO.none _)
   | (with_reducible refine LeO.ite ?_ ?_)
   | (with_reducible refine LeO.bind ?_ (fun _ => ?_))
   | exact keelsonref2_Parse.mono _ _
   | exact keelsonref2_Print.mono _ _ _ _
   | exact LeO.none _
   | refine LeO.ite ?_ ?_
   | refine LeO.bind ?_ (fun _ => ?_)
theorem keelsonref3_plain.calls (k : Nat) (a0 : ByteArray) (r : Bool) (w : World) (hG : GL w) (h : keelsonref3_plain.f k a0 = some r) :
  Calls Tryz.prog 43 #[.string a0] w fun e w' => e = .returned (.bool r) ∧ Below w.heap.size w w' := by
 have hu90 := Tryz.underlying90
 have HB := Aside0.mk (Below.refl w.heap.size w)
 have H : ((keelsonref2_Parse.f k a0).bind fun bt279 => (if bt279.2.2.2 = 0 then ((keelsonref2_Print.f k bt279.1 bt279.2.1 bt279.2.2.1).bind fun t284 => (some (t284.toList == a0.toList))) else (some false))) = some r := h
 clear h
 replace H := Option.bind_eq_some_iff.mp H
 obtain ⟨⟨t279,t280,t281,t282⟩,A20,H⟩ := H
 replace H : (if t282 = 0 then ((keelsonref2_Print.f k t279 t280 t281).bind fun t284 => (some (t284.toList == a0.toList))) else (some false)) = some r := H
 have A2 := Aside0.mk A20
 clear A20
 by_cases c3 : t282 = 0
 ·rw [if_pos c3] at H
  have c3b0 : (t282 == 0) = true := beq_iff_eq.mpr c3
  have c3b1 : (t282 != 0) = false := bne_eq_false_iff_eq.mpr c3
  clear c3
  replace H := Option.bind_eq_some_iff.mp H
  obtain ⟨t284,A40,H⟩ := H
  replace H : (some (t284.toList == a0.toList)) = some r := H
  have A4 := Aside0.mk A40
  clear A40
  obtain rfl := Option.some.inj H
  go_enter Tryz.func43,Tryz.ntmps43
  go_wp2_with (first|((with_reducible refine qam (f := 70) rfl ?_);refine goesL_ (some 7) rfl rfl Tryz.func70 (by kernel_rfl) rfl #[.string a0] rfl (by first|rfl|(simp only [List.map_toArray,List.map_cons,List.map_nil,List.length_drop,List.length_take];rfl)|simp only [List.map_toArray,List.map_cons,List.map_nil]) ?_;(with_reducible refine (keelsonref2_Parse.calls k a0 t279 t280 t281 t282 _ (by first|exact hG|exact GL.below hG (by repeat (with_reducible first|exact HB.out|apply qab|apply qaa|apply qac)))  A2.out).mono ?_);rintro e w5 ⟨rfl,hb⟩;refine ⟨_,rfl,?_⟩;have n0_ := Aside0.mk (qan (by repeat (with_reducible first|exact HB.out|apply qab|apply qaa|apply qac)) hb);clear HB;have HB := n0_;clear n0_;(try clear hb);(try clear hb2);(try clear hk);(try clear hi))|((with_reducible refine gate_dst (N := 3) rfl ?_);refine box_event ?hg (N := 3) ?hd (cs := #[.int .i64 0,.string (⟨#[]⟩ : ByteArray),.string (⟨#[]⟩ : ByteArray)]) (t := 90) ?hr ?_;(case hd => rfl);(case hg => rfl);(case hr => first|(go_simp;done)|(go_simp;rfl));intro gb283 hg w6 hbox hb;have n0_ := Aside0.mk (qan (by repeat (with_reducible first|exact HB.out|apply qab|apply qaa|apply qac)) hb);have n1_ := Aside0.mk (hbox);have n2_ := Aside0.mk ((by rw [hg];exact (qao (by repeat (with_reducible first|exact HB.out|apply qab|apply qaa|apply qac))) : w.heap.size ≤ gb283));have n3_ := Aside0.mk ((by rw [hg];exact (qao (by repeat (with_reducible first|exact HB.out|apply qab|apply qaa|apply qac))) : w.heap.size ≤ gb283));clear HB;have HB := n0_;have BK283 := n1_;have GW283 := n2_;have GE283 := n3_;clear n0_ n1_ n2_ n3_;clear hb hbox hg;have hcz7_0 : w6.cell? ⟨gb283,0,none⟩ = some (.int .i64 0) := (qaf BK283.out 0).trans rfl;have hcz7_1 : w6.cell? ⟨gb283,1,none⟩ = some (.string (⟨#[]⟩ : ByteArray)) := (qaf BK283.out 1).trans rfl;have hcz7_2 : w6.cell? ⟨gb283,2,none⟩ = some (.string (⟨#[]⟩ : ByteArray)) := (qaf BK283.out 2).trans rfl;have hfz7_0 := qad BK283.out 0;have hfz7_1 := qad BK283.out 1;have hfz7_2 := qad BK283.out 2)|(go_at_call 71;(with_reducible refine (keelsonref2_Print.calls k t279 t280 t281 t284 _ (by first|exact hG|exact GL.below hG (by repeat (first|(with_reducible first|exact HB.out|apply qab|apply qaa|apply qac|refine qae ?_ GE283.out)|exact HB.out)))  A4.out).mono ?_);rintro e w8 ⟨rfl,hb⟩;have n0_ := Aside0.mk (qap (g := gb283) (o := .cells #[.int .i64 t279,.string t280,.string t281] 90 (0,0)) (by (with_reducible repeat (first|refine qah ?_ _|refine qai ?_|refine qag ?_ _));refine blk_put (cs := #[.int .i64 t279,.string t280,.string (⟨#[]⟩ : ByteArray)]) ?_ 2 _ rfl;(with_reducible repeat (first|refine qah ?_ _|refine qai ?_|refine qag ?_ _));refine blk_put (cs := #[.int .i64 t279,.string (⟨#[]⟩ : ByteArray),.string (⟨#[]⟩ : ByteArray)]) ?_ 1 _ rfl;(with_reducible repeat (first|refine qah ?_ _|refine qai ?_|refine qag ?_ _));refine blk_put (cs := #[.int .i64 0,.string (⟨#[]⟩ : ByteArray),.string (⟨#[]⟩ : ByteArray)]) ?_ 0 _ rfl;(with_reducible repeat (first|refine qah ?_ _|refine qai ?_|refine qag ?_ _));exact BK283.out) hb);have n1_ := Aside0.mk (qan (by repeat (first|(with_reducible first|exact HB.out|apply qab|apply qaa|apply qac|refine qae ?_ GE283.out)|exact HB.out)) hb);clear BK283;clear HB;have BK283 := n0_;have HB := n1_;clear n0_ n1_;(try clear hb);(try clear hb2);(try clear hk);(try clear hi)))
  go_ret
  exact ⟨by first|rfl|(simp [qak,qal]<;>rfl)|(simp [*,qak,qal]<;>rfl),by repeat (first|(with_reducible first|exact HB.out|apply qab|apply qaa|apply qac|refine qae ?_ GE283.out)|exact HB.out)⟩
 ·rw [if_neg c3] at H
  have c3b0 : (t282 == 0) = false := beq_eq_false_iff_ne.mpr c3
  have c3b1 : (t282 != 0) = true := bne_iff_ne.mpr c3
  obtain rfl := Option.some.inj H
  go_enter Tryz.func43,Tryz.ntmps43
  go_wp2_with (first|((with_reducible refine qam (f := 70) rfl ?_);refine goesL_ (some 7) rfl rfl Tryz.func70 (by kernel_rfl) rfl #[.string a0] rfl (by first|rfl|(simp only [List.map_toArray,List.map_cons,List.map_nil,List.length_drop,List.length_take];rfl)|simp only [List.map_toArray,List.map_cons,List.map_nil]) ?_;(with_reducible refine (keelsonref2_Parse.calls k a0 t279 t280 t281 t282 _ (by first|exact hG|exact GL.below hG (by repeat (with_reducible first|exact HB.out|apply qab|apply qaa|apply qac)))  A2.out).mono ?_);rintro e w9 ⟨rfl,hb⟩;refine ⟨_,rfl,?_⟩;have n0_ := Aside0.mk (qan (by repeat (with_reducible first|exact HB.out|apply qab|apply qaa|apply qac)) hb);clear HB;have HB := n0_;clear n0_;(try clear hb);(try clear hb2);(try clear hk);(try clear hi))|((with_reducible refine gate_dst (N := 3) rfl ?_);refine box_event ?hg (N := 3) ?hd (cs := #[.int .i64 0,.string (⟨#[]⟩ : ByteArray),.string (⟨#[]⟩ : ByteArray)]) (t := 90) ?hr ?_;(case hd => rfl);(case hg => rfl);(case hr => first|(go_simp;done)|(go_simp;rfl));intro gb283 hg w10 hbox hb;have n0_ := Aside0.mk (qan (by repeat (with_reducible first|exact HB.out|apply qab|apply qaa|apply qac)) hb);have n1_ := Aside0.mk (hbox);have n2_ := Aside0.mk ((by rw [hg];exact (qao (by repeat (with_reducible first|exact HB.out|apply qab|apply qaa|apply qac))) : w.heap.size ≤ gb283));have n3_ := Aside0.mk ((by rw [hg];exact (qao (by repeat (with_reducible first|exact HB.out|apply qab|apply qaa|apply qac))) : w.heap.size ≤ gb283));clear HB;have HB := n0_;have BK283 := n1_;have GW283 := n2_;have GE283 := n3_;clear n0_ n1_ n2_ n3_;clear hb hbox hg;have hcz11_0 : w10.cell? ⟨gb283,0,none⟩ = some (.int .i64 0) := (qaf BK283.out 0).trans rfl;have hcz11_1 : w10.cell? ⟨gb283,1,none⟩ = some (.string (⟨#[]⟩ : ByteArray)) := (qaf BK283.out 1).trans rfl;have hcz11_2 : w10.cell? ⟨gb283,2,none⟩ = some (.string (⟨#[]⟩ : ByteArray)) := (qaf BK283.out 2).trans rfl;have hfz11_0 := qad BK283.out 0;have hfz11_1 := qad BK283.out 1;have hfz11_2 := qad BK283.out 2))
  go_ret
  exact ⟨by first|rfl|(simp [qak,qal]<;>rfl)|(simp [*,qak,qal]<;>rfl),by repeat (first|(with_reducible first|exact HB.out|apply qab|apply qaa|apply qac|refine qae ?_ GE283.out)|exact HB.out)⟩
end Go.Proofs.YtjbbgekkombpnaaGreatDoor.PA
