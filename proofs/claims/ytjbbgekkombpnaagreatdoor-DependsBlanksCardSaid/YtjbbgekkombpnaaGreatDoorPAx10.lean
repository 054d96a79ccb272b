
import Derived.Test.YtjbbgekkombpnaaGreatDoorPAx0
import Derived.Test.YtjbbgekkombpnaaGreatDoorPAx4
import Derived.Test.YtjbbgekkombpnaaGreatDoorPAx8
import Derived.Test.YtjbbgekkombpnaaGreatDoorPAx9
namespace Go.Proofs.YtjbbgekkombpnaaGreatDoor.PA
open Go.RowKit Go.Proofs.YtjbbgekkombpnaaGreatDoorW.PrintWords Go.Proofs.YtjbbgekkombpnaaGreatDoorW.PrintLast Go.Proofs.YtjbbgekkombpnaaGreatDoorW.PrintMore
attribute [local go_sem] max2_int min2_int max_two min_two max_three min_three max_four min_four
set_option maxHeartbeats 8000000
set_option maxRecDepth 100000
set_option linter.unusedVariables false
set_option linter.unusedSimpArgs false
def version_Compare.f (k : Nat) (a0_0 : Int) (a0_1 : ByteArray) (a0_2 : ByteArray) (a1_0 : Int) (a1_1 : ByteArray) (a1_2 : ByteArray) : Option (Int) := (cmp_Compare_int.f a0_0 a1_0).bind fun t221 => ((version_CompareText.f k a0_1 a1_1).bind fun t222 => ((version_CompareText.f k a0_2 a1_2).bind fun t223 => ((cmp_Or_int.f k (([t221,t222,t223] : List Int))).bind fun t227 => (some t227))))
theorem version_Compare.mono : ∀ a0 a1 a2 a3 a4 a5 k,LeO (version_Compare.f k a0 a1 a2 a3 a4 a5) (version_Compare.f (k + 1) a0 a1 a2 a3 a4 a5) := by
 intro a0 a1 a2 a3 a4 a5 k
 unfold version_Compare.f
 repeat' first
   | (with_reducible exact cmp_Or_int.mono _ _)
   | (with_reducible exact version_CompareText.mono _ _ _)
   | (with_reducible exact LeO.refl _)
   | (with_reducible exact LeO.none _)
   | (with_reducible refine LeO.ite ?_ ?_)
   | (with_reducible refine LeO.bind ?_ (fun _ => ?_))
   | exact cmp_Or_int.mono _ _
   | exact version_CompareText.mono _ _ _
   | exact LeO.none _
   | refine LeO.ite ?_ ?_
   | refine LeO.bind ?_ (fun _ => ?_)
def version_Compare.T1 : Bool × List (List Nat × List Nat) := (true,[([],[]),([0],[0]),([],[]),([2],[2]),([1,3],[1,3]),([],[]),([5],[5]),([],[]),([7],[7]),([6,8,4],[6,8]),([],[]),([10],[10]),([],[]),([12],[12]),([11,13,9],[11,13]),([4,9,14],[4,9,14]),([15,14],[15]),([16,16,0,1,2,3,4,5,6,7,8,9,10,11,12,13,14,15,16],[16])])
def version_Compare.B1 : List Nat := [0,1,0,4,15,0,32,0,128,511,0,1024,0,4096,16383,32767,65535,131071]
theorem version_Compare.tab1 : rtab .any (opsOf Tryz.f96 1) = version_Compare.T1 := by kernel_rfl
theorem version_Compare.bits1 : waitsOk version_Compare.T1.2 version_Compare.B1 = true := by kernel_rfl
theorem version_Compare.calls (k : Nat) (a0_0 : Int) (a0_1 : ByteArray) (a0_2 : ByteArray) (a1_0 : Int) (a1_1 : ByteArray) (a1_2 : ByteArray) (r : Int) (w : World) (hG : GL w) (h : version_Compare.f k a0_0 a0_1 a0_2 a1_0 a1_1 a1_2 = some r) :
  Calls Tryz.prog 96 #[.agg #[.int .i64 a0_0,.string a0_1,.string a0_2],.agg #[.int .i64 a1_0,.string a1_1,.string a1_2]] w fun e w' => e = .returned (.int .i64 r) ∧ Below w.heap.size w w' := by
 have hu90 := Tryz.underlying90
 have HB := Aside0.mk (Below.refl w.heap.size w)
 have H : ((cmp_Compare_int.f a0_0 a1_0).bind fun t221 => ((version_CompareText.f k a0_1 a1_1).bind fun t222 => ((version_CompareText.f k a0_2 a1_2).bind fun t223 => ((cmp_Or_int.f k (([t221,t222,t223] : List Int))).bind fun t227 => (some t227))))) = some r := h
 clear h
 replace H := Option.bind_eq_some_iff.mp H
 obtain ⟨t221,A30,H⟩ := H
 replace H : ((version_CompareText.f k a0_1 a1_1).bind fun t222 => ((version_CompareText.f k a0_2 a1_2).bind fun t223 => ((cmp_Or_int.f k (([t221,t222,t223] : List Int))).bind fun t227 => (some t227)))) = some r := H
 have A3 := Aside0.mk A30
 clear A30
 replace H := Option.bind_eq_some_iff.mp H
 obtain ⟨t222,A40,H⟩ := H
 replace H : ((version_CompareText.f k a0_2 a1_2).bind fun t223 => ((cmp_Or_int.f k (([t221,t222,t223] : List Int))).bind fun t227 => (some t227))) = some r := H
 have A4 := Aside0.mk A40
 clear A40
 replace H := Option.bind_eq_some_iff.mp H
 obtain ⟨t223,A50,H⟩ := H
 replace H : ((cmp_Or_int.f k (([t221,t222,t223] : List Int))).bind fun t227 => (some t227)) = some r := H
 have A5 := Aside0.mk A50
 clear A50
 obtain ⟨y224,hy224⟩ : ∃ y_ : List Int,y_ = (([t221,t222,t223] : List Int)) := ⟨_,rfl⟩
 replace H : ((cmp_Or_int.f k y224).bind fun t227 => (some t227)) = some r := by first|(rw [hy224];with_reducible exact H)|(have H2_ := (Option.bind_some _ _).symm.trans H;rw [hy224];with_reducible exact H2_)|(have H2_ := (Option.bind_some _ _).symm.trans H;with_reducible exact H2_) | with_reducible exact H|(rw [hy224];exact H)|exact H
 have Ny224 := Aside0.mk hy224
 clear hy224
 replace H := Option.bind_eq_some_iff.mp H
 obtain ⟨t227,A60,H⟩ := H
 replace H : (some t227) = some r := H
 have A6 := Aside0.mk A60
 clear A60
 obtain rfl := Option.some.inj H
 go_enter Tryz.func96,Tryz.ntmps96
 try go_wp2_with (first|((with_reducible refine gate_dst (N := 2) rfl ?_);refine box_event ?hg (N := 2) ?hd (cs := #[.int .i64 a0_0,.string a0_1,.string a0_2]) (t := 90) ?hr ?_;(case hd => rfl);(case hg => rfl);(case hr => first|(go_simp;done)|(go_simp;rfl));intro gb219 hg w7 hbox hb;have n0_ := Aside0.mk (qan (by repeat (with_reducible first|exact HB.out|apply qab|apply qaa|apply qac)) hb);have n1_ := Aside0.mk (hbox);have n2_ := Aside0.mk ((by rw [hg];exact (qao (by repeat (with_reducible first|exact HB.out|apply qab|apply qaa|apply qac))) : w.heap.size ≤ gb219));have n3_ := Aside0.mk ((by rw [hg];exact (qao (by repeat (with_reducible first|exact HB.out|apply qab|apply qaa|apply qac))) : w.heap.size ≤ gb219));clear HB;have HB := n0_;have BK219 := n1_;have GW219 := n2_;have GE219 := n3_;clear n0_ n1_ n2_ n3_;clear hb hbox hg)|((with_reducible refine gate_dst (N := 3) rfl ?_);refine box_event ?hg (N := 3) ?hd (cs := #[.int .i64 a1_0,.string a1_1,.string a1_2]) (t := 90) ?hr ?_;(case hd => rfl);(case hg => rfl);(case hr => first|(go_simp;done)|(go_simp;rfl));intro gb220 hg w8 hbox hb;have n0_ := Aside0.mk (qap (g := gb219) (o := .cells #[.int .i64 a0_0,.string a0_1,.string a0_2] 90 (0,0)) (by (with_reducible repeat (first|refine qah ?_ _|refine qai ?_|refine qag ?_ _));exact BK219.out) hb);have n1_ := Aside0.mk (qan (by repeat (first|(with_reducible first|exact HB.out|apply qab|apply qaa|apply qac|refine qae ?_ GE219.out)|exact HB.out)) hb);have n2_ := Aside0.mk (hbox);have n3_ := Aside0.mk ((by rw [hg];exact (qao (by repeat (first|(with_reducible first|exact HB.out|apply qab|apply qaa|apply qac|refine qae ?_ GE219.out)|exact HB.out))) : w.heap.size ≤ gb220));have n4_ := Aside0.mk ((by rw [hg];exact (qao (by repeat (first|(with_reducible first|exact HB.out|apply qab|apply qaa|apply qac|refine qae ?_ GE219.out)|exact HB.out))) : w.heap.size ≤ gb220));have n5_ := Aside0.mk ((by rw [hg];exact Nat.ne_of_lt (blk_lt (g := gb219) (o := .cells #[.int .i64 a0_0,.string a0_1,.string a0_2] 90 (0,0)) (by (with_reducible repeat (first|refine qah ?_ _|refine qai ?_|refine qag ?_ _));exact BK219.out)) : gb219 ≠ gb220));have n6_ := Aside0.mk ((by rw [hg];exact Nat.ne_of_gt (blk_lt (g := gb219) (o := .cells #[.int .i64 a0_0,.string a0_1,.string a0_2] 90 (0,0)) (by (with_reducible repeat (first|refine qah ?_ _|refine qai ?_|refine qag ?_ _));exact BK219.out)) : gb220 ≠ gb219));clear BK219;clear HB;have BK219 := n0_;have HB := n1_;have BK220 := n2_;have GW220 := n3_;have GE220 := n4_;have NB219_220 := n5_;have NB220_219 := n6_;clear n0_ n1_ n2_ n3_ n4_ n5_ n6_;clear hb hbox hg))
 have n0_ := Aside0.mk (qai BK219.out)
 have n1_ := Aside0.mk (qai BK220.out)
 have n2_ := Aside0.mk (qac HB.out)
 clear BK219
 clear BK220
 clear HB
 have BK219 := n0_
 have BK220 := n1_
 have HB := n2_
 clear n0_ n1_ n2_
 refine start_ (n := 18) (S := fun w' => w'.cell? ⟨gb219,0,none⟩ = some (.int .i64 a0_0) ∧ w'.cell? ⟨gb219,1,none⟩ = some (.string a0_1) ∧ w'.cell? ⟨gb219,2,none⟩ = some (.string a0_2) ∧ w'.cell? ⟨gb220,0,none⟩ = some (.int .i64 a1_0) ∧ w'.cell? ⟨gb220,1,none⟩ = some (.string a1_1) ∧ w'.cell? ⟨gb220,2,none⟩ = some (.string a1_2)) (ds := []) #[false,false,false,false,false,false,false,false,false,false,false,false,false,false,false,false,false,false] (by kernel_rfl) rfl rfl ⟨(qaf BK219.out 0).trans rfl,(qaf BK219.out 1).trans rfl,(qaf BK219.out 2).trans rfl,(qaf BK220.out 0).trans rfl,(qaf BK220.out 1).trans rfl,(qaf BK220.out 2).trans rfl⟩ (fun hHeld => ?_);refine with_tabW version_Compare.tab1 version_Compare.bits1 (fun HT_ HW_ => ?_)
 generalize w8.drew = w9 at BK219 BK220 HB hHeld ⊢
 refine pure_ (i := 0) (N := some 5) (v := ?_) (a' := ?_) #[true,false,false,false,false,false,false,false,false,false,false,false,false,false,false,false,false,false] rfl rfl (any_of HT_.out (by kernel_rfl)) (fun _ _ _ h => h) (Or.inl ⟨by rfl,?_⟩) ?_ ?_
 rotate_left
 ·intro w'
  go_simp
  with_reducible rfl
 rotate_left
 ·simp only [Act.put,List.setIfInBounds_toArray,List.set_cons_zero,List.set_cons_succ,i64_w,i32_w]
  rfl
 refine pure_ (i := 2) (N := some 7) (v := ?_) (a' := ?_) #[true,false,true,false,false,false,false,false,false,false,false,false,false,false,false,false,false,false] rfl rfl (any_of HT_.out (by kernel_rfl)) (fun _ _ _ h => h) (Or.inl ⟨by rfl,?_⟩) ?_ ?_
 rotate_left
 ·intro w'
  go_simp
  with_reducible rfl
 rotate_left
 ·simp only [Act.put,List.setIfInBounds_toArray,List.set_cons_zero,List.set_cons_succ,i64_w,i32_w]
  rfl
 refine pure_ (i := 5) (N := some 10) (v := ?_) (a' := ?_) #[true,false,true,false,false,true,false,false,false,false,false,false,false,false,false,false,false,false] rfl rfl (any_of HT_.out (by kernel_rfl)) (fun _ _ _ h => h) (Or.inl ⟨by rfl,?_⟩) ?_ ?_
 rotate_left
 ·intro w'
  go_simp
  with_reducible rfl
 rotate_left
 ·simp only [Act.put,List.setIfInBounds_toArray,List.set_cons_zero,List.set_cons_succ,i64_w,i32_w]
  rfl
 refine pure_ (i := 7) (N := some 12) (v := ?_) (a' := ?_) #[true,false,true,false,false,true,false,true,false,false,false,false,false,false,false,false,false,false] rfl rfl (any_of HT_.out (by kernel_rfl)) (fun _ _ _ h => h) (Or.inl ⟨by rfl,?_⟩) ?_ ?_
 rotate_left
 ·intro w'
  go_simp
  with_reducible rfl
 rotate_left
 ·simp only [Act.put,List.setIfInBounds_toArray,List.set_cons_zero,List.set_cons_succ,i64_w,i32_w]
  rfl
 refine pure_ (i := 10) (N := some 15) (v := ?_) (a' := ?_) #[true,false,true,false,false,true,false,true,false,false,true,false,false,false,false,false,false,false] rfl rfl (any_of HT_.out (by kernel_rfl)) (fun _ _ _ h => h) (Or.inl ⟨by rfl,?_⟩) ?_ ?_
 rotate_left
 ·intro w'
  go_simp
  with_reducible rfl
 rotate_left
 ·simp only [Act.put,List.setIfInBounds_toArray,List.set_cons_zero,List.set_cons_succ,i64_w,i32_w]
  rfl
 refine pure_ (i := 12) (N := some 17) (v := ?_) (a' := ?_) #[true,false,true,false,false,true,false,true,false,false,true,false,true,false,false,false,false,false] rfl rfl (any_of HT_.out (by kernel_rfl)) (fun _ _ _ h => h) (Or.inl ⟨by rfl,?_⟩) ?_ ?_
 rotate_left
 ·intro w'
  go_simp
  with_reducible rfl
 rotate_left
 ·simp only [Act.put,List.setIfInBounds_toArray,List.set_cons_zero,List.set_cons_succ,i64_w,i32_w]
  rfl
 refine take_ (i := 1) (N := some 6) (v := ?_) (a' := ?_) #[true,true,true,false,false,true,false,true,false,false,true,false,true,false,false,false,false,false] rfl rfl (take_ofW HT_.out HW_.out (by kernel_rfl)) (fun _ _ _ h => h) (Or.inl ⟨by rfl,?_⟩) hHeld ?_ ?_
 rotate_left
 ·rintro w' ⟨s0,s1,s2,s3,s4,s5⟩
  go_simp
  with_reducible rfl
 rotate_left
 ·simp only [Act.put,List.setIfInBounds_toArray,List.set_cons_zero,List.set_cons_succ,i64_w,i32_w]
  rfl
 refine take_ (i := 3) (N := some 8) (v := ?_) (a' := ?_) #[true,true,true,true,false,true,false,true,false,false,true,false,true,false,false,false,false,false] rfl rfl (take_ofW HT_.out HW_.out (by kernel_rfl)) (fun _ _ _ h => h) (Or.inl ⟨by rfl,?_⟩) hHeld ?_ ?_
 rotate_left
 ·rintro w' ⟨s0,s1,s2,s3,s4,s5⟩
  go_simp
  with_reducible rfl
 rotate_left
 ·simp only [Act.put,List.setIfInBounds_toArray,List.set_cons_zero,List.set_cons_succ,i64_w,i32_w]
  rfl
 refine take_ (i := 6) (N := some 11) (v := ?_) (a' := ?_) #[true,true,true,true,false,true,true,true,false,false,true,false,true,false,false,false,false,false] rfl rfl (take_ofW HT_.out HW_.out (by kernel_rfl)) (fun _ _ _ h => h) (Or.inl ⟨by rfl,?_⟩) hHeld ?_ ?_
 rotate_left
 ·rintro w' ⟨s0,s1,s2,s3,s4,s5⟩
  go_simp
  with_reducible rfl
 rotate_left
 ·simp only [Act.put,List.setIfInBounds_toArray,List.set_cons_zero,List.set_cons_succ,i64_w,i32_w]
  rfl
 refine take_ (i := 8) (N := some 13) (v := ?_) (a' := ?_) #[true,true,true,true,false,true,true,true,true,false,true,false,true,false,false,false,false,false] rfl rfl (take_ofW HT_.out HW_.out (by kernel_rfl)) (fun _ _ _ h => h) (Or.inl ⟨by rfl,?_⟩) hHeld ?_ ?_
 rotate_left
 ·rintro w' ⟨s0,s1,s2,s3,s4,s5⟩
  go_simp
  with_reducible rfl
 rotate_left
 ·simp only [Act.put,List.setIfInBounds_toArray,List.set_cons_zero,List.set_cons_succ,i64_w,i32_w]
  rfl
 refine take_ (i := 11) (N := some 16) (v := ?_) (a' := ?_) #[true,true,true,true,false,true,true,true,true,false,true,true,true,false,false,false,false,false] rfl rfl (take_ofW HT_.out HW_.out (by kernel_rfl)) (fun _ _ _ h => h) (Or.inl ⟨by rfl,?_⟩) hHeld ?_ ?_
 rotate_left
 ·rintro w' ⟨s0,s1,s2,s3,s4,s5⟩
  go_simp
  with_reducible rfl
 rotate_left
 ·simp only [Act.put,List.setIfInBounds_toArray,List.set_cons_zero,List.set_cons_succ,i64_w,i32_w]
  rfl
 refine take_ (i := 13) (N := some 18) (v := ?_) (a' := ?_) #[true,true,true,true,false,true,true,true,true,false,true,true,true,true,false,false,false,false] rfl rfl (take_ofW HT_.out HW_.out (by kernel_rfl)) (fun _ _ _ h => h) (Or.inl ⟨by rfl,?_⟩) hHeld ?_ ?_
 rotate_left
 ·rintro w' ⟨s0,s1,s2,s3,s4,s5⟩
  go_simp
  with_reducible rfl
 rotate_left
 ·simp only [Act.put,List.setIfInBounds_toArray,List.set_cons_zero,List.set_cons_succ,i64_w,i32_w]
  rfl
 refine one_ (i := 4) (N := some 9) #[true,true,true,true,true,true,true,true,true,false,true,true,true,true,false,false,false,false] rfl rfl (one_of HT_.out (by kernel_rfl)) (by decide) (fun K hK => ?_)
 refine goes_ Tryz.func119 (by kernel_rfl) rfl #[.int .i64 a0_0,.int .i64 a1_0] (by rfl) rfl rfl (by first|rfl|(simp only [List.map_toArray,List.map_cons,List.map_nil,List.length_drop,List.length_take];rfl)|simp only [List.map_toArray,List.map_cons,List.map_nil]) ?_
 with_reducible refine (cmp_Compare_int.calls a0_0 a1_0 t221 _ (by first|exact hG|exact GL.below hG (by repeat (first|(with_reducible first|exact HB.out|apply qab|apply qaa|apply qac|refine qae ?_ GE219.out|refine qae ?_ GE220.out)|exact HB.out)))  A3.out).mono ?_
 rintro e w' ⟨rfl,⟨nd,rfl⟩⟩
 refine ⟨_,rfl,?_⟩
 refine hK.out _ _ ⟨(qaf BK219.out 0).trans rfl,(qaf BK219.out 1).trans rfl,(qaf BK219.out 2).trans rfl,(qaf BK220.out 0).trans rfl,(qaf BK220.out 1).trans rfl,(qaf BK220.out 2).trans rfl⟩ (fun hHeld => ?_)
 clear hK K
 refine norm_ (a' := ?_) ?_ ?_
 rotate_left
 ·show Act.put _ (some 9) _ = _
  simp only [Act.put,List.setIfInBounds_toArray,List.set_cons_zero,List.set_cons_succ,i64_w,i32_w]
  rfl
 refine one_ (i := 9) (N := some 14) #[true,true,true,true,true,true,true,true,true,true,true,true,true,true,false,false,false,false] rfl rfl (one_of HT_.out (by kernel_rfl)) (by decide) (fun K hK => ?_)
 refine goes_ Tryz.func120 (by kernel_rfl) rfl #[.string a0_1,.string a1_1] (by rfl) rfl rfl (by first|rfl|(simp only [List.map_toArray,List.map_cons,List.map_nil,List.length_drop,List.length_take];rfl)|simp only [List.map_toArray,List.map_cons,List.map_nil]) ?_
 with_reducible refine (version_CompareText.calls k a0_1 a1_1 t222 _ (by first|exact hG|exact GL.below hG (by repeat (first|(with_reducible first|exact HB.out|apply qab|apply qaa|apply qac|refine qae ?_ GE219.out|refine qae ?_ GE220.out)|exact HB.out)))  A4.out).mono ?_
 rintro e w10 ⟨rfl,hb⟩
 refine ⟨_,rfl,?_⟩
 have n0_ := Aside0.mk (qap (g := gb219) (o := .cells #[.int .i64 a0_0,.string a0_1,.string a0_2] 90 (0,0)) (by (with_reducible repeat (first|refine qah ?_ _|refine qai ?_|refine qag ?_ _));exact BK219.out) hb)
 have n1_ := Aside0.mk (qap (g := gb220) (o := .cells #[.int .i64 a1_0,.string a1_1,.string a1_2] 90 (0,0)) (by (with_reducible repeat (first|refine qah ?_ _|refine qai ?_|refine qag ?_ _));exact BK220.out) hb)
 have n2_ := Aside0.mk (qan (by repeat (first|(with_reducible first|exact HB.out|apply qab|apply qaa|apply qac|refine qae ?_ GE219.out|refine qae ?_ GE220.out)|exact HB.out)) hb)
 clear BK219
 clear BK220
 clear HB
 have BK219 := n0_
 have BK220 := n1_
 have HB := n2_
 clear n0_ n1_ n2_
 (try clear hb)
 (try clear hb2)
 (try clear hk)
 (try clear hi)
 refine hK.out _ _ ⟨(qaf BK219.out 0).trans rfl,(qaf BK219.out 1).trans rfl,(qaf BK219.out 2).trans rfl,(qaf BK220.out 0).trans rfl,(qaf BK220.out 1).trans rfl,(qaf BK220.out 2).trans rfl⟩ (fun hHeld => ?_)
 clear hK K
 refine norm_ (a' := ?_) ?_ ?_
 rotate_left
 ·show Act.put _ (some 14) _ = _
  simp only [Act.put,List.setIfInBounds_toArray,List.set_cons_zero,List.set_cons_succ,i64_w,i32_w]
  rfl
 refine one_ (i := 14) (N := some 19) #[true,true,true,true,true,true,true,true,true,true,true,true,true,true,true,false,false,false] rfl rfl (one_of HT_.out (by kernel_rfl)) (by decide) (fun K hK => ?_)
 refine goes_ Tryz.func120 (by kernel_rfl) rfl #[.string a0_2,.string a1_2] (by rfl) rfl rfl (by first|rfl|(simp only [List.map_toArray,List.map_cons,List.map_nil,List.length_drop,List.length_take];rfl)|simp only [List.map_toArray,List.map_cons,List.map_nil]) ?_
 with_reducible refine (version_CompareText.calls k a0_2 a1_2 t223 _ (by first|exact hG|exact GL.below hG (by repeat (first|(with_reducible first|exact HB.out|apply qab|apply qaa|apply qac|refine qae ?_ GE219.out|refine qae ?_ GE220.out)|exact HB.out)))  A5.out).mono ?_
 rintro e w11 ⟨rfl,hb⟩
 refine ⟨_,rfl,?_⟩
 have n0_ := Aside0.mk (qap (g := gb219) (o := .cells #[.int .i64 a0_0,.string a0_1,.string a0_2] 90 (0,0)) (by (with_reducible repeat (first|refine qah ?_ _|refine qai ?_|refine qag ?_ _));exact BK219.out) hb)
 have n1_ := Aside0.mk (qap (g := gb220) (o := .cells #[.int .i64 a1_0,.string a1_1,.string a1_2] 90 (0,0)) (by (with_reducible repeat (first|refine qah ?_ _|refine qai ?_|refine qag ?_ _));exact BK220.out) hb)
 have n2_ := Aside0.mk (qan (by repeat (first|(with_reducible first|exact HB.out|apply qab|apply qaa|apply qac|refine qae ?_ GE219.out|refine qae ?_ GE220.out)|exact HB.out)) hb)
 clear BK219
 clear BK220
 clear HB
 have BK219 := n0_
 have BK220 := n1_
 have HB := n2_
 clear n0_ n1_ n2_
 (try clear hb)
 (try clear hb2)
 (try clear hk)
 (try clear hi)
 refine hK.out _ _ ⟨(qaf BK219.out 0).trans rfl,(qaf BK219.out 1).trans rfl,(qaf BK219.out 2).trans rfl,(qaf BK220.out 0).trans rfl,(qaf BK220.out 1).trans rfl,(qaf BK220.out 2).trans rfl⟩ (fun hHeld => ?_)
 clear hK K
 refine norm_ (a' := ?_) ?_ ?_
 rotate_left
 ·show Act.put _ (some 19) _ = _
  simp only [Act.put,List.setIfInBounds_toArray,List.set_cons_zero,List.set_cons_succ,i64_w,i32_w]
  rfl
 refine one_ (i := 15) (N := some 20) #[true,true,true,true,true,true,true,true,true,true,true,true,true,true,true,true,false,false] rfl rfl (one_of HT_.out (by kernel_rfl)) (by decide) (fun K hK => ?_)
 refine Kd.R_lit_step (Kd.int .i64) _ 3 ?hg (N := 20) ?hd (xs := ([t221,t222,t223] : List Int)) (inner := [.int .i64 t221,.int .i64 t222,.int .i64 t223]) (ok := fun _ => True) (okp := fun _ => True) ?hr ?hp (fun _ hk => hk) trivial (Below.refl _ _) (Nat.le_refl _) (by simp) ?_;(case hd => rfl);(case hg => rfl);(case hr => first|(go_simp;done)|(go_simp;rfl));(case hp => exact (Reps.one (show Kd.M (Kd.int .i64) _ _ _ t221 [.int .i64 t221] from rfl) (Reps.one (show Kd.M (Kd.int .i64) _ _ _ t222 [.int .i64 t222] from rfl) (Reps.one (show Kd.M (Kd.int .i64) _ _ _ t223 [.int .i64 t223] from rfl) (Reps.none _ _)))))
 intro v225 w12 ho13 hb hg_ hnew_
 clear hg_ hnew_
 (first|rw [← Ny224.out] at ho13|(simp only [Int.reduceToNat] at ho13;rw [← Ny224.out] at ho13))
 have n0_ := Aside0.mk (Kd.R_lower ho13 (qao (by repeat (first|(with_reducible first|exact HB.out|apply qab|apply qaa|apply qac|refine qae ?_ GE219.out|refine qae ?_ GE220.out)|exact HB.out))))
 have n1_ := Aside0.mk (qap (g := gb219) (o := .cells #[.int .i64 a0_0,.string a0_1,.string a0_2] 90 (0,0)) (by (with_reducible repeat (first|refine qah ?_ _|refine qai ?_|refine qag ?_ _));exact BK219.out) hb)
 have n2_ := Aside0.mk (qap (g := gb220) (o := .cells #[.int .i64 a1_0,.string a1_1,.string a1_2] 90 (0,0)) (by (with_reducible repeat (first|refine qah ?_ _|refine qai ?_|refine qag ?_ _));exact BK220.out) hb)
 have n3_ := Aside0.mk (qan (by repeat (first|(with_reducible first|exact HB.out|apply qab|apply qaa|apply qac|refine qae ?_ GE219.out|refine qae ?_ GE220.out)|exact HB.out)) hb)
 clear BK219
 clear BK220
 clear HB
 have HO226 := n0_
 have BK219 := n1_
 have BK220 := n2_
 have HB := n3_
 clear n0_ n1_ n2_ n3_
 clear hb ho13
 obtain ⟨Ao14,co14,eo14⟩ := Kd.R_slice HO226.out
 (first|subst eo14|(injection eo14 with f1_ f2_ f3_;have f4_ := f1_.symm;have f5_ := f3_.symm;clear f1_ f2_ f3_;subst f4_;subst f5_))
 refine hK.out _ _ ⟨(qaf BK219.out 0).trans rfl,(qaf BK219.out 1).trans rfl,(qaf BK219.out 2).trans rfl,(qaf BK220.out 0).trans rfl,(qaf BK220.out 1).trans rfl,(qaf BK220.out 2).trans rfl⟩ (fun hHeld => ?_)
 clear hK K
 refine norm_ (a' := ?_) ?_ ?_
 rotate_left
 ·show Act.put _ (some 20) _ = _
  simp only [Act.put,List.setIfInBounds_toArray,List.set_cons_zero,List.set_cons_succ,i64_w,i32_w]
  rfl
 refine one_ (i := 16) (N := some 21) #[true,true,true,true,true,true,true,true,true,true,true,true,true,true,true,true,true,false] rfl rfl (one_of HT_.out (by kernel_rfl)) (by decide) (fun K hK => ?_)
 refine goes_ Tryz.func118 (by kernel_rfl) rfl #[.slice Ao14 y224.length co14] (by rfl) rfl rfl (by first|rfl|(simp only [List.map_toArray,List.map_cons,List.map_nil,List.length_drop,List.length_take];rfl)|simp only [List.map_toArray,List.map_cons,List.map_nil]) ?_
 with_reducible refine (cmp_Or_int.calls k _ _ y224 t227 _ (by first|exact hG|exact GL.below hG (by repeat (first|(with_reducible first|exact HB.out|apply qab|apply qaa|apply qac|refine qae ?_ GE219.out|refine qae ?_ GE220.out)|exact HB.out)))  ?side1 ?side2 A6.out).mono ?_
 (case side1 => repeat (first|exact (Kd.R_reads' HO226.out).2.2|(with_reducible refine Kd.C_alloc ?_ _)|(with_reducible refine Kd.C_drewN ?_ _)|(with_reducible refine Kd.C_drew ?_)))
 (case side2 => exact (Kd.R_reads' HO226.out).2.1)
 rintro e w' ⟨rfl,⟨nd,rfl⟩⟩
 refine ⟨_,rfl,?_⟩
 refine hK.out _ _ ⟨(qaf BK219.out 0).trans rfl,(qaf BK219.out 1).trans rfl,(qaf BK219.out 2).trans rfl,(qaf BK220.out 0).trans rfl,(qaf BK220.out 1).trans rfl,(qaf BK220.out 2).trans rfl⟩ (fun hHeld => ?_)
 clear hK K
 refine norm_ (a' := ?_) ?_ ?_
 rotate_left
 ·show Act.put _ (some 21) _ = _
  simp only [Act.put,List.setIfInBounds_toArray,List.set_cons_zero,List.set_cons_succ,i64_w,i32_w]
  rfl
 refine pure_ (i := 17) (N := some 4) (v := ?_) (a' := ?_) #[true,true,true,true,true,true,true,true,true,true,true,true,true,true,true,true,true,true] rfl rfl (any_of HT_.out (by kernel_rfl)) (fun _ _ _ h => h) (Or.inl ⟨by rfl,?_⟩) ?_ ?_
 rotate_left
 ·intro w'
  go_simp
  with_reducible rfl
 rotate_left
 ·simp only [Act.put,List.setIfInBounds_toArray,List.set_cons_zero,List.set_cons_succ,i64_w,i32_w]
  rfl
 refine done_ (done_of HT_.out (by kernel_rfl)) ?_
 try go_wp2
 go_ret
 exact ⟨by first|rfl|(simp [qak,qal]<;>rfl)|(simp [*,qak,qal]<;>rfl),by repeat (first|(with_reducible first|exact HB.out|apply qab|apply qaa|apply qac|refine qae ?_ GE219.out|refine qae ?_ GE220.out)|exact HB.out)⟩
def relation_Holds.j0 : Nat → Int → Bool → Int → ByteArray → ByteArray → Int → ByteArray → ByteArray → Option (Bool)
 | 0,_,_,_,_,_,_,_,_ => none
 | k + 1,x0,x29,x233000,x233001,x233002,x238000,x238001,x238002 => if x29 = true then (some false) else ((version_Compare.f k x233000 x233001 x233002 x238000 x238001 x238002).bind fun t238 => (if x0 = 1 then (some (decide (t238 < 0))) else (if x0 = 2 then (some (decide (t238 ≤ 0))) else (if x0 = 3 then (some (t238 == 0)) else (if x0 = 4 then (some (decide (t238 ≥ 0))) else (if x0 = 5 then (some (decide (t238 > 0))) else (some false)))))))
def relation_Holds.f (k : Nat) (a0 : Int) (a1 : ByteArray) (a2 : ByteArray) : Option (Bool) := if a0 = 0 then (some true) else ((version_Parse.f k a1).bind fun bt228 => ((version_Parse.f k a2).bind fun bt233 => (if bt228.2.2.2 = 0 then (relation_Holds.j0 k a0 (bt233.2.2.2 != 0) bt228.1 bt228.2.1 bt228.2.2.1 bt233.1 bt233.2.1 bt233.2.2.1) else (relation_Holds.j0 k a0 true bt228.1 bt228.2.1 bt228.2.2.1 bt233.1 bt233.2.1 bt233.2.2.1))))
theorem relation_Holds.mono_l : ∀ k,(∀ y0 y1 y2 y3 y4 y5 y6 y7,LeO (relation_Holds.j0 k y0 y1 y2 y3 y4 y5 y6 y7) (relation_Holds.j0 (k + 1) y0 y1 y2 y3 y4 y5 y6 y7))
 | 0 => fun _ _ _ _ _ _ _ _ r h => by simp [relation_Holds.j0] at h
 | k + 1 => by
  have ih0 := relation_Holds.mono_l k
  ·intro y0 y1 y2 y3 y4 y5 y6 y7
   unfold relation_Holds.j0
   repeat' first
   | (with_reducible exact ih0 _ _ _ _ _ _ _ _)
   | (with_reducible exact version_Compare.mono _ _ _ _ _ _ _)
   | (with_reducible exact version_Parse.mono _ _)
   | (with_reducible exact LeO.refl _)
   | (with_reducible exact LeO.none _)
   | (with_reducible refine LeO.ite ?_ ?_)
   | (with_reducible refine LeO.bind ?_ (fun _ => ?_))
   | exact ih0 _ _ _ _ _ _ _ _
   | exact version_Compare.mono _ _ _ _ _ _ _
   | exact version_Parse.mono _ _
   | exact LeO.none _
   | refine LeO.ite ?_ ?_
   | refine LeO.bind ?_ (fun _ => ?_)
theorem relation_Holds.mono : ∀ a0 a1 a2 k,LeO (relation_Holds.f k a0 a1 a2) (relation_Holds.f (k + 1) a0 a1 a2) := by
 intro a0 a1 a2 k
 have ih0 := relation_Holds.mono_l k
 unfold relation_Holds.f
 repeat' first
   | (with_reducible exact ih0 _ _ _ _ _ _ _ _)
   | (with_reducible exact version_Compare.mono _ _ _ _ _ _ _)
   | (with_reducible exact version_Parse.mono _ _)
   | (with_reducible exact LeO.refl _)
   | (with_reducible exact LeO.none _)
   | (with_reducible refine LeO.ite ?_ ?_)
   | (with_reducible refine LeO.bind ?_ (fun _ => ?_))
   | exact ih0 _ _ _ _ _ _ _ _
   | exact version_Compare.mono _ _ _ _ _ _ _
   | exact version_Parse.mono _ _
   | exact LeO.none _
   | refine LeO.ite ?_ ?_
   | refine LeO.bind ?_ (fun _ => ?_)
theorem relation_Holds.calls (k : Nat) (a0 : Int) (a1 : ByteArray) (a2 : ByteArray) (r : Bool) (w : World) (hG : GL w) (h : relation_Holds.f k a0 a1 a2 = some r) :
  Calls Tryz.prog 73 #[.int .i64 a0,.string a1,.string a2] w fun e w' => e = .returned (.bool r) ∧ Below w.heap.size w w' := by
 have hu90 := Tryz.underlying90
 have HB := Aside0.mk (Below.refl w.heap.size w)
 have H : (if a0 = 0 then (some true) else ((version_Parse.f k a1).bind fun bt228 => ((version_Parse.f k a2).bind fun bt233 => (if bt228.2.2.2 = 0 then (relation_Holds.j0 k a0 (bt233.2.2.2 != 0) bt228.1 bt228.2.1 bt228.2.2.1 bt233.1 bt233.2.1 bt233.2.2.1) else (relation_Holds.j0 k a0 true bt228.1 bt228.2.1 bt228.2.2.1 bt233.1 bt233.2.1 bt233.2.2.1))))) = some r := h
 clear h
 by_cases c4 : a0 = 0
 ·rw [if_pos c4] at H
  have c4b0 : (a0 == 0) = true := beq_iff_eq.mpr c4
  have c4b1 : (a0 != 0) = false := bne_eq_false_iff_eq.mpr c4
  clear c4
  obtain rfl := Option.some.inj H
  go_enter Tryz.func73,Tryz.ntmps73
  go_wp2
  go_ret
  exact ⟨by first|rfl|(simp [qak,qal]<;>rfl)|(simp [*,qak,qal]<;>rfl),by repeat (with_reducible first|exact HB.out|apply qab|apply qaa|apply qac)⟩
 ·rw [if_neg c4] at H
  have c4b0 : (a0 == 0) = false := beq_eq_false_iff_ne.mpr c4
  have c4b1 : (a0 != 0) = true := bne_iff_ne.mpr c4
  replace H := Option.bind_eq_some_iff.mp H
  obtain ⟨⟨t228,t229,t230,t231⟩,A50,H⟩ := H
  replace H : ((version_Parse.f k a2).bind fun bt233 => (if t231 = 0 then (relation_Holds.j0 k a0 (bt233.2.2.2 != 0) t228 t229 t230 bt233.1 bt233.2.1 bt233.2.2.1) else (relation_Holds.j0 k a0 true t228 t229 t230 bt233.1 bt233.2.1 bt233.2.2.1))) = some r := H
  have A5 := Aside0.mk A50
  clear A50
  replace H := Option.bind_eq_some_iff.mp H
  obtain ⟨⟨t233,t234,t235,t236⟩,A60,H⟩ := H
  replace H : (if t231 = 0 then (relation_Holds.j0 k a0 (t236 != 0) t228 t229 t230 t233 t234 t235) else (relation_Holds.j0 k a0 true t228 t229 t230 t233 t234 t235)) = some r := H
  have A6 := Aside0.mk A60
  clear A60
  have HC7 := Aside0.mk H
  clear H
  go_enter Tryz.func73,Tryz.ntmps73
  go_upto_region 5 with (first|((with_reducible refine qam (f := 89) rfl ?_);refine goesL_ (some 16) rfl rfl Tryz.func89 (by kernel_rfl) rfl #[.string a1] rfl (by first|rfl|(simp only [List.map_toArray,List.map_cons,List.map_nil,List.length_drop,List.length_take];rfl)|simp only [List.map_toArray,List.map_cons,List.map_nil]) ?_;(with_reducible refine (version_Parse.calls k a1 t228 t229 t230 t231 _ (by first|exact hG|exact GL.below hG (by repeat (with_reducible first|exact HB.out|apply qab|apply qaa|apply qac)))  A5.out).mono ?_);rintro e w8 ⟨rfl,hb⟩;refine ⟨_,rfl,?_⟩;have n0_ := Aside0.mk (qan (by repeat (with_reducible first|exact HB.out|apply qab|apply qaa|apply qac)) hb);clear HB;have HB := n0_;clear n0_;(try clear hb);(try clear hb2);(try clear hk);(try clear hi))|((with_reducible refine gate_dst (N := 7) rfl ?_);refine box_event ?hg (N := 7) ?hd (cs := #[.int .i64 0,.string (⟨#[]⟩ : ByteArray),.string (⟨#[]⟩ : ByteArray)]) (t := 90) ?hr ?_;(case hd => rfl);(case hg => rfl);(case hr => first|(go_simp;done)|(go_simp;rfl));intro gb232 hg w9 hbox hb;have n0_ := Aside0.mk (qan (by repeat (with_reducible first|exact HB.out|apply qab|apply qaa|apply qac)) hb);have n1_ := Aside0.mk (hbox);have n2_ := Aside0.mk ((by rw [hg];exact (qao (by repeat (with_reducible first|exact HB.out|apply qab|apply qaa|apply qac))) : w.heap.size ≤ gb232));have n3_ := Aside0.mk ((by rw [hg];exact (qao (by repeat (with_reducible first|exact HB.out|apply qab|apply qaa|apply qac))) : w.heap.size ≤ gb232));clear HB;have HB := n0_;have BK232 := n1_;have GW232 := n2_;have GE232 := n3_;clear n0_ n1_ n2_ n3_;clear hb hbox hg;have hcz10_0 : w9.cell? ⟨gb232,0,none⟩ = some (.int .i64 0) := (qaf BK232.out 0).trans rfl;have hcz10_1 : w9.cell? ⟨gb232,1,none⟩ = some (.string (⟨#[]⟩ : ByteArray)) := (qaf BK232.out 1).trans rfl;have hcz10_2 : w9.cell? ⟨gb232,2,none⟩ = some (.string (⟨#[]⟩ : ByteArray)) := (qaf BK232.out 2).trans rfl;have hfz10_0 := qad BK232.out 0;have hfz10_1 := qad BK232.out 1;have hfz10_2 := qad BK232.out 2)|((with_reducible refine qam (f := 89) rfl ?_);refine goesL_ (some 21) rfl rfl Tryz.func89 (by kernel_rfl) rfl #[.string a2] rfl (by first|rfl|(simp only [List.map_toArray,List.map_cons,List.map_nil,List.length_drop,List.length_take];rfl)|simp only [List.map_toArray,List.map_cons,List.map_nil]) ?_;(with_reducible refine (version_Parse.calls k a2 t233 t234 t235 t236 _ (by first|exact hG|exact GL.below hG (by repeat (first|(with_reducible first|exact HB.out|apply qab|apply qaa|apply qac|refine qae ?_ GE232.out)|exact HB.out)))  A6.out).mono ?_);rintro e w11 ⟨rfl,hb⟩;refine ⟨_,rfl,?_⟩;have n0_ := Aside0.mk (qap (g := gb232) (o := .cells #[.int .i64 t228,.string t229,.string t230] 90 (0,0)) (by (with_reducible repeat (first|refine qah ?_ _|refine qai ?_|refine qag ?_ _));refine blk_put (cs := #[.int .i64 t228,.string t229,.string (⟨#[]⟩ : ByteArray)]) ?_ 2 _ rfl;(with_reducible repeat (first|refine qah ?_ _|refine qai ?_|refine qag ?_ _));refine blk_put (cs := #[.int .i64 t228,.string (⟨#[]⟩ : ByteArray),.string (⟨#[]⟩ : ByteArray)]) ?_ 1 _ rfl;(with_reducible repeat (first|refine qah ?_ _|refine qai ?_|refine qag ?_ _));refine blk_put (cs := #[.int .i64 0,.string (⟨#[]⟩ : ByteArray),.string (⟨#[]⟩ : ByteArray)]) ?_ 0 _ rfl;(with_reducible repeat (first|refine qah ?_ _|refine qai ?_|refine qag ?_ _));exact BK232.out) hb);have n1_ := Aside0.mk (qan (by repeat (first|(with_reducible first|exact HB.out|apply qab|apply qaa|apply qac|refine qae ?_ GE232.out)|exact HB.out)) hb);clear BK232;clear HB;have BK232 := n0_;have HB := n1_;clear n0_ n1_;(try clear hb);(try clear hb2);(try clear hk);(try clear hi))|((with_reducible refine gate_dst (N := 9) rfl ?_);refine box_event ?hg (N := 9) ?hd (cs := #[.int .i64 0,.string (⟨#[]⟩ : ByteArray),.string (⟨#[]⟩ : ByteArray)]) (t := 90) ?hr ?_;(case hd => rfl);(case hg => rfl);(case hr => first|(go_simp;done)|(go_simp;rfl));intro gb237 hg w12 hbox hb;have n0_ := Aside0.mk (qap (g := gb232) (o := .cells #[.int .i64 t228,.string t229,.string t230] 90 (0,0)) (by (with_reducible repeat (first|refine qah ?_ _|refine qai ?_|refine qag ?_ _));exact BK232.out) hb);have n1_ := Aside0.mk (qan (by repeat (first|(with_reducible first|exact HB.out|apply qab|apply qaa|apply qac|refine qae ?_ GE232.out)|exact HB.out)) hb);have n2_ := Aside0.mk (hbox);have n3_ := Aside0.mk ((by rw [hg];exact (qao (by repeat (first|(with_reducible first|exact HB.out|apply qab|apply qaa|apply qac|refine qae ?_ GE232.out)|exact HB.out))) : w.heap.size ≤ gb237));have n4_ := Aside0.mk ((by rw [hg];exact (qao (by repeat (first|(with_reducible first|exact HB.out|apply qab|apply qaa|apply qac|refine qae ?_ GE232.out)|exact HB.out))) : w.heap.size ≤ gb237));have n5_ := Aside0.mk ((by rw [hg];exact Nat.ne_of_lt (blk_lt (g := gb232) (o := .cells #[.int .i64 t228,.string t229,.string t230] 90 (0,0)) (by (with_reducible repeat (first|refine qah ?_ _|refine qai ?_|refine qag ?_ _));exact BK232.out)) : gb232 ≠ gb237));have n6_ := Aside0.mk ((by rw [hg];exact Nat.ne_of_gt (blk_lt (g := gb232) (o := .cells #[.int .i64 t228,.string t229,.string t230] 90 (0,0)) (by (with_reducible repeat (first|refine qah ?_ _|refine qai ?_|refine qag ?_ _));exact BK232.out)) : gb237 ≠ gb232));clear BK232;clear HB;have BK232 := n0_;have HB := n1_;have BK237 := n2_;have GW237 := n3_;have GE237 := n4_;have NB232_237 := n5_;have NB237_232 := n6_;clear n0_ n1_ n2_ n3_ n4_ n5_ n6_;clear hb hbox hg;have hnb13 := NB237_232.out;have hnc13 := NB232_237.out;have hcz14_0 : w12.cell? ⟨gb237,0,none⟩ = some (.int .i64 0) := (qaf BK237.out 0).trans rfl;have hcz14_1 : w12.cell? ⟨gb237,1,none⟩ = some (.string (⟨#[]⟩ : ByteArray)) := (qaf BK237.out 1).trans rfl;have hcz14_2 : w12.cell? ⟨gb237,2,none⟩ = some (.string (⟨#[]⟩ : ByteArray)) := (qaf BK237.out 2).trans rfl;have hfz14_0 := qad BK237.out 0;have hfz14_1 := qad BK237.out 1;have hfz14_2 := qad BK237.out 2))
  (try simp only [Act.put,List.setIfInBounds_toArray,List.set_cons_zero,List.set_cons_succ])
  go_cut [29] (fun v29 wc => ∃ (kq : Nat) (x29_6 : Bool),v29 = .bool x29_6 ∧ Aside0 (relation_Holds.j0 kq a0 x29_6 t228 t229 t230 t233 t234 t235 = some r) ∧ Aside0 (kq ≤ k) ∧ Aside0 (wc.heap[gb232]? = some (.cells #[.int .i64 t228,.string t229,.string t230] 90 (0,0))) ∧ Aside0 (wc.heap[gb237]? = some (.cells #[.int .i64 t233,.string t234,.string t235] 90 (0,0))) ∧ Aside0 (Below w.heap.size w wc))
  case first =>
   have H := HC7.out
   clear HC7
   by_cases c15 : t231 = 0
   ·rw [if_pos c15] at H
    have c15b0 : (t231 == 0) = true := beq_iff_eq.mpr c15
    have c15b1 : (t231 != 0) = false := bne_eq_false_iff_eq.mpr c15
    clear c15
    (first|rw [c15b0]|(simp only [i64_w,i32_w];rw [c15b0]) | skip)
    have H' := Aside0.mk H
    clear H
    go_wp2
    go_meet
    case rel => exact ⟨_,((t236 != 0)),(by first|rfl|(simp;done)|(simp [*];done)|(simp [qaj];done)),H',⟨by first|omega|exact Nat.le_refl _⟩,⟨by (with_reducible repeat (first|refine qah ?_ _|refine qai ?_|refine qag ?_ _));refine blk_far ?_ NB232_237.out _;(with_reducible repeat (first|refine qah ?_ _|refine qai ?_|refine qag ?_ _));refine blk_far ?_ NB232_237.out _;(with_reducible repeat (first|refine qah ?_ _|refine qai ?_|refine qag ?_ _));refine blk_far ?_ NB232_237.out _;(with_reducible repeat (first|refine qah ?_ _|refine qai ?_|refine qag ?_ _));exact BK232.out⟩,⟨by (with_reducible repeat (first|refine qah ?_ _|refine qai ?_|refine qag ?_ _));refine blk_put (cs := #[.int .i64 t233,.string t234,.string (⟨#[]⟩ : ByteArray)]) ?_ 2 _ rfl;(with_reducible repeat (first|refine qah ?_ _|refine qai ?_|refine qag ?_ _));refine blk_put (cs := #[.int .i64 t233,.string (⟨#[]⟩ : ByteArray),.string (⟨#[]⟩ : ByteArray)]) ?_ 1 _ rfl;(with_reducible repeat (first|refine qah ?_ _|refine qai ?_|refine qag ?_ _));refine blk_put (cs := #[.int .i64 0,.string (⟨#[]⟩ : ByteArray),.string (⟨#[]⟩ : ByteArray)]) ?_ 0 _ rfl;(with_reducible repeat (first|refine qah ?_ _|refine qai ?_|refine qag ?_ _));exact BK237.out⟩,⟨by repeat (first|(with_reducible first|exact HB.out|apply qab|apply qaa|apply qac|refine qae ?_ GE232.out|refine qae ?_ GE237.out)|exact HB.out)⟩⟩
   ·rw [if_neg c15] at H
    have c15b0 : (t231 == 0) = false := beq_eq_false_iff_ne.mpr c15
    have c15b1 : (t231 != 0) = true := bne_iff_ne.mpr c15
    (first|rw [c15b0]|(simp only [i64_w,i32_w];rw [c15b0]) | skip)
    have H' := Aside0.mk H
    clear H
    go_wp2
    go_meet
    case rel => exact ⟨_,(true),(by first|rfl|(simp;done)|(simp [*];done)|(simp [qaj];done)),H',⟨by first|omega|exact Nat.le_refl _⟩,⟨by (with_reducible repeat (first|refine qah ?_ _|refine qai ?_|refine qag ?_ _));refine blk_far ?_ NB232_237.out _;(with_reducible repeat (first|refine qah ?_ _|refine qai ?_|refine qag ?_ _));refine blk_far ?_ NB232_237.out _;(with_reducible repeat (first|refine qah ?_ _|refine qai ?_|refine qag ?_ _));refine blk_far ?_ NB232_237.out _;(with_reducible repeat (first|refine qah ?_ _|refine qai ?_|refine qag ?_ _));exact BK232.out⟩,⟨by (with_reducible repeat (first|refine qah ?_ _|refine qai ?_|refine qag ?_ _));refine blk_put (cs := #[.int .i64 t233,.string t234,.string (⟨#[]⟩ : ByteArray)]) ?_ 2 _ rfl;(with_reducible repeat (first|refine qah ?_ _|refine qai ?_|refine qag ?_ _));refine blk_put (cs := #[.int .i64 t233,.string (⟨#[]⟩ : ByteArray),.string (⟨#[]⟩ : ByteArray)]) ?_ 1 _ rfl;(with_reducible repeat (first|refine qah ?_ _|refine qai ?_|refine qag ?_ _));refine blk_put (cs := #[.int .i64 0,.string (⟨#[]⟩ : ByteArray),.string (⟨#[]⟩ : ByteArray)]) ?_ 0 _ rfl;(with_reducible repeat (first|refine qah ?_ _|refine qai ?_|refine qag ?_ _));exact BK237.out⟩,⟨by repeat (first|(with_reducible first|exact HB.out|apply qab|apply qaa|apply qac|refine qae ?_ GE232.out|refine qae ?_ GE237.out)|exact HB.out)⟩⟩
  case rest =>
   clear HC7
   try clear c1
   try clear p2
   try clear c4
   try clear c4b0
   try clear c4b1
   try clear c7
   try clear c8
   try clear c13
   try clear c15
   try clear c15b0
   try clear c15b1
   try clear hcz10_0
   try clear hcz10_1
   try clear hcz10_2
   try clear hcz14_0
   try clear hcz14_1
   try clear hcz14_2
   try clear hfz10_0
   try clear hfz10_1
   try clear hfz10_2
   try clear hfz14_0
   try clear hfz14_1
   try clear hfz14_2
   obtain ⟨kq,x29_6,rfl,HA,HJ6,BK232,BK237,HB⟩ := hcut
   cases kq with
   | zero => exact absurd HA.out (by simp [relation_Holds.j0])
   | succ kj6 =>
    have H := HA.out
    clear HA
    simp only [relation_Holds.j0] at H
    by_cases c16 : x29_6 = true
    ·subst c16
     have H1 : (some false) = some r := by rw [if_pos rfl] at H;exact H
     clear H
     have H := H1
     clear H1
     obtain rfl := Option.some.inj H
     go_wp2
     go_ret
     exact ⟨by first|rfl|(simp [qak,qal]<;>rfl)|(simp [*,qak,qal]<;>rfl),by repeat (first|(with_reducible first|exact HB.out|apply qab|apply qaa|apply qac|refine qae ?_ GE232.out|refine qae ?_ GE237.out)|exact HB.out)⟩
    ·replace c16 := Bool.eq_false_iff.mpr c16
     subst c16
     have H1 : ((version_Compare.f kj6 t228 t229 t230 t233 t234 t235).bind fun t238 => (if a0 = 1 then (some (decide (t238 < 0))) else (if a0 = 2 then (some (decide (t238 ≤ 0))) else (if a0 = 3 then (some (t238 == 0)) else (if a0 = 4 then (some (decide (t238 ≥ 0))) else (if a0 = 5 then (some (decide (t238 > 0))) else (some false))))))) = some r := by rw [if_neg (show ¬ (false = true) by decide)] at H;exact H
     clear H
     have H := H1
     clear H1
     replace H := Option.bind_eq_some_iff.mp H
     obtain ⟨t238,A170,H⟩ := H
     replace H : (if a0 = 1 then (some (decide (t238 < 0))) else (if a0 = 2 then (some (decide (t238 ≤ 0))) else (if a0 = 3 then (some (t238 == 0)) else (if a0 = 4 then (some (decide (t238 ≥ 0))) else (if a0 = 5 then (some (decide (t238 > 0))) else (some false)))))) = some r := H
     have A17 := Aside0.mk A170
     clear A170
     by_cases c18 : a0 = 1
     ·rw [if_pos c18] at H
      have c18b0 : (a0 == 1) = true := beq_iff_eq.mpr c18
      have c18b1 : (a0 != 1) = false := bne_eq_false_iff_eq.mpr c18
      clear c18
      obtain rfl := Option.some.inj H
      have hnb19 := NB232_237.out
      have hnc19 := NB237_232.out
      have hcz20_0 : wc.cell? ⟨gb232,0,none⟩ = some (.int .i64 t228) := (qaf BK232.out 0).trans rfl
      have hcz20_1 : wc.cell? ⟨gb232,1,none⟩ = some (.string t229) := (qaf BK232.out 1).trans rfl
      have hcz20_2 : wc.cell? ⟨gb232,2,none⟩ = some (.string t230) := (qaf BK232.out 2).trans rfl
      have hfz20_0 := qad BK232.out 0
      have hfz20_1 := qad BK232.out 1
      have hfz20_2 := qad BK232.out 2
      have hcz21_0 : wc.cell? ⟨gb237,0,none⟩ = some (.int .i64 t233) := (qaf BK237.out 0).trans rfl
      have hcz21_1 : wc.cell? ⟨gb237,1,none⟩ = some (.string t234) := (qaf BK237.out 1).trans rfl
      have hcz21_2 : wc.cell? ⟨gb237,2,none⟩ = some (.string t235) := (qaf BK237.out 2).trans rfl
      have hfz21_0 := qad BK237.out 0
      have hfz21_1 := qad BK237.out 1
      have hfz21_2 := qad BK237.out 2
      go_wp2_with (first|((with_reducible refine qam (f := 96) rfl ?_);refine goesL_ (some 32) rfl rfl Tryz.func96 (by kernel_rfl) rfl #[.agg #[.int .i64 t228,.string t229,.string t230],.agg #[.int .i64 t233,.string t234,.string t235]] rfl (by first|rfl|(simp only [List.map_toArray,List.map_cons,List.map_nil,List.length_drop,List.length_take];rfl)|simp only [List.map_toArray,List.map_cons,List.map_nil]) ?_;(with_reducible refine (version_Compare.calls kj6 t228 t229 t230 t233 t234 t235 t238 _ (by first|exact hG|exact GL.below hG (by repeat (first|(with_reducible first|exact HB.out|apply qab|apply qaa|apply qac|refine qae ?_ GE232.out|refine qae ?_ GE237.out)|exact HB.out)))  A17.out).mono ?_);rintro e w22 ⟨rfl,hb⟩;refine ⟨_,rfl,?_⟩;have n0_ := Aside0.mk (qap (g := gb232) (o := .cells #[.int .i64 t228,.string t229,.string t230] 90 (0,0)) (by (with_reducible repeat (first|refine qah ?_ _|refine qai ?_|refine qag ?_ _));exact BK232.out) hb);have n1_ := Aside0.mk (qap (g := gb237) (o := .cells #[.int .i64 t233,.string t234,.string t235] 90 (0,0)) (by (with_reducible repeat (first|refine qah ?_ _|refine qai ?_|refine qag ?_ _));exact BK237.out) hb);have n2_ := Aside0.mk (qan (by repeat (first|(with_reducible first|exact HB.out|apply qab|apply qaa|apply qac|refine qae ?_ GE232.out|refine qae ?_ GE237.out)|exact HB.out)) hb);clear BK232;clear BK237;clear HB;have BK232 := n0_;have BK237 := n1_;have HB := n2_;clear n0_ n1_ n2_;(try clear hb);(try clear hb2);(try clear hk);(try clear hi)))
      go_ret
      exact ⟨by first|rfl|(simp [qak,qal]<;>rfl)|(simp [*,qak,qal]<;>rfl),by repeat (first|(with_reducible first|exact HB.out|apply qab|apply qaa|apply qac|refine qae ?_ GE232.out|refine qae ?_ GE237.out)|exact HB.out)⟩
     ·rw [if_neg c18] at H
      have c18b0 : (a0 == 1) = false := beq_eq_false_iff_ne.mpr c18
      have c18b1 : (a0 != 1) = true := bne_iff_ne.mpr c18
      by_cases c23 : a0 = 2
      ·rw [if_pos c23] at H
       have c23b0 : (a0 == 2) = true := beq_iff_eq.mpr c23
       have c23b1 : (a0 != 2) = false := bne_eq_false_iff_eq.mpr c23
       clear c23
       obtain rfl := Option.some.inj H
       have hnb24 := NB232_237.out
       have hnc24 := NB237_232.out
       have hcz25_0 : wc.cell? ⟨gb232,0,none⟩ = some (.int .i64 t228) := (qaf BK232.out 0).trans rfl
       have hcz25_1 : wc.cell? ⟨gb232,1,none⟩ = some (.string t229) := (qaf BK232.out 1).trans rfl
       have hcz25_2 : wc.cell? ⟨gb232,2,none⟩ = some (.string t230) := (qaf BK232.out 2).trans rfl
       have hfz25_0 := qad BK232.out 0
       have hfz25_1 := qad BK232.out 1
       have hfz25_2 := qad BK232.out 2
       have hcz26_0 : wc.cell? ⟨gb237,0,none⟩ = some (.int .i64 t233) := (qaf BK237.out 0).trans rfl
       have hcz26_1 : wc.cell? ⟨gb237,1,none⟩ = some (.string t234) := (qaf BK237.out 1).trans rfl
       have hcz26_2 : wc.cell? ⟨gb237,2,none⟩ = some (.string t235) := (qaf BK237.out 2).trans rfl
       have hfz26_0 := qad BK237.out 0
       have hfz26_1 := qad BK237.out 1
       have hfz26_2 := qad BK237.out 2
       go_wp2_with (first|((with_reducible refine qam (f := 96) rfl ?_);refine goesL_ (some 32) rfl rfl Tryz.func96 (by kernel_rfl) rfl #[.agg #[.int .i64 t228,.string t229,.string t230],.agg #[.int .i64 t233,.string t234,.string t235]] rfl (by first|rfl|(simp only [List.map_toArray,List.map_cons,List.map_nil,List.length_drop,List.length_take];rfl)|simp only [List.map_toArray,List.map_cons,List.map_nil]) ?_;(with_reducible refine (version_Compare.calls kj6 t228 t229 t230 t233 t234 t235 t238 _ (by first|exact hG|exact GL.below hG (by repeat (first|(with_reducible first|exact HB.out|apply qab|apply qaa|apply qac|refine qae ?_ GE232.out|refine qae ?_ GE237.out)|exact HB.out)))  A17.out).mono ?_);rintro e w27 ⟨rfl,hb⟩;refine ⟨_,rfl,?_⟩;have n0_ := Aside0.mk (qap (g := gb232) (o := .cells #[.int .i64 t228,.string t229,.string t230] 90 (0,0)) (by (with_reducible repeat (first|refine qah ?_ _|refine qai ?_|refine qag ?_ _));exact BK232.out) hb);have n1_ := Aside0.mk (qap (g := gb237) (o := .cells #[.int .i64 t233,.string t234,.string t235] 90 (0,0)) (by (with_reducible repeat (first|refine qah ?_ _|refine qai ?_|refine qag ?_ _));exact BK237.out) hb);have n2_ := Aside0.mk (qan (by repeat (first|(with_reducible first|exact HB.out|apply qab|apply qaa|apply qac|refine qae ?_ GE232.out|refine qae ?_ GE237.out)|exact HB.out)) hb);clear BK232;clear BK237;clear HB;have BK232 := n0_;have BK237 := n1_;have HB := n2_;clear n0_ n1_ n2_;(try clear hb);(try clear hb2);(try clear hk);(try clear hi)))
       go_ret
       exact ⟨by first|rfl|(simp [qak,qal]<;>rfl)|(simp [*,qak,qal]<;>rfl),by repeat (first|(with_reducible first|exact HB.out|apply qab|apply qaa|apply qac|refine qae ?_ GE232.out|refine qae ?_ GE237.out)|exact HB.out)⟩
      ·rw [if_neg c23] at H
       have c23b0 : (a0 == 2) = false := beq_eq_false_iff_ne.mpr c23
       have c23b1 : (a0 != 2) = true := bne_iff_ne.mpr c23
       by_cases c28 : a0 = 3
       ·rw [if_pos c28] at H
        have c28b0 : (a0 == 3) = true := beq_iff_eq.mpr c28
        have c28b1 : (a0 != 3) = false := bne_eq_false_iff_eq.mpr c28
        clear c28
        obtain rfl := Option.some.inj H
        have hnb29 := NB232_237.out
        have hnc29 := NB237_232.out
        have hcz30_0 : wc.cell? ⟨gb232,0,none⟩ = some (.int .i64 t228) := (qaf BK232.out 0).trans rfl
        have hcz30_1 : wc.cell? ⟨gb232,1,none⟩ = some (.string t229) := (qaf BK232.out 1).trans rfl
        have hcz30_2 : wc.cell? ⟨gb232,2,none⟩ = some (.string t230) := (qaf BK232.out 2).trans rfl
        have hfz30_0 := qad BK232.out 0
        have hfz30_1 := qad BK232.out 1
        have hfz30_2 := qad BK232.out 2
        have hcz31_0 : wc.cell? ⟨gb237,0,none⟩ = some (.int .i64 t233) := (qaf BK237.out 0).trans rfl
        have hcz31_1 : wc.cell? ⟨gb237,1,none⟩ = some (.string t234) := (qaf BK237.out 1).trans rfl
        have hcz31_2 : wc.cell? ⟨gb237,2,none⟩ = some (.string t235) := (qaf BK237.out 2).trans rfl
        have hfz31_0 := qad BK237.out 0
        have hfz31_1 := qad BK237.out 1
        have hfz31_2 := qad BK237.out 2
        go_wp2_with (first|((with_reducible refine qam (f := 96) rfl ?_);refine goesL_ (some 32) rfl rfl Tryz.func96 (by kernel_rfl) rfl #[.agg #[.int .i64 t228,.string t229,.string t230],.agg #[.int .i64 t233,.string t234,.string t235]] rfl (by first|rfl|(simp only [List.map_toArray,List.map_cons,List.map_nil,List.length_drop,List.length_take];rfl)|simp only [List.map_toArray,List.map_cons,List.map_nil]) ?_;(with_reducible refine (version_Compare.calls kj6 t228 t229 t230 t233 t234 t235 t238 _ (by first|exact hG|exact GL.below hG (by repeat (first|(with_reducible first|exact HB.out|apply qab|apply qaa|apply qac|refine qae ?_ GE232.out|refine qae ?_ GE237.out)|exact HB.out)))  A17.out).mono ?_);rintro e w32 ⟨rfl,hb⟩;refine ⟨_,rfl,?_⟩;have n0_ := Aside0.mk (qap (g := gb232) (o := .cells #[.int .i64 t228,.string t229,.string t230] 90 (0,0)) (by (with_reducible repeat (first|refine qah ?_ _|refine qai ?_|refine qag ?_ _));exact BK232.out) hb);have n1_ := Aside0.mk (qap (g := gb237) (o := .cells #[.int .i64 t233,.string t234,.string t235] 90 (0,0)) (by (with_reducible repeat (first|refine qah ?_ _|refine qai ?_|refine qag ?_ _));exact BK237.out) hb);have n2_ := Aside0.mk (qan (by repeat (first|(with_reducible first|exact HB.out|apply qab|apply qaa|apply qac|refine qae ?_ GE232.out|refine qae ?_ GE237.out)|exact HB.out)) hb);clear BK232;clear BK237;clear HB;have BK232 := n0_;have BK237 := n1_;have HB := n2_;clear n0_ n1_ n2_;(try clear hb);(try clear hb2);(try clear hk);(try clear hi)))
        go_ret
        exact ⟨by first|rfl|(simp [qak,qal]<;>rfl)|(simp [*,qak,qal]<;>rfl),by repeat (first|(with_reducible first|exact HB.out|apply qab|apply qaa|apply qac|refine qae ?_ GE232.out|refine qae ?_ GE237.out)|exact HB.out)⟩
       ·rw [if_neg c28] at H
        have c28b0 : (a0 == 3) = false := beq_eq_false_iff_ne.mpr c28
        have c28b1 : (a0 != 3) = true := bne_iff_ne.mpr c28
        by_cases c33 : a0 = 4
        ·rw [if_pos c33] at H
         have c33b0 : (a0 == 4) = true := beq_iff_eq.mpr c33
         have c33b1 : (a0 != 4) = false := bne_eq_false_iff_eq.mpr c33
         clear c33
         obtain rfl := Option.some.inj H
         have hnb34 := NB232_237.out
         have hnc34 := NB237_232.out
         have hcz35_0 : wc.cell? ⟨gb232,0,none⟩ = some (.int .i64 t228) := (qaf BK232.out 0).trans rfl
         have hcz35_1 : wc.cell? ⟨gb232,1,none⟩ = some (.string t229) := (qaf BK232.out 1).trans rfl
         have hcz35_2 : wc.cell? ⟨gb232,2,none⟩ = some (.string t230) := (qaf BK232.out 2).trans rfl
         have hfz35_0 := qad BK232.out 0
         have hfz35_1 := qad BK232.out 1
         have hfz35_2 := qad BK232.out 2
         have hcz36_0 : wc.cell? ⟨gb237,0,none⟩ = some (.int .i64 t233) := (qaf BK237.out 0).trans rfl
         have hcz36_1 : wc.cell? ⟨gb237,1,none⟩ = some (.string t234) := (qaf BK237.out 1).trans rfl
         have hcz36_2 : wc.cell? ⟨gb237,2,none⟩ = some (.string t235) := (qaf BK237.out 2).trans rfl
         have hfz36_0 := qad BK237.out 0
         have hfz36_1 := qad BK237.out 1
         have hfz36_2 := qad BK237.out 2
         go_wp2_with (first|((with_reducible refine qam (f := 96) rfl ?_);refine goesL_ (some 32) rfl rfl Tryz.func96 (by kernel_rfl) rfl #[.agg #[.int .i64 t228,.string t229,.string t230],.agg #[.int .i64 t233,.string t234,.string t235]] rfl (by first|rfl|(simp only [List.map_toArray,List.map_cons,List.map_nil,List.length_drop,List.length_take];rfl)|simp only [List.map_toArray,List.map_cons,List.map_nil]) ?_;(with_reducible refine (version_Compare.calls kj6 t228 t229 t230 t233 t234 t235 t238 _ (by first|exact hG|exact GL.below hG (by repeat (first|(with_reducible first|exact HB.out|apply qab|apply qaa|apply qac|refine qae ?_ GE232.out|refine qae ?_ GE237.out)|exact HB.out)))  A17.out).mono ?_);rintro e w37 ⟨rfl,hb⟩;refine ⟨_,rfl,?_⟩;have n0_ := Aside0.mk (qap (g := gb232) (o := .cells #[.int .i64 t228,.string t229,.string t230] 90 (0,0)) (by (with_reducible repeat (first|refine qah ?_ _|refine qai ?_|refine qag ?_ _));exact BK232.out) hb);have n1_ := Aside0.mk (qap (g := gb237) (o := .cells #[.int .i64 t233,.string t234,.string t235] 90 (0,0)) (by (with_reducible repeat (first|refine qah ?_ _|refine qai ?_|refine qag ?_ _));exact BK237.out) hb);have n2_ := Aside0.mk (qan (by repeat (first|(with_reducible first|exact HB.out|apply qab|apply qaa|apply qac|refine qae ?_ GE232.out|refine qae ?_ GE237.out)|exact HB.out)) hb);clear BK232;clear BK237;clear HB;have BK232 := n0_;have BK237 := n1_;have HB := n2_;clear n0_ n1_ n2_;(try clear hb);(try clear hb2);(try clear hk);(try clear hi)))
         go_ret
         exact ⟨by first|rfl|(simp [qak,qal]<;>rfl)|(simp [*,qak,qal]<;>rfl),by repeat (first|(with_reducible first|exact HB.out|apply qab|apply qaa|apply qac|refine qae ?_ GE232.out|refine qae ?_ GE237.out)|exact HB.out)⟩
        ·rw [if_neg c33] at H
         have c33b0 : (a0 == 4) = false := beq_eq_false_iff_ne.mpr c33
         have c33b1 : (a0 != 4) = true := bne_iff_ne.mpr c33
         by_cases c38 : a0 = 5
         ·rw [if_pos c38] at H
          have c38b0 : (a0 == 5) = true := beq_iff_eq.mpr c38
          have c38b1 : (a0 != 5) = false := bne_eq_false_iff_eq.mpr c38
          clear c38
          obtain rfl := Option.some.inj H
          have hnb39 := NB232_237.out
          have hnc39 := NB237_232.out
          have hcz40_0 : wc.cell? ⟨gb232,0,none⟩ = some (.int .i64 t228) := (qaf BK232.out 0).trans rfl
          have hcz40_1 : wc.cell? ⟨gb232,1,none⟩ = some (.string t229) := (qaf BK232.out 1).trans rfl
          have hcz40_2 : wc.cell? ⟨gb232,2,none⟩ = some (.string t230) := (qaf BK232.out 2).trans rfl
          have hfz40_0 := qad BK232.out 0
          have hfz40_1 := qad BK232.out 1
          have hfz40_2 := qad BK232.out 2
          have hcz41_0 : wc.cell? ⟨gb237,0,none⟩ = some (.int .i64 t233) := (qaf BK237.out 0).trans rfl
          have hcz41_1 : wc.cell? ⟨gb237,1,none⟩ = some (.string t234) := (qaf BK237.out 1).trans rfl
          have hcz41_2 : wc.cell? ⟨gb237,2,none⟩ = some (.string t235) := (qaf BK237.out 2).trans rfl
          have hfz41_0 := qad BK237.out 0
          have hfz41_1 := qad BK237.out 1
          have hfz41_2 := qad BK237.out 2
          go_wp2_with (first|((with_reducible refine qam (f := 96) rfl ?_);refine goesL_ (some 32) rfl rfl Tryz.func96 (by kernel_rfl) rfl #[.agg #[.int .i64 t228,.string t229,.string t230],.agg #[.int .i64 t233,.string t234,.string t235]] rfl (by first|rfl|(simp only [List.map_toArray,List.map_cons,List.map_nil,List.length_drop,List.length_take];rfl)|simp only [List.map_toArray,List.map_cons,List.map_nil]) ?_;(with_reducible refine (version_Compare.calls kj6 t228 t229 t230 t233 t234 t235 t238 _ (by first|exact hG|exact GL.below hG (by repeat (first|(with_reducible first|exact HB.out|apply qab|apply qaa|apply qac|refine qae ?_ GE232.out|refine qae ?_ GE237.out)|exact HB.out)))  A17.out).mono ?_);rintro e w42 ⟨rfl,hb⟩;refine ⟨_,rfl,?_⟩;have n0_ := Aside0.mk (qap (g := gb232) (o := .cells #[.int .i64 t228,.string t229,.string t230] 90 (0,0)) (by (with_reducible repeat (first|refine qah ?_ _|refine qai ?_|refine qag ?_ _));exact BK232.out) hb);have n1_ := Aside0.mk (qap (g := gb237) (o := .cells #[.int .i64 t233,.string t234,.string t235] 90 (0,0)) (by (with_reducible repeat (first|refine qah ?_ _|refine qai ?_|refine qag ?_ _));exact BK237.out) hb);have n2_ := Aside0.mk (qan (by repeat (first|(with_reducible first|exact HB.out|apply qab|apply qaa|apply qac|refine qae ?_ GE232.out|refine qae ?_ GE237.out)|exact HB.out)) hb);clear BK232;clear BK237;clear HB;have BK232 := n0_;have BK237 := n1_;have HB := n2_;clear n0_ n1_ n2_;(try clear hb);(try clear hb2);(try clear hk);(try clear hi)))
          go_ret
          exact ⟨by first|rfl|(simp [qak,qal]<;>rfl)|(simp [*,qak,qal]<;>rfl),by repeat (first|(with_reducible first|exact HB.out|apply qab|apply qaa|apply qac|refine qae ?_ GE232.out|refine qae ?_ GE237.out)|exact HB.out)⟩
         ·rw [if_neg c38] at H
          have c38b0 : (a0 == 5) = false := beq_eq_false_iff_ne.mpr c38
          have c38b1 : (a0 != 5) = true := bne_iff_ne.mpr c38
          obtain rfl := Option.some.inj H
          have hnb43 := NB232_237.out
          have hnc43 := NB237_232.out
          have hcz44_0 : wc.cell? ⟨gb232,0,none⟩ = some (.int .i64 t228) := (qaf BK232.out 0).trans rfl
          have hcz44_1 : wc.cell? ⟨gb232,1,none⟩ = some (.string t229) := (qaf BK232.out 1).trans rfl
          have hcz44_2 : wc.cell? ⟨gb232,2,none⟩ = some (.string t230) := (qaf BK232.out 2).trans rfl
          have hfz44_0 := qad BK232.out 0
          have hfz44_1 := qad BK232.out 1
          have hfz44_2 := qad BK232.out 2
          have hcz45_0 : wc.cell? ⟨gb237,0,none⟩ = some (.int .i64 t233) := (qaf BK237.out 0).trans rfl
          have hcz45_1 : wc.cell? ⟨gb237,1,none⟩ = some (.string t234) := (qaf BK237.out 1).trans rfl
          have hcz45_2 : wc.cell? ⟨gb237,2,none⟩ = some (.string t235) := (qaf BK237.out 2).trans rfl
          have hfz45_0 := qad BK237.out 0
          have hfz45_1 := qad BK237.out 1
          have hfz45_2 := qad BK237.out 2
          go_wp2_with (first|((with_reducible refine qam (f := 96) rfl ?_);refine goesL_ (some 32) rfl rfl Tryz.func96 (by kernel_rfl) rfl #[.agg #[.int .i64 t228,.string t229,.string t230],.agg #[.int .i64 t233,.string t234,.string t235]] rfl (by first|rfl|(simp only [List.map_toArray,List.map_cons,List.map_nil,List.length_drop,List.length_take];rfl)|simp only [List.map_toArray,List.map_cons,List.map_nil]) ?_;(with_reducible refine (version_Compare.calls kj6 t228 t229 t230 t233 t234 t235 t238 _ (by first|exact hG|exact GL.below hG (by repeat (first|(with_reducible first|exact HB.out|apply qab|apply qaa|apply qac|refine qae ?_ GE232.out|refine qae ?_ GE237.out)|exact HB.out)))  A17.out).mono ?_);rintro e w46 ⟨rfl,hb⟩;refine ⟨_,rfl,?_⟩;have n0_ := Aside0.mk (qap (g := gb232) (o := .cells #[.int .i64 t228,.string t229,.string t230] 90 (0,0)) (by (with_reducible repeat (first|refine qah ?_ _|refine qai ?_|refine qag ?_ _));exact BK232.out) hb);have n1_ := Aside0.mk (qap (g := gb237) (o := .cells #[.int .i64 t233,.string t234,.string t235] 90 (0,0)) (by (with_reducible repeat (first|refine qah ?_ _|refine qai ?_|refine qag ?_ _));exact BK237.out) hb);have n2_ := Aside0.mk (qan (by repeat (first|(with_reducible first|exact HB.out|apply qab|apply qaa|apply qac|refine qae ?_ GE232.out|refine qae ?_ GE237.out)|exact HB.out)) hb);clear BK232;clear BK237;clear HB;have BK232 := n0_;have BK237 := n1_;have HB := n2_;clear n0_ n1_ n2_;(try clear hb);(try clear hb2);(try clear hk);(try clear hi)))
          go_ret
          exact ⟨by first|rfl|(simp [qak,qal]<;>rfl)|(simp [*,qak,qal]<;>rfl),by repeat (first|(with_reducible first|exact HB.out|apply qab|apply qaa|apply qac|refine qae ?_ GE232.out|refine qae ?_ GE237.out)|exact HB.out)⟩
def relation_Provides.f (k : Nat) (a0_0 : ByteArray) (a0_1 : Int) (a0_2 : ByteArray) (a1_0 : ByteArray) (a1_1 : Int) (a1_2 : ByteArray) : Option (Bool) := if a0_0.toList = a1_0.toList then (if a0_1 = 0 then (some true) else (if a1_1 = 3 then ((relation_Holds.f k a0_1 a1_2 a0_2).bind fun t241 => (some t241)) else (some false))) else (some false)
theorem relation_Provides.mono : ∀ a0 a1 a2 a3 a4 a5 k,LeO (relation_Provides.f k a0 a1 a2 a3 a4 a5) (relation_Provides.f (k + 1) a0 a1 a2 a3 a4 a5) := by
 intro a0 a1 a2 a3 a4 a5 k
 unfold relation_Provides.f
 repeat' first
   | (with_reducible exact relation_Holds.mono _ _ _ _)
   | (with_reducible exact LeO.refl _)
   | (with_reducible exact LeO.none _)
   | (with_reducible refine LeO.ite ?_ ?_)
   | (with_reducible refine LeO.bind ?_ (fun _ => ?_))
   | exact relation_Holds.mono _ _ _ _
   | exact LeO.none _
   | refine LeO.ite ?_ ?_
   | refine LeO.bind ?_ (fun _ => ?_)
theorem relation_Provides.calls (k : Nat) (a0_0 : ByteArray) (a0_1 : Int) (a0_2 : ByteArray) (a1_0 : ByteArray) (a1_1 : Int) (a1_2 : ByteArray) (r : Bool) (w : World) (hG : GL w) (h : relation_Provides.f k a0_0 a0_1 a0_2 a1_0 a1_1 a1_2 = some r) :
  Calls Tryz.prog 48 #[.agg #[.string a0_0,.int .i64 a0_1,.string a0_2],.agg #[.string a1_0,.int .i64 a1_1,.string a1_2]] w fun e w' => e = .returned (.bool r) ∧ Below w.heap.size w w' := by
 have hu39 := Tryz.underlying39
 have HB := Aside0.mk (Below.refl w.heap.size w)
 have H : (if a0_0.toList = a1_0.toList then (if a0_1 = 0 then (some true) else (if a1_1 = 3 then ((relation_Holds.f k a0_1 a1_2 a0_2).bind fun t241 => (some t241)) else (some false))) else (some false)) = some r := h
 clear h
 by_cases c3 : a0_0.toList = a1_0.toList
 ·rw [if_pos c3] at H
  have c3b0 : (a0_0.toList == a1_0.toList) = true := beq_iff_eq.mpr c3
  have c3b1 : (a0_0.toList != a1_0.toList) = false := bne_eq_false_iff_eq.mpr c3
  clear c3
  by_cases c4 : a0_1 = 0
  ·rw [if_pos c4] at H
   have c4b0 : (a0_1 == 0) = true := beq_iff_eq.mpr c4
   have c4b1 : (a0_1 != 0) = false := bne_eq_false_iff_eq.mpr c4
   clear c4
   obtain rfl := Option.some.inj H
   go_enter Tryz.func48,Tryz.ntmps48
   go_wp2_with (first|((with_reducible refine gate_dst (N := 2) rfl ?_);refine box_event ?hg (N := 2) ?hd (cs := #[.string a0_0,.int .i64 a0_1,.string a0_2]) (t := 39) ?hr ?_;(case hd => rfl);(case hg => rfl);(case hr => first|(go_simp;done)|(go_simp;rfl));intro gb239 hg w5 hbox hb;have n0_ := Aside0.mk (qan (by repeat (with_reducible first|exact HB.out|apply qab|apply qaa|apply qac)) hb);have n1_ := Aside0.mk (hbox);have n2_ := Aside0.mk ((by rw [hg];exact (qao (by repeat (with_reducible first|exact HB.out|apply qab|apply qaa|apply qac))) : w.heap.size ≤ gb239));have n3_ := Aside0.mk ((by rw [hg];exact (qao (by repeat (with_reducible first|exact HB.out|apply qab|apply qaa|apply qac))) : w.heap.size ≤ gb239));clear HB;have HB := n0_;have BK239 := n1_;have GW239 := n2_;have GE239 := n3_;clear n0_ n1_ n2_ n3_;clear hb hbox hg)|((with_reducible refine gate_dst (N := 3) rfl ?_);refine box_event ?hg (N := 3) ?hd (cs := #[.string a1_0,.int .i64 a1_1,.string a1_2]) (t := 39) ?hr ?_;(case hd => rfl);(case hg => rfl);(case hr => first|(go_simp;done)|(go_simp;rfl));intro gb240 hg w6 hbox hb;have n0_ := Aside0.mk (qap (g := gb239) (o := .cells #[.string a0_0,.int .i64 a0_1,.string a0_2] 39 (0,0)) (by (with_reducible repeat (first|refine qah ?_ _|refine qai ?_|refine qag ?_ _));exact BK239.out) hb);have n1_ := Aside0.mk (qan (by repeat (first|(with_reducible first|exact HB.out|apply qab|apply qaa|apply qac|refine qae ?_ GE239.out)|exact HB.out)) hb);have n2_ := Aside0.mk (hbox);have n3_ := Aside0.mk ((by rw [hg];exact (qao (by repeat (first|(with_reducible first|exact HB.out|apply qab|apply qaa|apply qac|refine qae ?_ GE239.out)|exact HB.out))) : w.heap.size ≤ gb240));have n4_ := Aside0.mk ((by rw [hg];exact (qao (by repeat (first|(with_reducible first|exact HB.out|apply qab|apply qaa|apply qac|refine qae ?_ GE239.out)|exact HB.out))) : w.heap.size ≤ gb240));have n5_ := Aside0.mk ((by rw [hg];exact Nat.ne_of_lt (blk_lt (g := gb239) (o := .cells #[.string a0_0,.int .i64 a0_1,.string a0_2] 39 (0,0)) (by (with_reducible repeat (first|refine qah ?_ _|refine qai ?_|refine qag ?_ _));exact BK239.out)) : gb239 ≠ gb240));have n6_ := Aside0.mk ((by rw [hg];exact Nat.ne_of_gt (blk_lt (g := gb239) (o := .cells #[.string a0_0,.int .i64 a0_1,.string a0_2] 39 (0,0)) (by (with_reducible repeat (first|refine qah ?_ _|refine qai ?_|refine qag ?_ _));exact BK239.out)) : gb240 ≠ gb239));clear BK239;clear HB;have BK239 := n0_;have HB := n1_;have BK240 := n2_;have GW240 := n3_;have GE240 := n4_;have NB239_240 := n5_;have NB240_239 := n6_;clear n0_ n1_ n2_ n3_ n4_ n5_ n6_;clear hb hbox hg;have hnb7 := NB239_240.out;have hnc7 := NB240_239.out;have hcz8_0 : w6.cell? ⟨gb239,0,none⟩ = some (.string a0_0) := (qaf BK239.out 0).trans rfl;have hcz8_1 : w6.cell? ⟨gb239,1,none⟩ = some (.int .i64 a0_1) := (qaf BK239.out 1).trans rfl;have hcz8_2 : w6.cell? ⟨gb239,2,none⟩ = some (.string a0_2) := (qaf BK239.out 2).trans rfl;have hfz8_0 := qad BK239.out 0;have hfz8_1 := qad BK239.out 1;have hfz8_2 := qad BK239.out 2;have hcz9_0 : w6.cell? ⟨gb240,0,none⟩ = some (.string a1_0) := (qaf BK240.out 0).trans rfl;have hcz9_1 : w6.cell? ⟨gb240,1,none⟩ = some (.int .i64 a1_1) := (qaf BK240.out 1).trans rfl;have hcz9_2 : w6.cell? ⟨gb240,2,none⟩ = some (.string a1_2) := (qaf BK240.out 2).trans rfl;have hfz9_0 := qad BK240.out 0;have hfz9_1 := qad BK240.out 1;have hfz9_2 := qad BK240.out 2))
   go_ret
   exact ⟨by first|rfl|(simp [qak,qal]<;>rfl)|(simp [*,qak,qal]<;>rfl),by repeat (first|(with_reducible first|exact HB.out|apply qab|apply qaa|apply qac|refine qae ?_ GE239.out|refine qae ?_ GE240.out)|exact HB.out)⟩
  ·rw [if_neg c4] at H
   have c4b0 : (a0_1 == 0) = false := beq_eq_false_iff_ne.mpr c4
   have c4b1 : (a0_1 != 0) = true := bne_iff_ne.mpr c4
   by_cases c10 : a1_1 = 3
   ·rw [if_pos c10] at H
    have c10b0 : (a1_1 == 3) = true := beq_iff_eq.mpr c10
    have c10b1 : (a1_1 != 3) = false := bne_eq_false_iff_eq.mpr c10
    clear c10
    replace H := Option.bind_eq_some_iff.mp H
    obtain ⟨t241,A110,H⟩ := H
    replace H : (some t241) = some r := H
    have A11 := Aside0.mk A110
    clear A110
    obtain rfl := Option.some.inj H
    go_enter Tryz.func48,Tryz.ntmps48
    go_wp2_with (first|((with_reducible refine gate_dst (N := 2) rfl ?_);refine box_event ?hg (N := 2) ?hd (cs := #[.string a0_0,.int .i64 a0_1,.string a0_2]) (t := 39) ?hr ?_;(case hd => rfl);(case hg => rfl);(case hr => first|(go_simp;done)|(go_simp;rfl));intro gb239 hg w12 hbox hb;have n0_ := Aside0.mk (qan (by repeat (with_reducible first|exact HB.out|apply qab|apply qaa|apply qac)) hb);have n1_ := Aside0.mk (hbox);have n2_ := Aside0.mk ((by rw [hg];exact (qao (by repeat (with_reducible first|exact HB.out|apply qab|apply qaa|apply qac))) : w.heap.size ≤ gb239));have n3_ := Aside0.mk ((by rw [hg];exact (qao (by repeat (with_reducible first|exact HB.out|apply qab|apply qaa|apply qac))) : w.heap.size ≤ gb239));clear HB;have HB := n0_;have BK239 := n1_;have GW239 := n2_;have GE239 := n3_;clear n0_ n1_ n2_ n3_;clear hb hbox hg)|((with_reducible refine gate_dst (N := 3) rfl ?_);refine box_event ?hg (N := 3) ?hd (cs := #[.string a1_0,.int .i64 a1_1,.string a1_2]) (t := 39) ?hr ?_;(case hd => rfl);(case hg => rfl);(case hr => first|(go_simp;done)|(go_simp;rfl));intro gb240 hg w13 hbox hb;have n0_ := Aside0.mk (qap (g := gb239) (o := .cells #[.string a0_0,.int .i64 a0_1,.string a0_2] 39 (0,0)) (by (with_reducible repeat (first|refine qah ?_ _|refine qai ?_|refine qag ?_ _));exact BK239.out) hb);have n1_ := Aside0.mk (qan (by repeat (first|(with_reducible first|exact HB.out|apply qab|apply qaa|apply qac|refine qae ?_ GE239.out)|exact HB.out)) hb);have n2_ := Aside0.mk (hbox);have n3_ := Aside0.mk ((by rw [hg];exact (qao (by repeat (first|(with_reducible first|exact HB.out|apply qab|apply qaa|apply qac|refine qae ?_ GE239.out)|exact HB.out))) : w.heap.size ≤ gb240));have n4_ := Aside0.mk ((by rw [hg];exact (qao (by repeat (first|(with_reducible first|exact HB.out|apply qab|apply qaa|apply qac|refine qae ?_ GE239.out)|exact HB.out))) : w.heap.size ≤ gb240));have n5_ := Aside0.mk ((by rw [hg];exact Nat.ne_of_lt (blk_lt (g := gb239) (o := .cells #[.string a0_0,.int .i64 a0_1,.string a0_2] 39 (0,0)) (by (with_reducible repeat (first|refine qah ?_ _|refine qai ?_|refine qag ?_ _));exact BK239.out)) : gb239 ≠ gb240));have n6_ := Aside0.mk ((by rw [hg];exact Nat.ne_of_gt (blk_lt (g := gb239) (o := .cells #[.string a0_0,.int .i64 a0_1,.string a0_2] 39 (0,0)) (by (with_reducible repeat (first|refine qah ?_ _|refine qai ?_|refine qag ?_ _));exact BK239.out)) : gb240 ≠ gb239));clear BK239;clear HB;have BK239 := n0_;have HB := n1_;have BK240 := n2_;have GW240 := n3_;have GE240 := n4_;have NB239_240 := n5_;have NB240_239 := n6_;clear n0_ n1_ n2_ n3_ n4_ n5_ n6_;clear hb hbox hg;have hnb14 := NB239_240.out;have hnc14 := NB240_239.out;have hcz15_0 : w13.cell? ⟨gb239,0,none⟩ = some (.string a0_0) := (qaf BK239.out 0).trans rfl;have hcz15_1 : w13.cell? ⟨gb239,1,none⟩ = some (.int .i64 a0_1) := (qaf BK239.out 1).trans rfl;have hcz15_2 : w13.cell? ⟨gb239,2,none⟩ = some (.string a0_2) := (qaf BK239.out 2).trans rfl;have hfz15_0 := qad BK239.out 0;have hfz15_1 := qad BK239.out 1;have hfz15_2 := qad BK239.out 2;have hcz16_0 : w13.cell? ⟨gb240,0,none⟩ = some (.string a1_0) := (qaf BK240.out 0).trans rfl;have hcz16_1 : w13.cell? ⟨gb240,1,none⟩ = some (.int .i64 a1_1) := (qaf BK240.out 1).trans rfl;have hcz16_2 : w13.cell? ⟨gb240,2,none⟩ = some (.string a1_2) := (qaf BK240.out 2).trans rfl;have hfz16_0 := qad BK240.out 0;have hfz16_1 := qad BK240.out 1;have hfz16_2 := qad BK240.out 2)|(go_at_call 73;(with_reducible refine (relation_Holds.calls k a0_1 a1_2 a0_2 t241 _ (by first|exact hG|exact GL.below hG (by repeat (first|(with_reducible first|exact HB.out|apply qab|apply qaa|apply qac|refine qae ?_ GE239.out|refine qae ?_ GE240.out)|exact HB.out)))  A11.out).mono ?_);rintro e w17 ⟨rfl,hb⟩;have n0_ := Aside0.mk (qap (g := gb239) (o := .cells #[.string a0_0,.int .i64 a0_1,.string a0_2] 39 (0,0)) (by (with_reducible repeat (first|refine qah ?_ _|refine qai ?_|refine qag ?_ _));exact BK239.out) hb);have n1_ := Aside0.mk (qap (g := gb240) (o := .cells #[.string a1_0,.int .i64 a1_1,.string a1_2] 39 (0,0)) (by (with_reducible repeat (first|refine qah ?_ _|refine qai ?_|refine qag ?_ _));exact BK240.out) hb);have n2_ := Aside0.mk (qan (by repeat (first|(with_reducible first|exact HB.out|apply qab|apply qaa|apply qac|refine qae ?_ GE239.out|refine qae ?_ GE240.out)|exact HB.out)) hb);clear BK239;clear BK240;clear HB;have BK239 := n0_;have BK240 := n1_;have HB := n2_;clear n0_ n1_ n2_;(try clear hb);(try clear hb2);(try clear hk);(try clear hi)))
    go_ret
    exact ⟨by first|rfl|(simp [qak,qal]<;>rfl)|(simp [*,qak,qal]<;>rfl),by repeat (first|(with_reducible first|exact HB.out|apply qab|apply qaa|apply qac|refine qae ?_ GE239.out|refine qae ?_ GE240.out)|exact HB.out)⟩
   ·rw [if_neg c10] at H
    have c10b0 : (a1_1 == 3) = false := beq_eq_false_iff_ne.mpr c10
    have c10b1 : (a1_1 != 3) = true := bne_iff_ne.mpr c10
    obtain rfl := Option.some.inj H
    go_enter Tryz.func48,Tryz.ntmps48
    go_wp2_with (first|((with_reducible refine gate_dst (N := 2) rfl ?_);refine box_event ?hg (N := 2) ?hd (cs := #[.string a0_0,.int .i64 a0_1,.string a0_2]) (t := 39) ?hr ?_;(case hd => rfl);(case hg => rfl);(case hr => first|(go_simp;done)|(go_simp;rfl));intro gb239 hg w18 hbox hb;have n0_ := Aside0.mk (qan (by repeat (with_reducible first|exact HB.out|apply qab|apply qaa|apply qac)) hb);have n1_ := Aside0.mk (hbox);have n2_ := Aside0.mk ((by rw [hg];exact (qao (by repeat (with_reducible first|exact HB.out|apply qab|apply qaa|apply qac))) : w.heap.size ≤ gb239));have n3_ := Aside0.mk ((by rw [hg];exact (qao (by repeat (with_reducible first|exact HB.out|apply qab|apply qaa|apply qac))) : w.heap.size ≤ gb239));clear HB;have HB := n0_;have BK239 := n1_;have GW239 := n2_;have GE239 := n3_;clear n0_ n1_ n2_ n3_;clear hb hbox hg)|((with_reducible refine gate_dst (N := 3) rfl ?_);refine box_event ?hg (N := 3) ?hd (cs := #[.string a1_0,.int .i64 a1_1,.string a1_2]) (t := 39) ?hr ?_;(case hd => rfl);(case hg => rfl);(case hr => first|(go_simp;done)|(go_simp;rfl));intro gb240 hg w19 hbox hb;have n0_ := Aside0.mk (qap (g := gb239) (o := .cells #[.string a0_0,.int .i64 a0_1,.string a0_2] 39 (0,0)) (by (with_reducible repeat (first|refine qah ?_ _|refine qai ?_|refine qag ?_ _));exact BK239.out) hb);have n1_ := Aside0.mk (qan (by repeat (first|(with_reducible first|exact HB.out|apply qab|apply qaa|apply qac|refine qae ?_ GE239.out)|exact HB.out)) hb);have n2_ := Aside0.mk (hbox);have n3_ := Aside0.mk ((by rw [hg];exact (qao (by repeat (first|(with_reducible first|exact HB.out|apply qab|apply qaa|apply qac|refine qae ?_ GE239.out)|exact HB.out))) : w.heap.size ≤ gb240));have n4_ := Aside0.mk ((by rw [hg];exact (qao (by repeat (first|(with_reducible first|exact HB.out|apply qab|apply qaa|apply qac|refine qae ?_ GE239.out)|exact HB.out))) : w.heap.size ≤ gb240));have n5_ := Aside0.mk ((by rw [hg];exact Nat.ne_of_lt (blk_lt (g := gb239) (o := .cells #[.string a0_0,.int .i64 a0_1,.string a0_2] 39 (0,0)) (by (with_reducible repeat (first|refine qah ?_ _|refine qai ?_|refine qag ?_ _));exact BK239.out)) : gb239 ≠ gb240));have n6_ := Aside0.mk ((by rw [hg];exact Nat.ne_of_gt (blk_lt (g := gb239) (o := .cells #[.string a0_0,.int .i64 a0_1,.string a0_2] 39 (0,0)) (by (with_reducible repeat (first|refine qah ?_ _|refine qai ?_|refine qag ?_ _));exact BK239.out)) : gb240 ≠ gb239));clear BK239;clear HB;have BK239 := n0_;have HB := n1_;have BK240 := n2_;have GW240 := n3_;have GE240 := n4_;have NB239_240 := n5_;have NB240_239 := n6_;clear n0_ n1_ n2_ n3_ n4_ n5_ n6_;clear hb hbox hg;have hnb20 := NB239_240.out;have hnc20 := NB240_239.out;have hcz21_0 : w19.cell? ⟨gb239,0,none⟩ = some (.string a0_0) := (qaf BK239.out 0).trans rfl;have hcz21_1 : w19.cell? ⟨gb239,1,none⟩ = some (.int .i64 a0_1) := (qaf BK239.out 1).trans rfl;have hcz21_2 : w19.cell? ⟨gb239,2,none⟩ = some (.string a0_2) := (qaf BK239.out 2).trans rfl;have hfz21_0 := qad BK239.out 0;have hfz21_1 := qad BK239.out 1;have hfz21_2 := qad BK239.out 2;have hcz22_0 : w19.cell? ⟨gb240,0,none⟩ = some (.string a1_0) := (qaf BK240.out 0).trans rfl;have hcz22_1 : w19.cell? ⟨gb240,1,none⟩ = some (.int .i64 a1_1) := (qaf BK240.out 1).trans rfl;have hcz22_2 : w19.cell? ⟨gb240,2,none⟩ = some (.string a1_2) := (qaf BK240.out 2).trans rfl;have hfz22_0 := qad BK240.out 0;have hfz22_1 := qad BK240.out 1;have hfz22_2 := qad BK240.out 2))
    go_ret
    exact ⟨by first|rfl|(simp [qak,qal]<;>rfl)|(simp [*,qak,qal]<;>rfl),by repeat (first|(with_reducible first|exact HB.out|apply qab|apply qaa|apply qac|refine qae ?_ GE239.out|refine qae ?_ GE240.out)|exact HB.out)⟩
 ·rw [if_neg c3] at H
  have c3b0 : (a0_0.toList == a1_0.toList) = false := beq_eq_false_iff_ne.mpr c3
  have c3b1 : (a0_0.toList != a1_0.toList) = true := bne_iff_ne.mpr c3
  obtain rfl := Option.some.inj H
  go_enter Tryz.func48,Tryz.ntmps48
  go_wp2_with (first|((with_reducible refine gate_dst (N := 2) rfl ?_);refine box_event ?hg (N := 2) ?hd (cs := #[.string a0_0,.int .i64 a0_1,.string a0_2]) (t := 39) ?hr ?_;(case hd => rfl);(case hg => rfl);(case hr => first|(go_simp;done)|(go_simp;rfl));intro gb239 hg w23 hbox hb;have n0_ := Aside0.mk (qan (by repeat (with_reducible first|exact HB.out|apply qab|apply qaa|apply qac)) hb);have n1_ := Aside0.mk (hbox);have n2_ := Aside0.mk ((by rw [hg];exact (qao (by repeat (with_reducible first|exact HB.out|apply qab|apply qaa|apply qac))) : w.heap.size ≤ gb239));have n3_ := Aside0.mk ((by rw [hg];exact (qao (by repeat (with_reducible first|exact HB.out|apply qab|apply qaa|apply qac))) : w.heap.size ≤ gb239));clear HB;have HB := n0_;have BK239 := n1_;have GW239 := n2_;have GE239 := n3_;clear n0_ n1_ n2_ n3_;clear hb hbox hg)|((with_reducible refine gate_dst (N := 3) rfl ?_);refine box_event ?hg (N := 3) ?hd (cs := #[.string a1_0,.int .i64 a1_1,.string a1_2]) (t := 39) ?hr ?_;(case hd => rfl);(case hg => rfl);(case hr => first|(go_simp;done)|(go_simp;rfl));intro gb240 hg w24 hbox hb;have n0_ := Aside0.mk (qap (g := gb239) (o := .cells #[.string a0_0,.int .i64 a0_1,.string a0_2] 39 (0,0)) (by (with_reducible repeat (first|refine qah ?_ _|refine qai ?_|refine qag ?_ _));exact BK239.out) hb);have n1_ := Aside0.mk (qan (by repeat (first|(with_reducible first|exact HB.out|apply qab|apply qaa|apply qac|refine qae ?_ GE239.out)|exact HB.out)) hb);have n2_ := Aside0.mk (hbox);have n3_ := Aside0.mk ((by rw [hg];exact (qao (by repeat (first|(with_reducible first|exact HB.out|apply qab|apply qaa|apply qac|refine qae ?_ GE239.out)|exact HB.out))) : w.heap.size ≤ gb240));have n4_ := Aside0.mk ((by rw [hg];exact (qao (by repeat (first|(with_reducible first|exact HB.out|apply qab|apply qaa|apply qac|refine qae ?_ GE239.out)|exact HB.out))) : w.heap.size ≤ gb240));have n5_ := Aside0.mk ((by rw [hg];exact Nat.ne_of_lt (blk_lt (g := gb239) (o := .cells #[.string a0_0,.int .i64 a0_1,.string a0_2] 39 (0,0)) (by (with_reducible repeat (first|refine qah ?_ _|refine qai ?_|refine qag ?_ _));exact BK239.out)) : gb239 ≠ gb240));have n6_ := Aside0.mk ((by rw [hg];exact Nat.ne_of_gt (blk_lt (g := gb239) (o := .cells #[.string a0_0,.int .i64 a0_1,.string a0_2] 39 (0,0)) (by (with_reducible repeat (first|refine qah ?_ _|refine qai ?_|refine qag ?_ _));exact BK239.out)) : gb240 ≠ gb239));clear BK239;clear HB;have BK239 := n0_;have HB := n1_;have BK240 := n2_;have GW240 := n3_;have GE240 := n4_;have NB239_240 := n5_;have NB240_239 := n6_;clear n0_ n1_ n2_ n3_ n4_ n5_ n6_;clear hb hbox hg;have hnb25 := NB239_240.out;have hnc25 := NB240_239.out;have hcz26_0 : w24.cell? ⟨gb239,0,none⟩ = some (.string a0_0) := (qaf BK239.out 0).trans rfl;have hcz26_1 : w24.cell? ⟨gb239,1,none⟩ = some (.int .i64 a0_1) := (qaf BK239.out 1).trans rfl;have hcz26_2 : w24.cell? ⟨gb239,2,none⟩ = some (.string a0_2) := (qaf BK239.out 2).trans rfl;have hfz26_0 := qad BK239.out 0;have hfz26_1 := qad BK239.out 1;have hfz26_2 := qad BK239.out 2;have hcz27_0 : w24.cell? ⟨gb240,0,none⟩ = some (.string a1_0) := (qaf BK240.out 0).trans rfl;have hcz27_1 : w24.cell? ⟨gb240,1,none⟩ = some (.int .i64 a1_1) := (qaf BK240.out 1).trans rfl;have hcz27_2 : w24.cell? ⟨gb240,2,none⟩ = some (.string a1_2) := (qaf BK240.out 2).trans rfl;have hfz27_0 := qad BK240.out 0;have hfz27_1 := qad BK240.out 1;have hfz27_2 := qad BK240.out 2))
  go_ret
  exact ⟨by first|rfl|(simp [qak,qal]<;>rfl)|(simp [*,qak,qal]<;>rfl),by repeat (first|(with_reducible first|exact HB.out|apply qab|apply qaa|apply qac|refine qae ?_ GE239.out|refine qae ?_ GE240.out)|exact HB.out)⟩
end Go.Proofs.YtjbbgekkombpnaaGreatDoor.PA
