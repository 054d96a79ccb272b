
import Derived.Test.YtjbbgekkombpnaaGreatDoorPAx0
import Derived.Test.YtjbbgekkombpnaaGreatDoorPAx2
import Derived.Test.YtjbbgekkombpnaaGreatDoorPAx4
namespace Go.Proofs.YtjbbgekkombpnaaGreatDoor.PA
open Go.RowKit Go.Proofs.YtjbbgekkombpnaaGreatDoorW.PrintWords Go.Proofs.YtjbbgekkombpnaaGreatDoorW.PrintLast Go.Proofs.YtjbbgekkombpnaaGreatDoorW.PrintMore
attribute [local go_sem] max2_int min2_int max_two min_two max_three min_three max_four min_four
set_option maxHeartbeats 8000000
set_option maxRecDepth 100000
set_option linter.unusedVariables false
set_option linter.unusedSimpArgs false
def relation_Parse.j0 : Nat → ByteArray → ByteArray → Int → Bool → Option (ByteArray × Int × ByteArray × Int)
 | 0,_,_,_,_ => none
 | k + 1,x4,x10,x12,x51 => if x51 = true then (some ((⟨#[]⟩ : ByteArray),0,(⟨#[]⟩ : ByteArray),5)) else ((relation_plain.f k x10).bind fun t151 => (if t151 = true then (some (x4,x12,x10,0)) else (some ((⟨#[]⟩ : ByteArray),0,(⟨#[]⟩ : ByteArray),4))))
def relation_Parse.f (k : Nat) (a0 : ByteArray) : Option (ByteArray × Int × ByteArray × Int) := (strings_Cut.f a0 (⟨#[32]⟩ : ByteArray)).bind fun bt138 => ((relation_Name.f k bt138.1).bind fun t141 => (if t141 = true then (if bt138.2.2 = true then ((strings_CutPrefix.f bt138.2.1 (⟨#[40]⟩ : ByteArray)).bind fun bt142 => ((strings_CutSuffix.f bt142.1 (⟨#[41]⟩ : ByteArray)).bind fun bt144 => ((strings_Cut.f bt144.1 (⟨#[32]⟩ : ByteArray)).bind fun bt146 => ((relation_Op.f bt146.1).bind fun bt149 => (if bt142.2 = true then (if bt144.2 = true then (if bt146.2.2 = true then (relation_Parse.j0 k bt138.1 bt146.2.1 bt149.1 (!bt149.2)) else (relation_Parse.j0 k bt138.1 bt146.2.1 bt149.1 true)) else (relation_Parse.j0 k bt138.1 bt146.2.1 bt149.1 true)) else (relation_Parse.j0 k bt138.1 bt146.2.1 bt149.1 true)))))) else (some (bt138.1,0,(⟨#[]⟩ : ByteArray),0))) else (some ((⟨#[]⟩ : ByteArray),0,(⟨#[]⟩ : ByteArray),3))))
theorem relation_Parse.mono_l : ∀ k,(∀ y0 y1 y2 y3,LeO (relation_Parse.j0 k y0 y1 y2 y3) (relation_Parse.j0 (k + 1) y0 y1 y2 y3))
 | 0 => fun _ _ _ _ r h => by simp [relation_Parse.j0] at h
 | k + 1 => by
  have ih0 := relation_Parse.mono_l k
  ·intro y0 y1 y2 y3
   unfold relation_Parse.j0
   repeat' first
   | (with_reducible exact ih0 _ _ _ _)
   | (with_reducible exact relation_Name.mono _ _)
   | (with_reducible exact relation_plain.mono _ _)
   | (with_reducible exact LeO.refl _)
   | (with_reducible exact LeO.none _)
   | (with_reducible refine LeO.ite ?_ ?_)
   | (with_reducible refine LeO.bind ?_ (fun _ => ?_))
   | exact ih0 _ _ _ _
   | exact relation_Name.mono _ _
   | exact relation_plain.mono _ _
   | exact LeO.none _
   | refine LeO.ite ?_ ?_
   | refine LeO.bind ?_ (fun _ => ?_)
theorem relation_Parse.mono : ∀ a0 k,LeO (relation_Parse.f k a0) (relation_Parse.f (k + 1) a0) := by
 intro a0 k
 have ih0 := relation_Parse.mono_l k
 unfold relation_Parse.f
 repeat' first
   | (with_reducible exact ih0 _ _ _ _)
   | (with_reducible exact relation_Name.mono _ _)
   | (with_reducible exact relation_plain.mono _ _)
   | (with_reducible exact LeO.refl _)
   | (with_reducible exact LeO.none _)
   | (with_reducible refine LeO.ite ?_ ?_)
   | (with_reducible refine LeO.bind ?_ (fun _ => ?_))
   | exact ih0 _ _ _ _
   | exact relation_Name.mono _ _
   | exact relation_plain.mono _ _
   | exact LeO.none _
   | refine LeO.ite ?_ ?_
   | refine LeO.bind ?_ (fun _ => ?_)
theorem relation_Parse.calls (k : Nat) (a0 : ByteArray) (r1 : ByteArray) (r2 : Int) (r3 : ByteArray) (r4 : Int) (w : World) (hG : GL w) (h : relation_Parse.f k a0 = some (r1,r2,r3,r4)) :
  Calls Tryz.prog 33 #[.string a0] w fun e w' => e = .returned (.tuple #[.agg #[.string r1,.int .i64 r2,.string r3],.int .i64 r4]) ∧ Below w.heap.size w w' := by
 have hu39 := Tryz.underlying39
 have HB := Aside0.mk (Below.refl w.heap.size w)
 have H : ((strings_Cut.f a0 (⟨#[32]⟩ : ByteArray)).bind fun bt138 => ((relation_Name.f k bt138.1).bind fun t141 => (if t141 = true then (if bt138.2.2 = true then ((strings_CutPrefix.f bt138.2.1 (⟨#[40]⟩ : ByteArray)).bind fun bt142 => ((strings_CutSuffix.f bt142.1 (⟨#[41]⟩ : ByteArray)).bind fun bt144 => ((strings_Cut.f bt144.1 (⟨#[32]⟩ : ByteArray)).bind fun bt146 => ((relation_Op.f bt146.1).bind fun bt149 => (if bt142.2 = true then (if bt144.2 = true then (if bt146.2.2 = true then (relation_Parse.j0 k bt138.1 bt146.2.1 bt149.1 (!bt149.2)) else (relation_Parse.j0 k bt138.1 bt146.2.1 bt149.1 true)) else (relation_Parse.j0 k bt138.1 bt146.2.1 bt149.1 true)) else (relation_Parse.j0 k bt138.1 bt146.2.1 bt149.1 true)))))) else (some (bt138.1,0,(⟨#[]⟩ : ByteArray),0))) else (some ((⟨#[]⟩ : ByteArray),0,(⟨#[]⟩ : ByteArray),3))))) = some (r1,r2,r3,r4) := h
 clear h
 replace H := Option.bind_eq_some_iff.mp H
 obtain ⟨⟨t138,t139,t140⟩,A20,H⟩ := H
 replace H : ((relation_Name.f k t138).bind fun t141 => (if t141 = true then (if t140 = true then ((strings_CutPrefix.f t139 (⟨#[40]⟩ : ByteArray)).bind fun bt142 => ((strings_CutSuffix.f bt142.1 (⟨#[41]⟩ : ByteArray)).bind fun bt144 => ((strings_Cut.f bt144.1 (⟨#[32]⟩ : ByteArray)).bind fun bt146 => ((relation_Op.f bt146.1).bind fun bt149 => (if bt142.2 = true then (if bt144.2 = true then (if bt146.2.2 = true then (relation_Parse.j0 k t138 bt146.2.1 bt149.1 (!bt149.2)) else (relation_Parse.j0 k t138 bt146.2.1 bt149.1 true)) else (relation_Parse.j0 k t138 bt146.2.1 bt149.1 true)) else (relation_Parse.j0 k t138 bt146.2.1 bt149.1 true)))))) else (some (t138,0,(⟨#[]⟩ : ByteArray),0))) else (some ((⟨#[]⟩ : ByteArray),0,(⟨#[]⟩ : ByteArray),3)))) = some (r1,r2,r3,r4) := H
 have A2 := Aside0.mk A20
 clear A20
 replace H := Option.bind_eq_some_iff.mp H
 obtain ⟨t141,A30,H⟩ := H
 replace H : (if t141 = true then (if t140 = true then ((strings_CutPrefix.f t139 (⟨#[40]⟩ : ByteArray)).bind fun bt142 => ((strings_CutSuffix.f bt142.1 (⟨#[41]⟩ : ByteArray)).bind fun bt144 => ((strings_Cut.f bt144.1 (⟨#[32]⟩ : ByteArray)).bind fun bt146 => ((relation_Op.f bt146.1).bind fun bt149 => (if bt142.2 = true then (if bt144.2 = true then (if bt146.2.2 = true then (relation_Parse.j0 k t138 bt146.2.1 bt149.1 (!bt149.2)) else (relation_Parse.j0 k t138 bt146.2.1 bt149.1 true)) else (relation_Parse.j0 k t138 bt146.2.1 bt149.1 true)) else (relation_Parse.j0 k t138 bt146.2.1 bt149.1 true)))))) else (some (t138,0,(⟨#[]⟩ : ByteArray),0))) else (some ((⟨#[]⟩ : ByteArray),0,(⟨#[]⟩ : ByteArray),3))) = some (r1,r2,r3,r4) := H
 have A3 := Aside0.mk A30
 clear A30
 by_cases c4 : t141 = true
 ·subst c4
  have H1 : (if t140 = true then ((strings_CutPrefix.f t139 (⟨#[40]⟩ : ByteArray)).bind fun bt142 => ((strings_CutSuffix.f bt142.1 (⟨#[41]⟩ : ByteArray)).bind fun bt144 => ((strings_Cut.f bt144.1 (⟨#[32]⟩ : ByteArray)).bind fun bt146 => ((relation_Op.f bt146.1).bind fun bt149 => (if bt142.2 = true then (if bt144.2 = true then (if bt146.2.2 = true then (relation_Parse.j0 k t138 bt146.2.1 bt149.1 (!bt149.2)) else (relation_Parse.j0 k t138 bt146.2.1 bt149.1 true)) else (relation_Parse.j0 k t138 bt146.2.1 bt149.1 true)) else (relation_Parse.j0 k t138 bt146.2.1 bt149.1 true)))))) else (some (t138,0,(⟨#[]⟩ : ByteArray),0))) = some (r1,r2,r3,r4) := by rw [if_pos rfl] at H;exact H
  clear H
  have H := H1
  clear H1
  by_cases c5 : t140 = true
  ·subst c5
   have H1 : ((strings_CutPrefix.f t139 (⟨#[40]⟩ : ByteArray)).bind fun bt142 => ((strings_CutSuffix.f bt142.1 (⟨#[41]⟩ : ByteArray)).bind fun bt144 => ((strings_Cut.f bt144.1 (⟨#[32]⟩ : ByteArray)).bind fun bt146 => ((relation_Op.f bt146.1).bind fun bt149 => (if bt142.2 = true then (if bt144.2 = true then (if bt146.2.2 = true then (relation_Parse.j0 k t138 bt146.2.1 bt149.1 (!bt149.2)) else (relation_Parse.j0 k t138 bt146.2.1 bt149.1 true)) else (relation_Parse.j0 k t138 bt146.2.1 bt149.1 true)) else (relation_Parse.j0 k t138 bt146.2.1 bt149.1 true)))))) = some (r1,r2,r3,r4) := by rw [if_pos rfl] at H;exact H
   clear H
   have H := H1
   clear H1
   replace H := Option.bind_eq_some_iff.mp H
   obtain ⟨⟨t142,t143⟩,A60,H⟩ := H
   replace H : ((strings_CutSuffix.f t142 (⟨#[41]⟩ : ByteArray)).bind fun bt144 => ((strings_Cut.f bt144.1 (⟨#[32]⟩ : ByteArray)).bind fun bt146 => ((relation_Op.f bt146.1).bind fun bt149 => (if t143 = true then (if bt144.2 = true then (if bt146.2.2 = true then (relation_Parse.j0 k t138 bt146.2.1 bt149.1 (!bt149.2)) else (relation_Parse.j0 k t138 bt146.2.1 bt149.1 true)) else (relation_Parse.j0 k t138 bt146.2.1 bt149.1 true)) else (relation_Parse.j0 k t138 bt146.2.1 bt149.1 true))))) = some (r1,r2,r3,r4) := H
   have A6 := Aside0.mk A60
   clear A60
   replace H := Option.bind_eq_some_iff.mp H
   obtain ⟨⟨t144,t145⟩,A70,H⟩ := H
   replace H : ((strings_Cut.f t144 (⟨#[32]⟩ : ByteArray)).bind fun bt146 => ((relation_Op.f bt146.1).bind fun bt149 => (if t143 = true then (if t145 = true then (if bt146.2.2 = true then (relation_Parse.j0 k t138 bt146.2.1 bt149.1 (!bt149.2)) else (relation_Parse.j0 k t138 bt146.2.1 bt149.1 true)) else (relation_Parse.j0 k t138 bt146.2.1 bt149.1 true)) else (relation_Parse.j0 k t138 bt146.2.1 bt149.1 true)))) = some (r1,r2,r3,r4) := H
   have A7 := Aside0.mk A70
   clear A70
   replace H := Option.bind_eq_some_iff.mp H
   obtain ⟨⟨t146,t147,t148⟩,A80,H⟩ := H
   replace H : ((relation_Op.f t146).bind fun bt149 => (if t143 = true then (if t145 = true then (if t148 = true then (relation_Parse.j0 k t138 t147 bt149.1 (!bt149.2)) else (relation_Parse.j0 k t138 t147 bt149.1 true)) else (relation_Parse.j0 k t138 t147 bt149.1 true)) else (relation_Parse.j0 k t138 t147 bt149.1 true))) = some (r1,r2,r3,r4) := H
   have A8 := Aside0.mk A80
   clear A80
   replace H := Option.bind_eq_some_iff.mp H
   obtain ⟨⟨t149,t150⟩,A90,H⟩ := H
   replace H : (if t143 = true then (if t145 = true then (if t148 = true then (relation_Parse.j0 k t138 t147 t149 (!t150)) else (relation_Parse.j0 k t138 t147 t149 true)) else (relation_Parse.j0 k t138 t147 t149 true)) else (relation_Parse.j0 k t138 t147 t149 true)) = some (r1,r2,r3,r4) := H
   have A9 := Aside0.mk A90
   clear A90
   have HC10 := Aside0.mk H
   clear H
   go_enter Tryz.func33,Tryz.ntmps33
   go_upto_region 10 with (first|((with_reducible refine gate_dst (N := 2) rfl ?_);refine box_event ?hg (N := 2) ?hd (cs := #[.string (⟨#[]⟩ : ByteArray),.int .i64 0,.string (⟨#[]⟩ : ByteArray)]) (t := 39) ?hr ?_;(case hd => rfl);(case hg => rfl);(case hr => first|(go_simp;done)|(go_simp;rfl));intro gb137 hg w11 hbox hb;have n0_ := Aside0.mk (qan (by repeat (with_reducible first|exact HB.out|apply qab|apply qaa|apply qac)) hb);have n1_ := Aside0.mk (hbox);have n2_ := Aside0.mk ((by rw [hg];exact (qao (by repeat (with_reducible first|exact HB.out|apply qab|apply qaa|apply qac))) : w.heap.size ≤ gb137));have n3_ := Aside0.mk ((by rw [hg];exact (qao (by repeat (with_reducible first|exact HB.out|apply qab|apply qaa|apply qac))) : w.heap.size ≤ gb137));clear HB;have HB := n0_;have BK137 := n1_;have GW137 := n2_;have GE137 := n3_;clear n0_ n1_ n2_ n3_;clear hb hbox hg)|((with_reducible refine qam (f := 51) rfl ?_);refine goesL_ (some 16) rfl rfl Tryz.func51 (by kernel_rfl) rfl #[.string a0,.string (⟨#[32]⟩ : ByteArray)] rfl (by first|rfl|(simp only [List.map_toArray,List.map_cons,List.map_nil,List.length_drop,List.length_take];rfl)|simp only [List.map_toArray,List.map_cons,List.map_nil]) ?_;(with_reducible refine (strings_Cut.calls a0 (⟨#[32]⟩ : ByteArray) t138 t139 true _ (by first|exact hG|exact GL.below hG (by repeat (first|(with_reducible first|exact HB.out|apply qab|apply qaa|apply qac|refine qae ?_ GE137.out)|exact HB.out)))  A2.out).mono ?_);rintro e w' ⟨rfl,⟨nd,rfl⟩⟩;refine ⟨_,rfl,?_⟩)|((with_reducible refine qam (f := 57) rfl ?_);refine goesL_ (some 22) rfl rfl Tryz.func57 (by kernel_rfl) rfl #[.string t138] rfl (by first|rfl|(simp only [List.map_toArray,List.map_cons,List.map_nil,List.length_drop,List.length_take];rfl)|simp only [List.map_toArray,List.map_cons,List.map_nil]) ?_;(with_reducible refine (relation_Name.calls k t138 true _ (by first|exact hG|exact GL.below hG (by repeat (first|(with_reducible first|exact HB.out|apply qab|apply qaa|apply qac|refine qae ?_ GE137.out)|exact HB.out)))  A3.out).mono ?_);rintro e w12 ⟨rfl,hb⟩;refine ⟨_,rfl,?_⟩;have n0_ := Aside0.mk (qap (g := gb137) (o := .cells #[.string (⟨#[]⟩ : ByteArray),.int .i64 0,.string (⟨#[]⟩ : ByteArray)] 39 (0,0)) (by (with_reducible repeat (first|refine qah ?_ _|refine qai ?_|refine qag ?_ _));exact BK137.out) hb);have n1_ := Aside0.mk (qan (by repeat (first|(with_reducible first|exact HB.out|apply qab|apply qaa|apply qac|refine qae ?_ GE137.out)|exact HB.out)) hb);clear BK137;clear HB;have BK137 := n0_;have HB := n1_;clear n0_ n1_;(try clear hb);(try clear hb2);(try clear hk);(try clear hi))|((with_reducible refine qam (f := 58) rfl ?_);refine goesL_ (some 32) rfl rfl Tryz.func58 (by kernel_rfl) rfl #[.string t139,.string (⟨#[40]⟩ : ByteArray)] rfl (by first|rfl|(simp only [List.map_toArray,List.map_cons,List.map_nil,List.length_drop,List.length_take];rfl)|simp only [List.map_toArray,List.map_cons,List.map_nil]) ?_;(with_reducible refine (strings_CutPrefix.calls t139 (⟨#[40]⟩ : ByteArray) t142 t143 _ (by first|exact hG|exact GL.below hG (by repeat (first|(with_reducible first|exact HB.out|apply qab|apply qaa|apply qac|refine qae ?_ GE137.out)|exact HB.out)))  A6.out).mono ?_);rintro e w' ⟨rfl,⟨nd,rfl⟩⟩;refine ⟨_,rfl,?_⟩)|((with_reducible refine qam (f := 59) rfl ?_);refine goesL_ (some 37) rfl rfl Tryz.func59 (by kernel_rfl) rfl #[.string t142,.string (⟨#[41]⟩ : ByteArray)] rfl (by first|rfl|(simp only [List.map_toArray,List.map_cons,List.map_nil,List.length_drop,List.length_take];rfl)|simp only [List.map_toArray,List.map_cons,List.map_nil]) ?_;(with_reducible refine (strings_CutSuffix.calls t142 (⟨#[41]⟩ : ByteArray) t144 t145 _ (by first|exact hG|exact GL.below hG (by repeat (first|(with_reducible first|exact HB.out|apply qab|apply qaa|apply qac|refine qae ?_ GE137.out)|exact HB.out)))  A7.out).mono ?_);rintro e w' ⟨rfl,⟨nd,rfl⟩⟩;refine ⟨_,rfl,?_⟩)|((with_reducible refine qam (f := 51) rfl ?_);refine goesL_ (some 42) rfl rfl Tryz.func51 (by kernel_rfl) rfl #[.string t144,.string (⟨#[32]⟩ : ByteArray)] rfl (by first|rfl|(simp only [List.map_toArray,List.map_cons,List.map_nil,List.length_drop,List.length_take];rfl)|simp only [List.map_toArray,List.map_cons,List.map_nil]) ?_;(with_reducible refine (strings_Cut.calls t144 (⟨#[32]⟩ : ByteArray) t146 t147 t148 _ (by first|exact hG|exact GL.below hG (by repeat (first|(with_reducible first|exact HB.out|apply qab|apply qaa|apply qac|refine qae ?_ GE137.out)|exact HB.out)))  A8.out).mono ?_);rintro e w' ⟨rfl,⟨nd,rfl⟩⟩;refine ⟨_,rfl,?_⟩)|((with_reducible refine qam (f := 60) rfl ?_);refine goesL_ (some 48) rfl rfl Tryz.func60 (by kernel_rfl) rfl #[.string t146] rfl (by first|rfl|(simp only [List.map_toArray,List.map_cons,List.map_nil,List.length_drop,List.length_take];rfl)|simp only [List.map_toArray,List.map_cons,List.map_nil]) ?_;(with_reducible refine (relation_Op.calls t146 t149 t150 _ (by first|exact hG|exact GL.below hG (by repeat (first|(with_reducible first|exact HB.out|apply qab|apply qaa|apply qac|refine qae ?_ GE137.out)|exact HB.out)))  A9.out).mono ?_);rintro e w13 ⟨rfl,hb⟩;refine ⟨_,rfl,?_⟩;have n0_ := Aside0.mk (qap (g := gb137) (o := .cells #[.string (⟨#[]⟩ : ByteArray),.int .i64 0,.string (⟨#[]⟩ : ByteArray)] 39 (0,0)) (by (with_reducible repeat (first|refine qah ?_ _|refine qai ?_|refine qag ?_ _));exact BK137.out) hb);have n1_ := Aside0.mk (qan (by repeat (first|(with_reducible first|exact HB.out|apply qab|apply qaa|apply qac|refine qae ?_ GE137.out)|exact HB.out)) hb);clear BK137;clear HB;have BK137 := n0_;have HB := n1_;clear n0_ n1_;(try clear hb);(try clear hb2);(try clear hk);(try clear hi)))
   (try simp only [Act.put,List.setIfInBounds_toArray,List.set_cons_zero,List.set_cons_succ])
   go_cut [51] (fun v51 wc => ∃ (kq : Nat) (x51_9 : Bool),v51 = .bool x51_9 ∧ Aside0 (relation_Parse.j0 kq t138 t147 t149 x51_9 = some (r1,r2,r3,r4)) ∧ Aside0 (kq ≤ k) ∧ Aside0 (wc.heap[gb137]? = some (.cells #[.string (⟨#[]⟩ : ByteArray),.int .i64 0,.string (⟨#[]⟩ : ByteArray)] 39 (0,0))) ∧ Aside0 (Below w.heap.size w wc))
   case first =>
    have H := HC10.out
    clear HC10
    by_cases c14 : t143 = true
    ·subst c14
     have H1 : (if t145 = true then (if t148 = true then (relation_Parse.j0 k t138 t147 t149 (!t150)) else (relation_Parse.j0 k t138 t147 t149 true)) else (relation_Parse.j0 k t138 t147 t149 true)) = some (r1,r2,r3,r4) := by rw [if_pos rfl] at H;exact H
     clear H
     have H := H1
     clear H1
     by_cases c15 : t145 = true
     ·subst c15
      have H1 : (if t148 = true then (relation_Parse.j0 k t138 t147 t149 (!t150)) else (relation_Parse.j0 k t138 t147 t149 true)) = some (r1,r2,r3,r4) := by rw [if_pos rfl] at H;exact H
      clear H
      have H := H1
      clear H1
      by_cases c16 : t148 = true
      ·subst c16
       have H1 : (relation_Parse.j0 k t138 t147 t149 (!t150)) = some (r1,r2,r3,r4) := by rw [if_pos rfl] at H;exact H
       clear H
       have H := H1
       clear H1
       have H' := Aside0.mk H
       clear H
       go_wp2
       go_meet
       case rel => exact ⟨_,(!t150),(by first|rfl|(simp;done)|(simp [*];done)|(simp [qaj];done)),H',⟨by first|omega|exact Nat.le_refl _⟩,⟨by (with_reducible repeat (first|refine qah ?_ _|refine qai ?_|refine qag ?_ _));exact BK137.out⟩,⟨by repeat (first|(with_reducible first|exact HB.out|apply qab|apply qaa|apply qac|refine qae ?_ GE137.out)|exact HB.out)⟩⟩
      ·replace c16 := Bool.eq_false_iff.mpr c16
       subst c16
       have H1 : (relation_Parse.j0 k t138 t147 t149 true) = some (r1,r2,r3,r4) := by rw [if_neg (show ¬ (false = true) by decide)] at H;exact H
       clear H
       have H := H1
       clear H1
       have H' := Aside0.mk H
       clear H
       go_wp2
       go_meet
       case rel => exact ⟨_,(true),(by first|rfl|(simp;done)|(simp [*];done)|(simp [qaj];done)),H',⟨by first|omega|exact Nat.le_refl _⟩,⟨by (with_reducible repeat (first|refine qah ?_ _|refine qai ?_|refine qag ?_ _));exact BK137.out⟩,⟨by repeat (first|(with_reducible first|exact HB.out|apply qab|apply qaa|apply qac|refine qae ?_ GE137.out)|exact HB.out)⟩⟩
     ·replace c15 := Bool.eq_false_iff.mpr c15
      subst c15
      have H1 : (relation_Parse.j0 k t138 t147 t149 true) = some (r1,r2,r3,r4) := by rw [if_neg (show ¬ (false = true) by decide)] at H;exact H
      clear H
      have H := H1
      clear H1
      have H' := Aside0.mk H
      clear H
      go_wp2
      go_meet
      case rel => exact ⟨_,(true),(by first|rfl|(simp;done)|(simp [*];done)|(simp [qaj];done)),H',⟨by first|omega|exact Nat.le_refl _⟩,⟨by (with_reducible repeat (first|refine qah ?_ _|refine qai ?_|refine qag ?_ _));exact BK137.out⟩,⟨by repeat (first|(with_reducible first|exact HB.out|apply qab|apply qaa|apply qac|refine qae ?_ GE137.out)|exact HB.out)⟩⟩
    ·replace c14 := Bool.eq_false_iff.mpr c14
     subst c14
     have H1 : (relation_Parse.j0 k t138 t147 t149 true) = some (r1,r2,r3,r4) := by rw [if_neg (show ¬ (false = true) by decide)] at H;exact H
     clear H
     have H := H1
     clear H1
     have H' := Aside0.mk H
     clear H
     go_wp2
     go_meet
     case rel => exact ⟨_,(true),(by first|rfl|(simp;done)|(simp [*];done)|(simp [qaj];done)),H',⟨by first|omega|exact Nat.le_refl _⟩,⟨by (with_reducible repeat (first|refine qah ?_ _|refine qai ?_|refine qag ?_ _));exact BK137.out⟩,⟨by repeat (first|(with_reducible first|exact HB.out|apply qab|apply qaa|apply qac|refine qae ?_ GE137.out)|exact HB.out)⟩⟩
   case rest =>
    clear HC10
    try clear c1
    try clear p2
    try clear c3
    try clear c4
    try clear c5
    try clear c6
    try clear c14
    try clear c15
    try clear c16
    obtain ⟨kq,x51_9,rfl,HA,HJ9,BK137,HB⟩ := hcut
    cases kq with
    | zero => exact absurd HA.out (by simp [relation_Parse.j0])
    | succ kj9 =>
     have H := HA.out
     clear HA
     simp only [relation_Parse.j0] at H
     by_cases c17 : x51_9 = true
     ·subst c17
      have H1 : (some ((⟨#[]⟩ : ByteArray),0,(⟨#[]⟩ : ByteArray),5)) = some (r1,r2,r3,r4) := by rw [if_pos rfl] at H;exact H
      clear H
      have H := H1
      clear H1
      simp only [Option.some.injEq,Prod.mk.injEq] at H
      obtain ⟨rfl,rfl,rfl,rfl⟩ := H
      have hcz18_0 : wc.cell? ⟨gb137,0,none⟩ = some (.string (⟨#[]⟩ : ByteArray)) := (qaf BK137.out 0).trans rfl
      have hcz18_1 : wc.cell? ⟨gb137,1,none⟩ = some (.int .i64 0) := (qaf BK137.out 1).trans rfl
      have hcz18_2 : wc.cell? ⟨gb137,2,none⟩ = some (.string (⟨#[]⟩ : ByteArray)) := (qaf BK137.out 2).trans rfl
      have hfz18_0 := qad BK137.out 0
      have hfz18_1 := qad BK137.out 1
      have hfz18_2 := qad BK137.out 2
      go_wp2
      refine bodyPost_ret (results_ct rfl _ _ gb137 39 #[.string (⟨#[]⟩ : ByteArray),.int .i64 0,.string (⟨#[]⟩ : ByteArray)] (0,0) _ rfl (by (with_reducible repeat (first|refine qah ?_ _|refine qai ?_|refine qag ?_ _));refine blk_put (cs := #[.string (⟨#[]⟩ : ByteArray),.int .i64 0,.string (⟨#[]⟩ : ByteArray)]) ?_ 2 _ rfl;(with_reducible repeat (first|refine qah ?_ _|refine qai ?_|refine qag ?_ _));refine blk_put (cs := #[.string (⟨#[]⟩ : ByteArray),.int .i64 0,.string (⟨#[]⟩ : ByteArray)]) ?_ 1 _ rfl;(with_reducible repeat (first|refine qah ?_ _|refine qai ?_|refine qag ?_ _));refine blk_put (cs := #[.string (⟨#[]⟩ : ByteArray),.int .i64 0,.string (⟨#[]⟩ : ByteArray)]) ?_ 0 _ rfl;(with_reducible repeat (first|refine qah ?_ _|refine qai ?_|refine qag ?_ _));exact BK137.out) Tryz.underlying39 rfl (by kernel_rfl)) rfl ?_
      exact ⟨by first|rfl|(simp [qak,qal]<;>rfl)|(simp [*,qak,qal]<;>rfl),by repeat (first|(with_reducible first|exact HB.out|apply qab|apply qaa|apply qac|refine qae ?_ GE137.out)|exact HB.out)⟩
     ·replace c17 := Bool.eq_false_iff.mpr c17
      subst c17
      have H1 : ((relation_plain.f kj9 t147).bind fun t151 => (if t151 = true then (some (t138,t149,t147,0)) else (some ((⟨#[]⟩ : ByteArray),0,(⟨#[]⟩ : ByteArray),4)))) = some (r1,r2,r3,r4) := by rw [if_neg (show ¬ (false = true) by decide)] at H;exact H
      clear H
      have H := H1
      clear H1
      replace H := Option.bind_eq_some_iff.mp H
      obtain ⟨t151,A190,H⟩ := H
      replace H : (if t151 = true then (some (t138,t149,t147,0)) else (some ((⟨#[]⟩ : ByteArray),0,(⟨#[]⟩ : ByteArray),4))) = some (r1,r2,r3,r4) := H
      have A19 := Aside0.mk A190
      clear A190
      by_cases c20 : t151 = true
      ·subst c20
       have H1 : (some (t138,t149,t147,0)) = some (r1,r2,r3,r4) := by rw [if_pos rfl] at H;exact H
       clear H
       have H := H1
       clear H1
       simp only [Option.some.injEq,Prod.mk.injEq] at H
       obtain ⟨rfl,rfl,rfl,rfl⟩ := H
       go_wp2_with (first|((with_reducible refine qam (f := 61) rfl ?_);refine goesL_ (some 69) rfl rfl Tryz.func61 (by kernel_rfl) rfl #[.string t147] rfl (by first|rfl|(simp only [List.map_toArray,List.map_cons,List.map_nil,List.length_drop,List.length_take];rfl)|simp only [List.map_toArray,List.map_cons,List.map_nil]) ?_;(with_reducible refine (relation_plain.calls kj9 t147 true _ (by first|exact hG|exact GL.below hG (by repeat (first|(with_reducible first|exact HB.out|apply qab|apply qaa|apply qac|refine qae ?_ GE137.out)|exact HB.out)))  A19.out).mono ?_);rintro e w21 ⟨rfl,hb⟩;refine ⟨_,rfl,?_⟩;have n0_ := Aside0.mk (qap (g := gb137) (o := .cells #[.string (⟨#[]⟩ : ByteArray),.int .i64 0,.string (⟨#[]⟩ : ByteArray)] 39 (0,0)) (by (with_reducible repeat (first|refine qah ?_ _|refine qai ?_|refine qag ?_ _));exact BK137.out) hb);have n1_ := Aside0.mk (qan (by repeat (first|(with_reducible first|exact HB.out|apply qab|apply qaa|apply qac|refine qae ?_ GE137.out)|exact HB.out)) hb);clear BK137;clear HB;have BK137 := n0_;have HB := n1_;clear n0_ n1_;(try clear hb);(try clear hb2);(try clear hk);(try clear hi);have hcz22_0 : w21.cell? ⟨gb137,0,none⟩ = some (.string (⟨#[]⟩ : ByteArray)) := (qaf BK137.out 0).trans rfl;have hcz22_1 : w21.cell? ⟨gb137,1,none⟩ = some (.int .i64 0) := (qaf BK137.out 1).trans rfl;have hcz22_2 : w21.cell? ⟨gb137,2,none⟩ = some (.string (⟨#[]⟩ : ByteArray)) := (qaf BK137.out 2).trans rfl;have hfz22_0 := qad BK137.out 0;have hfz22_1 := qad BK137.out 1;have hfz22_2 := qad BK137.out 2))
       refine bodyPost_ret (results_ct rfl _ _ gb137 39 #[.string t138,.int .i64 t149,.string t147] (0,0) _ rfl (by (with_reducible repeat (first|refine qah ?_ _|refine qai ?_|refine qag ?_ _));refine blk_put (cs := #[.string t138,.int .i64 t149,.string (⟨#[]⟩ : ByteArray)]) ?_ 2 _ rfl;(with_reducible repeat (first|refine qah ?_ _|refine qai ?_|refine qag ?_ _));refine blk_put (cs := #[.string t138,.int .i64 0,.string (⟨#[]⟩ : ByteArray)]) ?_ 1 _ rfl;(with_reducible repeat (first|refine qah ?_ _|refine qai ?_|refine qag ?_ _));refine blk_put (cs := #[.string (⟨#[]⟩ : ByteArray),.int .i64 0,.string (⟨#[]⟩ : ByteArray)]) ?_ 0 _ rfl;(with_reducible repeat (first|refine qah ?_ _|refine qai ?_|refine qag ?_ _));exact BK137.out) Tryz.underlying39 rfl (by kernel_rfl)) rfl ?_
       exact ⟨by first|rfl|(simp [qak,qal]<;>rfl)|(simp [*,qak,qal]<;>rfl),by repeat (first|(with_reducible first|exact HB.out|apply qab|apply qaa|apply qac|refine qae ?_ GE137.out)|exact HB.out)⟩
      ·replace c20 := Bool.eq_false_iff.mpr c20
       subst c20
       have H1 : (some ((⟨#[]⟩ : ByteArray),0,(⟨#[]⟩ : ByteArray),4)) = some (r1,r2,r3,r4) := by rw [if_neg (show ¬ (false = true) by decide)] at H;exact H
       clear H
       have H := H1
       clear H1
       simp only [Option.some.injEq,Prod.mk.injEq] at H
       obtain ⟨rfl,rfl,rfl,rfl⟩ := H
       go_wp2_with (first|((with_reducible refine qam (f := 61) rfl ?_);refine goesL_ (some 69) rfl rfl Tryz.func61 (by kernel_rfl) rfl #[.string t147] rfl (by first|rfl|(simp only [List.map_toArray,List.map_cons,List.map_nil,List.length_drop,List.length_take];rfl)|simp only [List.map_toArray,List.map_cons,List.map_nil]) ?_;(with_reducible refine (relation_plain.calls kj9 t147 false _ (by first|exact hG|exact GL.below hG (by repeat (first|(with_reducible first|exact HB.out|apply qab|apply qaa|apply qac|refine qae ?_ GE137.out)|exact HB.out)))  A19.out).mono ?_);rintro e w23 ⟨rfl,hb⟩;refine ⟨_,rfl,?_⟩;have n0_ := Aside0.mk (qap (g := gb137) (o := .cells #[.string (⟨#[]⟩ : ByteArray),.int .i64 0,.string (⟨#[]⟩ : ByteArray)] 39 (0,0)) (by (with_reducible repeat (first|refine qah ?_ _|refine qai ?_|refine qag ?_ _));exact BK137.out) hb);have n1_ := Aside0.mk (qan (by repeat (first|(with_reducible first|exact HB.out|apply qab|apply qaa|apply qac|refine qae ?_ GE137.out)|exact HB.out)) hb);clear BK137;clear HB;have BK137 := n0_;have HB := n1_;clear n0_ n1_;(try clear hb);(try clear hb2);(try clear hk);(try clear hi);have hcz24_0 : w23.cell? ⟨gb137,0,none⟩ = some (.string (⟨#[]⟩ : ByteArray)) := (qaf BK137.out 0).trans rfl;have hcz24_1 : w23.cell? ⟨gb137,1,none⟩ = some (.int .i64 0) := (qaf BK137.out 1).trans rfl;have hcz24_2 : w23.cell? ⟨gb137,2,none⟩ = some (.string (⟨#[]⟩ : ByteArray)) := (qaf BK137.out 2).trans rfl;have hfz24_0 := qad BK137.out 0;have hfz24_1 := qad BK137.out 1;have hfz24_2 := qad BK137.out 2))
       refine bodyPost_ret (results_ct rfl _ _ gb137 39 #[.string (⟨#[]⟩ : ByteArray),.int .i64 0,.string (⟨#[]⟩ : ByteArray)] (0,0) _ rfl (by (with_reducible repeat (first|refine qah ?_ _|refine qai ?_|refine qag ?_ _));refine blk_put (cs := #[.string (⟨#[]⟩ : ByteArray),.int .i64 0,.string (⟨#[]⟩ : ByteArray)]) ?_ 2 _ rfl;(with_reducible repeat (first|refine qah ?_ _|refine qai ?_|refine qag ?_ _));refine blk_put (cs := #[.string (⟨#[]⟩ : ByteArray),.int .i64 0,.string (⟨#[]⟩ : ByteArray)]) ?_ 1 _ rfl;(with_reducible repeat (first|refine qah ?_ _|refine qai ?_|refine qag ?_ _));refine blk_put (cs := #[.string (⟨#[]⟩ : ByteArray),.int .i64 0,.string (⟨#[]⟩ : ByteArray)]) ?_ 0 _ rfl;(with_reducible repeat (first|refine qah ?_ _|refine qai ?_|refine qag ?_ _));exact BK137.out) Tryz.underlying39 rfl (by kernel_rfl)) rfl ?_
       exact ⟨by first|rfl|(simp [qak,qal]<;>rfl)|(simp [*,qak,qal]<;>rfl),by repeat (first|(with_reducible first|exact HB.out|apply qab|apply qaa|apply qac|refine qae ?_ GE137.out)|exact HB.out)⟩
  ·replace c5 := Bool.eq_false_iff.mpr c5
   subst c5
   have H1 : (some (t138,0,(⟨#[]⟩ : ByteArray),0)) = some (r1,r2,r3,r4) := by rw [if_neg (show ¬ (false = true) by decide)] at H;exact H
   clear H
   have H := H1
   clear H1
   simp only [Option.some.injEq,Prod.mk.injEq] at H
   obtain ⟨rfl,rfl,rfl,rfl⟩ := H
   go_enter Tryz.func33,Tryz.ntmps33
   go_wp2_with (first|((with_reducible refine gate_dst (N := 2) rfl ?_);refine box_event ?hg (N := 2) ?hd (cs := #[.string (⟨#[]⟩ : ByteArray),.int .i64 0,.string (⟨#[]⟩ : ByteArray)]) (t := 39) ?hr ?_;(case hd => rfl);(case hg => rfl);(case hr => first|(go_simp;done)|(go_simp;rfl));intro gb137 hg w25 hbox hb;have n0_ := Aside0.mk (qan (by repeat (with_reducible first|exact HB.out|apply qab|apply qaa|apply qac)) hb);have n1_ := Aside0.mk (hbox);have n2_ := Aside0.mk ((by rw [hg];exact (qao (by repeat (with_reducible first|exact HB.out|apply qab|apply qaa|apply qac))) : w.heap.size ≤ gb137));have n3_ := Aside0.mk ((by rw [hg];exact (qao (by repeat (with_reducible first|exact HB.out|apply qab|apply qaa|apply qac))) : w.heap.size ≤ gb137));clear HB;have HB := n0_;have BK137 := n1_;have GW137 := n2_;have GE137 := n3_;clear n0_ n1_ n2_ n3_;clear hb hbox hg)|((with_reducible refine qam (f := 51) rfl ?_);refine goesL_ (some 16) rfl rfl Tryz.func51 (by kernel_rfl) rfl #[.string a0,.string (⟨#[32]⟩ : ByteArray)] rfl (by first|rfl|(simp only [List.map_toArray,List.map_cons,List.map_nil,List.length_drop,List.length_take];rfl)|simp only [List.map_toArray,List.map_cons,List.map_nil]) ?_;(with_reducible refine (strings_Cut.calls a0 (⟨#[32]⟩ : ByteArray) t138 t139 false _ (by first|exact hG|exact GL.below hG (by repeat (first|(with_reducible first|exact HB.out|apply qab|apply qaa|apply qac|refine qae ?_ GE137.out)|exact HB.out)))  A2.out).mono ?_);rintro e w' ⟨rfl,⟨nd,rfl⟩⟩;refine ⟨_,rfl,?_⟩;(try (rw [drewN_self w25];generalize hq_ : World.drewN w25 _ = w25;have n0_ : Aside0 (w25.heap[gb137]? = some (.cells #[.string (⟨#[]⟩ : ByteArray),.int .i64 0,.string (⟨#[]⟩ : ByteArray)] 39 (0,0))) := ⟨by rw [← hq_];exact (by (with_reducible repeat (first|refine qah ?_ _|refine qai ?_|refine qag ?_ _));exact BK137.out)⟩;have n1_ : Aside0 (Below w.heap.size w w25) := ⟨by rw [← hq_];exact (by repeat (first|(with_reducible first|exact HB.out|apply qab|apply qaa|apply qac|refine qae ?_ GE137.out)|exact HB.out))⟩;clear BK137 HB hq_;have BK137 := n0_;have HB := n1_;clear n0_ n1_)))|((with_reducible refine qam (f := 57) rfl ?_);refine goesL_ (some 22) rfl rfl Tryz.func57 (by kernel_rfl) rfl #[.string t138] rfl (by first|rfl|(simp only [List.map_toArray,List.map_cons,List.map_nil,List.length_drop,List.length_take];rfl)|simp only [List.map_toArray,List.map_cons,List.map_nil]) ?_;(with_reducible refine (relation_Name.calls k t138 true _ (by first|exact hG|exact GL.below hG (by repeat (first|(with_reducible first|exact HB.out|apply qab|apply qaa|apply qac|refine qae ?_ GE137.out)|exact HB.out)))  A3.out).mono ?_);rintro e w26 ⟨rfl,hb⟩;refine ⟨_,rfl,?_⟩;have n0_ := Aside0.mk (qap (g := gb137) (o := .cells #[.string (⟨#[]⟩ : ByteArray),.int .i64 0,.string (⟨#[]⟩ : ByteArray)] 39 (0,0)) (by (with_reducible repeat (first|refine qah ?_ _|refine qai ?_|refine qag ?_ _));exact BK137.out) hb);have n1_ := Aside0.mk (qan (by repeat (first|(with_reducible first|exact HB.out|apply qab|apply qaa|apply qac|refine qae ?_ GE137.out)|exact HB.out)) hb);clear BK137;clear HB;have BK137 := n0_;have HB := n1_;clear n0_ n1_;(try clear hb);(try clear hb2);(try clear hk);(try clear hi);have hcz27_0 : w26.cell? ⟨gb137,0,none⟩ = some (.string (⟨#[]⟩ : ByteArray)) := (qaf BK137.out 0).trans rfl;have hcz27_1 : w26.cell? ⟨gb137,1,none⟩ = some (.int .i64 0) := (qaf BK137.out 1).trans rfl;have hcz27_2 : w26.cell? ⟨gb137,2,none⟩ = some (.string (⟨#[]⟩ : ByteArray)) := (qaf BK137.out 2).trans rfl;have hfz27_0 := qad BK137.out 0;have hfz27_1 := qad BK137.out 1;have hfz27_2 := qad BK137.out 2))
   refine bodyPost_ret (results_ct rfl _ _ gb137 39 #[.string t138,.int .i64 0,.string (⟨#[]⟩ : ByteArray)] (0,0) _ rfl (by (with_reducible repeat (first|refine qah ?_ _|refine qai ?_|refine qag ?_ _));refine blk_put (cs := #[.string t138,.int .i64 0,.string (⟨#[]⟩ : ByteArray)]) ?_ 2 _ rfl;(with_reducible repeat (first|refine qah ?_ _|refine qai ?_|refine qag ?_ _));refine blk_put (cs := #[.string t138,.int .i64 0,.string (⟨#[]⟩ : ByteArray)]) ?_ 1 _ rfl;(with_reducible repeat (first|refine qah ?_ _|refine qai ?_|refine qag ?_ _));refine blk_put (cs := #[.string (⟨#[]⟩ : ByteArray),.int .i64 0,.string (⟨#[]⟩ : ByteArray)]) ?_ 0 _ rfl;(with_reducible repeat (first|refine qah ?_ _|refine qai ?_|refine qag ?_ _));exact BK137.out) Tryz.underlying39 rfl (by kernel_rfl)) rfl ?_
   exact ⟨by first|rfl|(simp [qak,qal]<;>rfl)|(simp [*,qak,qal]<;>rfl),by repeat (first|(with_reducible first|exact HB.out|apply qab|apply qaa|apply qac|refine qae ?_ GE137.out)|exact HB.out)⟩
 ·replace c4 := Bool.eq_false_iff.mpr c4
  subst c4
  have H1 : (some ((⟨#[]⟩ : ByteArray),0,(⟨#[]⟩ : ByteArray),3)) = some (r1,r2,r3,r4) := by rw [if_neg (show ¬ (false = true) by decide)] at H;exact H
  clear H
  have H := H1
  clear H1
  simp only [Option.some.injEq,Prod.mk.injEq] at H
  obtain ⟨rfl,rfl,rfl,rfl⟩ := H
  go_enter Tryz.func33,Tryz.ntmps33
  go_wp2_with (first|((with_reducible refine gate_dst (N := 2) rfl ?_);refine box_event ?hg (N := 2) ?hd (cs := #[.string (⟨#[]⟩ : ByteArray),.int .i64 0,.string (⟨#[]⟩ : ByteArray)]) (t := 39) ?hr ?_;(case hd => rfl);(case hg => rfl);(case hr => first|(go_simp;done)|(go_simp;rfl));intro gb137 hg w28 hbox hb;have n0_ := Aside0.mk (qan (by repeat (with_reducible first|exact HB.out|apply qab|apply qaa|apply qac)) hb);have n1_ := Aside0.mk (hbox);have n2_ := Aside0.mk ((by rw [hg];exact (qao (by repeat (with_reducible first|exact HB.out|apply qab|apply qaa|apply qac))) : w.heap.size ≤ gb137));have n3_ := Aside0.mk ((by rw [hg];exact (qao (by repeat (with_reducible first|exact HB.out|apply qab|apply qaa|apply qac))) : w.heap.size ≤ gb137));clear HB;have HB := n0_;have BK137 := n1_;have GW137 := n2_;have GE137 := n3_;clear n0_ n1_ n2_ n3_;clear hb hbox hg)|((with_reducible refine qam (f := 51) rfl ?_);refine goesL_ (some 16) rfl rfl Tryz.func51 (by kernel_rfl) rfl #[.string a0,.string (⟨#[32]⟩ : ByteArray)] rfl (by first|rfl|(simp only [List.map_toArray,List.map_cons,List.map_nil,List.length_drop,List.length_take];rfl)|simp only [List.map_toArray,List.map_cons,List.map_nil]) ?_;(with_reducible refine (strings_Cut.calls a0 (⟨#[32]⟩ : ByteArray) t138 t139 t140 _ (by first|exact hG|exact GL.below hG (by repeat (first|(with_reducible first|exact HB.out|apply qab|apply qaa|apply qac|refine qae ?_ GE137.out)|exact HB.out)))  A2.out).mono ?_);rintro e w' ⟨rfl,⟨nd,rfl⟩⟩;refine ⟨_,rfl,?_⟩;(try (rw [drewN_self w28];generalize hq_ : World.drewN w28 _ = w28;have n0_ : Aside0 (w28.heap[gb137]? = some (.cells #[.string (⟨#[]⟩ : ByteArray),.int .i64 0,.string (⟨#[]⟩ : ByteArray)] 39 (0,0))) := ⟨by rw [← hq_];exact (by (with_reducible repeat (first|refine qah ?_ _|refine qai ?_|refine qag ?_ _));exact BK137.out)⟩;have n1_ : Aside0 (Below w.heap.size w w28) := ⟨by rw [← hq_];exact (by repeat (first|(with_reducible first|exact HB.out|apply qab|apply qaa|apply qac|refine qae ?_ GE137.out)|exact HB.out))⟩;clear BK137 HB hq_;have BK137 := n0_;have HB := n1_;clear n0_ n1_)))|((with_reducible refine qam (f := 57) rfl ?_);refine goesL_ (some 22) rfl rfl Tryz.func57 (by kernel_rfl) rfl #[.string t138] rfl (by first|rfl|(simp only [List.map_toArray,List.map_cons,List.map_nil,List.length_drop,List.length_take];rfl)|simp only [List.map_toArray,List.map_cons,List.map_nil]) ?_;(with_reducible refine (relation_Name.calls k t138 false _ (by first|exact hG|exact GL.below hG (by repeat (first|(with_reducible first|exact HB.out|apply qab|apply qaa|apply qac|refine qae ?_ GE137.out)|exact HB.out)))  A3.out).mono ?_);rintro e w29 ⟨rfl,hb⟩;refine ⟨_,rfl,?_⟩;have n0_ := Aside0.mk (qap (g := gb137) (o := .cells #[.string (⟨#[]⟩ : ByteArray),.int .i64 0,.string (⟨#[]⟩ : ByteArray)] 39 (0,0)) (by (with_reducible repeat (first|refine qah ?_ _|refine qai ?_|refine qag ?_ _));exact BK137.out) hb);have n1_ := Aside0.mk (qan (by repeat (first|(with_reducible first|exact HB.out|apply qab|apply qaa|apply qac|refine qae ?_ GE137.out)|exact HB.out)) hb);clear BK137;clear HB;have BK137 := n0_;have HB := n1_;clear n0_ n1_;(try clear hb);(try clear hb2);(try clear hk);(try clear hi);have hcz30_0 : w29.cell? ⟨gb137,0,none⟩ = some (.string (⟨#[]⟩ : ByteArray)) := (qaf BK137.out 0).trans rfl;have hcz30_1 : w29.cell? ⟨gb137,1,none⟩ = some (.int .i64 0) := (qaf BK137.out 1).trans rfl;have hcz30_2 : w29.cell? ⟨gb137,2,none⟩ = some (.string (⟨#[]⟩ : ByteArray)) := (qaf BK137.out 2).trans rfl;have hfz30_0 := qad BK137.out 0;have hfz30_1 := qad BK137.out 1;have hfz30_2 := qad BK137.out 2))
  refine bodyPost_ret (results_ct rfl _ _ gb137 39 #[.string (⟨#[]⟩ : ByteArray),.int .i64 0,.string (⟨#[]⟩ : ByteArray)] (0,0) _ rfl (by (with_reducible repeat (first|refine qah ?_ _|refine qai ?_|refine qag ?_ _));refine blk_put (cs := #[.string (⟨#[]⟩ : ByteArray),.int .i64 0,.string (⟨#[]⟩ : ByteArray)]) ?_ 2 _ rfl;(with_reducible repeat (first|refine qah ?_ _|refine qai ?_|refine qag ?_ _));refine blk_put (cs := #[.string (⟨#[]⟩ : ByteArray),.int .i64 0,.string (⟨#[]⟩ : ByteArray)]) ?_ 1 _ rfl;(with_reducible repeat (first|refine qah ?_ _|refine qai ?_|refine qag ?_ _));refine blk_put (cs := #[.string (⟨#[]⟩ : ByteArray),.int .i64 0,.string (⟨#[]⟩ : ByteArray)]) ?_ 0 _ rfl;(with_reducible repeat (first|refine qah ?_ _|refine qai ?_|refine qag ?_ _));exact BK137.out) Tryz.underlying39 rfl (by kernel_rfl)) rfl ?_
  exact ⟨by first|rfl|(simp [qak,qal]<;>rfl)|(simp [*,qak,qal]<;>rfl),by repeat (first|(with_reducible first|exact HB.out|apply qab|apply qaa|apply qac|refine qae ?_ GE137.out)|exact HB.out)⟩
def slices_IndexFunc_string_string_31.l0 : Nat → List ByteArray → Int → Int → Option (Int)
 | 0,_,_,_ => none
 | k + 1,x0,x7,x8 => if x8 < x7 then (if 0 ≤ x8 then (if x8 < (x0.length : Int) then ((depends_Parse_1.f (rdOf ByteArray.empty x0 x8)).bind fun t153 => (if t153 = true then (some x8) else (slices_IndexFunc_string_string_31.l0 k x0 x7 (wrap64 (x8 + 1))))) else (none)) else (none)) else (some (-1))
def slices_IndexFunc_string_string_31.f (k : Nat) (l0 : List ByteArray) (a1 : Nat) : Option (Int) := slices_IndexFunc_string_string_31.l0 k l0 (l0.length : Int) 0
theorem slices_IndexFunc_string_string_31.mono_l : ∀ k,(∀ y0 y1 y2,LeO (slices_IndexFunc_string_string_31.l0 k y0 y1 y2) (slices_IndexFunc_string_string_31.l0 (k + 1) y0 y1 y2))
 | 0 => fun _ _ _ r h => by simp [slices_IndexFunc_string_string_31.l0] at h
 | k + 1 => by
  have ih0 := slices_IndexFunc_string_string_31.mono_l k
  ·intro y0 y1 y2
   unfold slices_IndexFunc_string_string_31.l0
   repeat' first
   | (with_reducible exact ih0 _ _ _)
   | (with_reducible exact LeO.refl _)
   | (with_reducible exact LeO.none _)
   | (with_reducible refine LeO.ite ?_ ?_)
   | (with_reducible refine LeO.bind ?_ (fun _ => ?_))
   | exact ih0 _ _ _
   | exact LeO.none _
   | refine LeO.ite ?_ ?_
   | refine LeO.bind ?_ (fun _ => ?_)
theorem slices_IndexFunc_string_string_31.mono : ∀ a0 a1 k,LeO (slices_IndexFunc_string_string_31.f k a0 a1) (slices_IndexFunc_string_string_31.f (k + 1) a0 a1) := by
 intro a0 a1 k
 have ih0 := slices_IndexFunc_string_string_31.mono_l k
 unfold slices_IndexFunc_string_string_31.f
 repeat' first
   | (with_reducible exact ih0 _ _ _)
   | (with_reducible exact LeO.refl _)
   | (with_reducible exact LeO.none _)
   | (with_reducible refine LeO.ite ?_ ?_)
   | (with_reducible refine LeO.bind ?_ (fun _ => ?_))
   | exact ih0 _ _ _
   | exact LeO.none _
   | refine LeO.ite ?_ ?_
   | refine LeO.bind ?_ (fun _ => ?_)
theorem slices_IndexFunc_string_string_31.calls (k : Nat) (A0 : Option Addr) (c0 : Nat) (l0 : List ByteArray) (a1 : Nat) (r : Int) (w : World) (hG : GL w) (hr0 : Kd.C Kd.string w A0 l0.length l0) (hc0 : l0.length ≤ c0) (h : slices_IndexFunc_string_string_31.f k l0 a1 = some r) :
  Calls Tryz.prog 53 #[.slice A0 l0.length c0,.func (.func 31) #[] #[]] w fun e w' => e = .returned (.int .i64 r) ∧ Drawn0 w w' := by
 have HR0 := Aside0.mk hr0
 have HC0 := Aside0.mk hc0
 clear hr0 hc0
 have H : (slices_IndexFunc_string_string_31.l0 k l0 (l0.length : Int) 0) = some r := h
 clear h
 have H' := Aside0.mk H
 clear H
 go_enter Tryz.func53,Tryz.ntmps53
 go_wp2
 go_loopg [8] k (fun kq v8 w' => ∃ (x8_1 : Int),v8 = .int .i64 x8_1 ∧ Aside0 (slices_IndexFunc_string_string_31.l0 kq l0 (l0.length : Int) x8_1 = some r) ∧ Aside0 (kq ≤ k) ∧ Drawn0 w w')
 case atStart => exact ⟨(0),(by first|rfl|(simp;done)|(simp [*];done)|(simp [qaj];done)),H',⟨Nat.le_refl _⟩,by repeat (first|exact Drawn0.refl _|apply Drawn0.step)⟩
 case round =>
  clear H'
  try clear p2
  obtain ⟨x8_1,rfl,HA,HK1,⟨m1,rfl⟩⟩ := hrel
  cases gk with
  | zero => exact absurd HA.out (by simp [slices_IndexFunc_string_string_31.l0])
  | succ k1 =>
   have H := HA.out
   clear HA
   simp only [slices_IndexFunc_string_string_31.l0] at H
   by_cases c3 : x8_1 < (l0.length : Int)
   ·rw [if_pos c3] at H
    have c3b0 : decide (x8_1 < (l0.length : Int)) = true := decide_eq_true c3
    clear c3
    by_cases c4 : 0 ≤ x8_1
    ·rw [if_pos c4] at H
     have c4b0 : decide (0 ≤ x8_1) = true := decide_eq_true c4
     clear c4
     by_cases c5 : x8_1 < (l0.length : Int)
     ·rw [if_pos c5] at H
      have c5b0 : decide (x8_1 < (l0.length : Int)) = true := decide_eq_true c5
      clear c5
      replace H := Option.bind_eq_some_iff.mp H
      obtain ⟨t153,A60,H⟩ := H
      replace H : (if t153 = true then (some x8_1) else (slices_IndexFunc_string_string_31.l0 k1 l0 (l0.length : Int) (wrap64 (x8_1 + 1)))) = some r := H
      have A6 := Aside0.mk A60
      clear A60
      by_cases c7 : t153 = true
      ·subst c7
       have H1 : (some x8_1) = some r := by rw [if_pos rfl] at H;exact H
       clear H
       have H := H1
       clear H1
       obtain rfl := Option.some.inj H
       have p152 : 0 ≤ (x8_1 : Int) := of_decide_eq_true (by assumption)
       have q152 : x8_1 < (l0.length : Int) := of_decide_eq_true (by assumption)
       obtain ⟨ad152,e152,hx152_0⟩ := Kd.at_string HR0.out x8_1 p152 q152
       cases e152
       replace p152 := eq_true p152
       replace q152 := eq_true q152
       go_wp2_with (first|(go_at_call 31;(with_reducible refine (depends_Parse_1.calls (rdOf ByteArray.empty l0 x8_1) true _ (by first|exact hG|(repeat (first|exact hG|apply GL.drewN|apply GL.drew)))  A6.out).mono ?_);rintro e w' ⟨rfl,⟨nd,rfl⟩⟩))
       go_ret
       exact ⟨by first|rfl|(simp;done)|(simp [*];done)|(simp [qaj];done),by repeat (first|exact Drawn0.refl _|apply Drawn0.step)⟩
      ·replace c7 := Bool.eq_false_iff.mpr c7
       subst c7
       have H1 : (slices_IndexFunc_string_string_31.l0 k1 l0 (l0.length : Int) (wrap64 (x8_1 + 1))) = some r := by rw [if_neg (show ¬ (false = true) by decide)] at H;exact H
       clear H
       have H := H1
       clear H1
       have H' := Aside0.mk H
       clear H
       have p152 : 0 ≤ (x8_1 : Int) := of_decide_eq_true (by assumption)
       have q152 : x8_1 < (l0.length : Int) := of_decide_eq_true (by assumption)
       obtain ⟨ad152,e152,hx152_0⟩ := Kd.at_string HR0.out x8_1 p152 q152
       cases e152
       replace p152 := eq_true p152
       replace q152 := eq_true q152
       go_wp2_with (first|(go_at_call 31;(with_reducible refine (depends_Parse_1.calls (rdOf ByteArray.empty l0 x8_1) false _ (by first|exact hG|(repeat (first|exact hG|apply GL.drewN|apply GL.drew)))  A6.out).mono ?_);rintro e w' ⟨rfl,⟨nd,rfl⟩⟩))
       go_roundg k1
       case measure => have := HK1.out;omega
       case rel => exact ⟨(wrap64 (x8_1 + 1)),(by first|rfl|(simp;done)|(simp [*];done)|(simp [qaj];done)),H',⟨by have := HK1.out;omega⟩,by repeat (first|exact Drawn0.refl _|apply Drawn0.step)⟩
     ·rw [if_neg c5] at H
      exact absurd H (by simp)
    ·rw [if_neg c4] at H
     exact absurd H (by simp)
   ·rw [if_neg c3] at H
    have c3b0 : decide (x8_1 < (l0.length : Int)) = false := decide_eq_false c3
    clear c3
    obtain rfl := Option.some.inj H
    go_wp2
    go_ret
    exact ⟨by first|rfl|(simp;done)|(simp [*];done)|(simp [qaj];done),by repeat (first|exact Drawn0.refl _|apply Drawn0.step)⟩
def slices_ContainsFunc_string_string_31.f (k : Nat) (l0 : List ByteArray) (a1 : Nat) : Option (Bool) := (slices_IndexFunc_string_string_31.f k l0 a1).bind fun t154 => (some (decide (t154 ≥ 0)))
theorem slices_ContainsFunc_string_string_31.mono : ∀ a0 a1 k,LeO (slices_ContainsFunc_string_string_31.f k a0 a1) (slices_ContainsFunc_string_string_31.f (k + 1) a0 a1) := by
 intro a0 a1 k
 unfold slices_ContainsFunc_string_string_31.f
 repeat' first
   | (with_reducible exact slices_IndexFunc_string_string_31.mono _ _ _)
   | (with_reducible exact LeO.refl _)
   | (with_reducible exact LeO.none _)
   | (with_reducible refine LeO.ite ?_ ?_)
   | (with_reducible refine LeO.bind ?_ (fun _ => ?_))
   | exact slices_IndexFunc_string_string_31.mono _ _ _
   | exact LeO.none _
   | refine LeO.ite ?_ ?_
   | refine LeO.bind ?_ (fun _ => ?_)
theorem slices_ContainsFunc_string_string_31.calls (k : Nat) (A0 : Option Addr) (c0 : Nat) (l0 : List ByteArray) (a1 : Nat) (r : Bool) (w : World) (hG : GL w) (hr0 : Kd.C Kd.string w A0 l0.length l0) (hc0 : l0.length ≤ c0) (h : slices_ContainsFunc_string_string_31.f k l0 a1 = some r) :
  Calls Tryz.prog 30 #[.slice A0 l0.length c0,.func (.func 31) #[] #[]] w fun e w' => e = .returned (.bool r) ∧ Drawn0 w w' := by
 have HR0 := Aside0.mk hr0
 have HC0 := Aside0.mk hc0
 clear hr0 hc0
 have H : ((slices_IndexFunc_string_string_31.f k l0 a1).bind fun t154 => (some (decide (t154 ≥ 0)))) = some r := h
 clear h
 replace H := Option.bind_eq_some_iff.mp H
 obtain ⟨t154,A30,H⟩ := H
 replace H : (some (decide (t154 ≥ 0))) = some r := H
 have A3 := Aside0.mk A30
 clear A30
 obtain rfl := Option.some.inj H
 go_enter Tryz.func30,Tryz.ntmps30
 go_wp2_with (first|((with_reducible refine qam (f := 53) rfl ?_);refine goesL_ (some 7) rfl rfl Tryz.func53 (by kernel_rfl) rfl #[.slice A0 l0.length c0,.func (.func 31) #[] #[]] rfl (by first|rfl|(simp only [List.map_toArray,List.map_cons,List.map_nil,List.length_drop,List.length_take];rfl)|simp only [List.map_toArray,List.map_cons,List.map_nil]) ?_;(with_reducible refine (slices_IndexFunc_string_string_31.calls k _ _ l0 a1 t154 _ (by first|exact hG|(repeat (first|exact hG|apply GL.drewN|apply GL.drew)))  ?side1 ?side2 A3.out).mono ?_);(case side1 => repeat (first|exact HR0.out|(with_reducible refine Kd.C_alloc ?_ _)|(with_reducible refine Kd.C_drewN ?_ _)|(with_reducible refine Kd.C_drew ?_)));(case side2 => exact HC0.out);rintro e w' ⟨rfl,⟨nd,rfl⟩⟩;refine ⟨_,rfl,?_⟩))
 go_ret
 exact ⟨by first|rfl|(simp;done)|(simp [*];done)|(simp [qaj];done),by repeat (first|exact Drawn0.refl _|apply Drawn0.step)⟩
end Go.Proofs.YtjbbgekkombpnaaGreatDoor.PA
