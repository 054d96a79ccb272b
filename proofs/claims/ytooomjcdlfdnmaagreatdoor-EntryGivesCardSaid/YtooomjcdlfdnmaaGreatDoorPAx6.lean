
import Derived.Test.YtooomjcdlfdnmaaGreatDoorPAx0
import Derived.Test.YtooomjcdlfdnmaaGreatDoorPAx4
import Derived.Test.YtooomjcdlfdnmaaGreatDoorPAx5
namespace Go.Proofs.YtooomjcdlfdnmaaGreatDoor.PA
open Go.RowKit Go.Proofs.YtooomjcdlfdnmaaGreatDoorW.PrintWords Go.Proofs.YtooomjcdlfdnmaaGreatDoorW.PrintLast Go.Proofs.YtooomjcdlfdnmaaGreatDoorW.PrintMore
attribute [local go_sem] max2_int min2_int max_two min_two max_three min_three max_four min_four
set_option maxHeartbeats 8000000
set_option maxRecDepth 100000
set_option linter.unusedVariables false
set_option linter.unusedSimpArgs false
mutual
def version_CompareText.l0 : Nat → ByteArray → ByteArray → Nat → Option (Int)
 | 0,_,_,_ => none
 | k + 1,x0,x1,x5 => if x0.toList = ([] : List UInt8) then (version_CompareText.j1 k x0 x1 x5 (x1.toList != ([] : List UInt8))) else (version_CompareText.j1 k x0 x1 x5 true)
def version_CompareText.j1 : Nat → ByteArray → ByteArray → Nat → Bool → Option (Int)
 | 0,_,_,_,_ => none
 | k + 1,x0,x1,x5,x16 => if x16 = true then ((version_part_240.f k x0 x5).bind fun bt150 => ((version_part_240.f k x1 x5).bind fun bt152 => ((version_part_237.f k bt150.2 0).bind fun bt154 => ((version_part_237.f k bt152.2 0).bind fun bt156 => ((version_words.f k bt150.1 bt152.1).bind fun t158 => ((version_numbers.f k bt154.1 bt156.1).bind fun t159 => ((cmp_Or_int.f k (([t158,t159] : List Int))).bind fun t163 => (if t163 = 0 then (version_CompareText.l0 k bt154.2 bt156.2 x5) else (some t163))))))))) else (some 0)
end
def version_CompareText.f (k : Nat) (a0 : ByteArray) (a1 : ByteArray) : Option (Int) := version_CompareText.l0 k a0 a1 0
theorem version_CompareText.mono_l : ∀ k,(∀ y0 y1 y2,LeO (version_CompareText.l0 k y0 y1 y2) (version_CompareText.l0 (k + 1) y0 y1 y2)) ∧ (∀ y0 y1 y2 y3,LeO (version_CompareText.j1 k y0 y1 y2 y3) (version_CompareText.j1 (k + 1) y0 y1 y2 y3))
 | 0 => ⟨fun _ _ _ r h => by simp [version_CompareText.l0] at h,fun _ _ _ _ r h => by simp [version_CompareText.j1] at h⟩
 | k + 1 => by
  obtain ⟨ih0,ih1⟩ := version_CompareText.mono_l k
  refine ⟨?_,?_⟩
  ·intro y0 y1 y2
   unfold version_CompareText.l0
   repeat' first
   | (with_reducible exact ih0 _ _ _)
   | (with_reducible exact ih1 _ _ _ _)
   | (with_reducible exact cmp_Or_int.mono _ _)
   | (with_reducible exact version_numbers.mono _ _ _)
   | (with_reducible exact version_part_237.mono _ _ _)
   | (with_reducible exact version_part_240.mono _ _ _)
   | (with_reducible exact version_words.mono _ _ _)
   | (with_reducible exact LeO.refl _)
   | (with_reducible exact LeO.none _)
   | (with_reducible refine LeO.ite ?_ ?_)
   | (with_reducible refine LeO.bind ?_ (fun _ => ?_))
   | exact ih0 _ _ _
   | exact ih1 _ _ _ _
   | exact cmp_Or_int.mono _ _
   | exact version_numbers.mono _ _ _
   | exact version_part_237.mono _ _ _
   | exact version_part_240.mono _ _ _
   | exact version_words.mono _ _ _
   | exact LeO.none _
   | refine LeO.ite ?_ ?_
   | refine LeO.bind ?_ (fun _ => ?_)
  ·intro y0 y1 y2 y3
   unfold version_CompareText.j1
   repeat' first
   | (with_reducible exact ih0 _ _ _)
   | (with_reducible exact ih1 _ _ _ _)
   | (with_reducible exact cmp_Or_int.mono _ _)
   | (with_reducible exact version_numbers.mono _ _ _)
   | (with_reducible exact version_part_237.mono _ _ _)
   | (with_reducible exact version_part_240.mono _ _ _)
   | (with_reducible exact version_words.mono _ _ _)
   | (with_reducible exact LeO.refl _)
   | (with_reducible exact LeO.none _)
   | (with_reducible refine LeO.ite ?_ ?_)
   | (with_reducible refine LeO.bind ?_ (fun _ => ?_))
   | exact ih0 _ _ _
   | exact ih1 _ _ _ _
   | exact cmp_Or_int.mono _ _
   | exact version_numbers.mono _ _ _
   | exact version_part_237.mono _ _ _
   | exact version_part_240.mono _ _ _
   | exact version_words.mono _ _ _
   | exact LeO.none _
   | refine LeO.ite ?_ ?_
   | refine LeO.bind ?_ (fun _ => ?_)
theorem version_CompareText.mono : ∀ a0 a1 k,LeO (version_CompareText.f k a0 a1) (version_CompareText.f (k + 1) a0 a1) := by
 intro a0 a1 k
 obtain ⟨ih0,ih1⟩ := version_CompareText.mono_l k
 unfold version_CompareText.f
 repeat' first
   | (with_reducible exact ih0 _ _ _)
   | (with_reducible exact ih1 _ _ _ _)
   | (with_reducible exact cmp_Or_int.mono _ _)
   | (with_reducible exact version_numbers.mono _ _ _)
   | (with_reducible exact version_part_237.mono _ _ _)
   | (with_reducible exact version_part_240.mono _ _ _)
   | (with_reducible exact version_words.mono _ _ _)
   | (with_reducible exact LeO.refl _)
   | (with_reducible exact LeO.none _)
   | (with_reducible refine LeO.ite ?_ ?_)
   | (with_reducible refine LeO.bind ?_ (fun _ => ?_))
   | exact ih0 _ _ _
   | exact ih1 _ _ _ _
   | exact cmp_Or_int.mono _ _
   | exact version_numbers.mono _ _ _
   | exact version_part_237.mono _ _ _
   | exact version_part_240.mono _ _ _
   | exact version_words.mono _ _ _
   | exact LeO.none _
   | refine LeO.ite ?_ ?_
   | refine LeO.bind ?_ (fun _ => ?_)
theorem version_CompareText.calls (k : Nat) (a0 : ByteArray) (a1 : ByteArray) (r : Int) (w : World) (hG : GL w) (h : version_CompareText.f k a0 a1 = some r) :
  Calls Tryz.prog 175 #[.string a0,.string a1] w fun e w' => e = .returned (.int .i64 r) ∧ Below w.heap.size w w' := by
 have HB := Aside0.mk (Below.refl w.heap.size w)
 have H : (version_CompareText.l0 k a0 a1 0) = some r := h
 clear h
 have H' := Aside0.mk H
 clear H
 go_enter Tryz.func175,Tryz.ntmps175
 go_wp2
 go_loopg [0,1] k (fun kq v0 v1 w' => ∃ (x0_1 : ByteArray) (x1_1 : ByteArray),v0 = .string x0_1 ∧ v1 = .string x1_1 ∧ Aside0 (version_CompareText.l0 kq x0_1 x1_1 0 = some r) ∧ Aside0 (kq ≤ k) ∧ Aside0 (Below w.heap.size w w'))
 case atStart => exact ⟨(a0),(a1),(by first|rfl|(simp;done)|(simp [*];done)|(simp [qam];done)),(by first|rfl|(simp;done)|(simp [*];done)|(simp [qam];done)),H',⟨Nat.le_refl _⟩,⟨by repeat (with_reducible first|exact HB.out|apply qab|apply qaa|apply qac)⟩⟩
 case round =>
  clear H'
  try clear c1
  try clear p2
  obtain ⟨x0_1,x1_1,rfl,rfl,HA,HK1,HB⟩ := hrel
  cases gk with
  | zero => exact absurd HA.out (by simp [version_CompareText.l0])
  | succ k1 =>
   have H := HA.out
   clear HA
   simp only [version_CompareText.l0] at H
   have HC3 := Aside0.mk H
   clear H
   go_upto_region 2 with (fail)
   go_cut [16] (fun v16 wc => ∃ (kq : Nat) (x16_2 : Bool),v16 = .bool x16_2 ∧ Aside0 (version_CompareText.j1 kq x0_1 x1_1 0 x16_2 = some r) ∧ Aside0 (kq ≤ k1) ∧ Aside0 (Below w.heap.size w wc))
   case first =>
    have H := HC3.out
    clear HC3
    by_cases c4 : x0_1.toList = ([] : List UInt8)
    ·rw [if_pos c4] at H
     have c4b0 : (x0_1.toList == ([] : List UInt8)) = true := beq_iff_eq.mpr c4
     have c4b1 : (x0_1.toList != ([] : List UInt8)) = false := bne_eq_false_iff_eq.mpr c4
     clear c4
     (first|rw [c4b0]|(simp only [i64_w,i32_w];rw [c4b0]) | skip)
     have H' := Aside0.mk H
     clear H
     go_wp2
     go_meet
     case rel => exact ⟨_,((x1_1.toList != ([] : List UInt8))),(by first|rfl|(simp;done)|(simp [*];done)|(simp [qam];done)),H',⟨by have := HK1.out;first|omega|exact Nat.le_refl _⟩,⟨by repeat (with_reducible first|exact HB.out|apply qab|apply qaa|apply qac)⟩⟩
    ·rw [if_neg c4] at H
     have c4b0 : (x0_1.toList == ([] : List UInt8)) = false := beq_eq_false_iff_ne.mpr c4
     have c4b1 : (x0_1.toList != ([] : List UInt8)) = true := bne_iff_ne.mpr c4
     (first|rw [c4b0]|(simp only [i64_w,i32_w];rw [c4b0]) | skip)
     have H' := Aside0.mk H
     clear H
     go_wp2
     go_meet
     case rel => exact ⟨_,(true),(by first|rfl|(simp;done)|(simp [*];done)|(simp [qam];done)),H',⟨by have := HK1.out;first|omega|exact Nat.le_refl _⟩,⟨by repeat (with_reducible first|exact HB.out|apply qab|apply qaa|apply qac)⟩⟩
   case rest =>
    clear HC3
    try clear c1
    try clear p2
    try clear c4
    try clear c4b0
    try clear c4b1
    try clear p2
    obtain ⟨kq,x16_2,rfl,HA,HJ2,HB⟩ := hcut
    cases kq with
    | zero => exact absurd HA.out (by simp [version_CompareText.j1])
    | succ kj2 =>
     have H := HA.out
     clear HA
     simp only [version_CompareText.j1] at H
     by_cases c5 : x16_2 = true
     ·subst c5
      have H1 : ((version_part_240.f kj2 x0_1 0).bind fun bt150 => ((version_part_240.f kj2 x1_1 0).bind fun bt152 => ((version_part_237.f kj2 bt150.2 0).bind fun bt154 => ((version_part_237.f kj2 bt152.2 0).bind fun bt156 => ((version_words.f kj2 bt150.1 bt152.1).bind fun t158 => ((version_numbers.f kj2 bt154.1 bt156.1).bind fun t159 => ((cmp_Or_int.f kj2 (([t158,t159] : List Int))).bind fun t163 => (if t163 = 0 then (version_CompareText.l0 kj2 bt154.2 bt156.2 0) else (some t163))))))))) = some r := by rw [if_pos rfl] at H;exact H
      clear H
      have H := H1
      clear H1
      replace H := Option.bind_eq_some_iff.mp H
      obtain ⟨⟨t150,t151⟩,A60,H⟩ := H
      replace H : ((version_part_240.f kj2 x1_1 0).bind fun bt152 => ((version_part_237.f kj2 t151 0).bind fun bt154 => ((version_part_237.f kj2 bt152.2 0).bind fun bt156 => ((version_words.f kj2 t150 bt152.1).bind fun t158 => ((version_numbers.f kj2 bt154.1 bt156.1).bind fun t159 => ((cmp_Or_int.f kj2 (([t158,t159] : List Int))).bind fun t163 => (if t163 = 0 then (version_CompareText.l0 kj2 bt154.2 bt156.2 0) else (some t163)))))))) = some r := H
      have A6 := Aside0.mk A60
      clear A60
      replace H := Option.bind_eq_some_iff.mp H
      obtain ⟨⟨t152,t153⟩,A70,H⟩ := H
      replace H : ((version_part_237.f kj2 t151 0).bind fun bt154 => ((version_part_237.f kj2 t153 0).bind fun bt156 => ((version_words.f kj2 t150 t152).bind fun t158 => ((version_numbers.f kj2 bt154.1 bt156.1).bind fun t159 => ((cmp_Or_int.f kj2 (([t158,t159] : List Int))).bind fun t163 => (if t163 = 0 then (version_CompareText.l0 kj2 bt154.2 bt156.2 0) else (some t163))))))) = some r := H
      have A7 := Aside0.mk A70
      clear A70
      replace H := Option.bind_eq_some_iff.mp H
      obtain ⟨⟨t154,t155⟩,A80,H⟩ := H
      replace H : ((version_part_237.f kj2 t153 0).bind fun bt156 => ((version_words.f kj2 t150 t152).bind fun t158 => ((version_numbers.f kj2 t154 bt156.1).bind fun t159 => ((cmp_Or_int.f kj2 (([t158,t159] : List Int))).bind fun t163 => (if t163 = 0 then (version_CompareText.l0 kj2 t155 bt156.2 0) else (some t163)))))) = some r := H
      have A8 := Aside0.mk A80
      clear A80
      replace H := Option.bind_eq_some_iff.mp H
      obtain ⟨⟨t156,t157⟩,A90,H⟩ := H
      replace H : ((version_words.f kj2 t150 t152).bind fun t158 => ((version_numbers.f kj2 t154 t156).bind fun t159 => ((cmp_Or_int.f kj2 (([t158,t159] : List Int))).bind fun t163 => (if t163 = 0 then (version_CompareText.l0 kj2 t155 t157 0) else (some t163))))) = some r := H
      have A9 := Aside0.mk A90
      clear A90
      replace H := Option.bind_eq_some_iff.mp H
      obtain ⟨t158,A100,H⟩ := H
      replace H : ((version_numbers.f kj2 t154 t156).bind fun t159 => ((cmp_Or_int.f kj2 (([t158,t159] : List Int))).bind fun t163 => (if t163 = 0 then (version_CompareText.l0 kj2 t155 t157 0) else (some t163)))) = some r := H
      have A10 := Aside0.mk A100
      clear A100
      replace H := Option.bind_eq_some_iff.mp H
      obtain ⟨t159,A110,H⟩ := H
      replace H : ((cmp_Or_int.f kj2 (([t158,t159] : List Int))).bind fun t163 => (if t163 = 0 then (version_CompareText.l0 kj2 t155 t157 0) else (some t163))) = some r := H
      have A11 := Aside0.mk A110
      clear A110
      obtain ⟨y160,hy160⟩ : ∃ y_ : List Int,y_ = (([t158,t159] : List Int)) := ⟨_,rfl⟩
      replace H : ((cmp_Or_int.f kj2 y160).bind fun t163 => (if t163 = 0 then (version_CompareText.l0 kj2 t155 t157 0) else (some t163))) = some r := by first|(rw [hy160];with_reducible exact H)|(have H2_ := (Option.bind_some _ _).symm.trans H;rw [hy160];with_reducible exact H2_)|(have H2_ := (Option.bind_some _ _).symm.trans H;with_reducible exact H2_) | with_reducible exact H|(rw [hy160];exact H)|exact H
      have Ny160 := Aside0.mk hy160
      clear hy160
      replace H := Option.bind_eq_some_iff.mp H
      obtain ⟨t163,A120,H⟩ := H
      replace H : (if t163 = 0 then (version_CompareText.l0 kj2 t155 t157 0) else (some t163)) = some r := H
      have A12 := Aside0.mk A120
      clear A120
      by_cases c13 : t163 = 0
      ·rw [if_pos c13] at H
       have c13b0 : (t163 == 0) = true := beq_iff_eq.mpr c13
       have c13b1 : (t163 != 0) = false := bne_eq_false_iff_eq.mpr c13
       clear c13
       have H' := Aside0.mk H
       clear H
       go_wp2_with (first|((with_reducible refine qal (f := 241) rfl ?_);refine goesL_ (some 20) rfl rfl Tryz.func241 (by kernel_rfl) rfl #[.string x0_1,.func (.func 240) #[] #[]] rfl (by first|rfl|(simp only [List.map_toArray,List.map_cons,List.map_nil,List.length_drop,List.length_take];rfl)|simp only [List.map_toArray,List.map_cons,List.map_nil]) ?_;(with_reducible refine (version_part_240.calls kj2 x0_1 0 t150 t151 _ (by first|exact hG|exact GL.below hG (by repeat (with_reducible first|exact HB.out|apply qab|apply qaa|apply qac)))  A6.out).mono ?_);rintro e w' ⟨rfl,⟨nd,rfl⟩⟩;refine ⟨_,rfl,?_⟩)|((with_reducible refine qal (f := 241) rfl ?_);refine goesL_ (some 26) rfl rfl Tryz.func241 (by kernel_rfl) rfl #[.string x1_1,.func (.func 240) #[] #[]] rfl (by first|rfl|(simp only [List.map_toArray,List.map_cons,List.map_nil,List.length_drop,List.length_take];rfl)|simp only [List.map_toArray,List.map_cons,List.map_nil]) ?_;(with_reducible refine (version_part_240.calls kj2 x1_1 0 t152 t153 _ (by first|exact hG|exact GL.below hG (by repeat (with_reducible first|exact HB.out|apply qab|apply qaa|apply qac)))  A7.out).mono ?_);rintro e w' ⟨rfl,⟨nd,rfl⟩⟩;refine ⟨_,rfl,?_⟩)|((with_reducible refine qal (f := 241) rfl ?_);refine goesL_ (some 31) rfl rfl Tryz.func241 (by kernel_rfl) rfl #[.string t151,.func (.func 237) #[] #[]] rfl (by first|rfl|(simp only [List.map_toArray,List.map_cons,List.map_nil,List.length_drop,List.length_take];rfl)|simp only [List.map_toArray,List.map_cons,List.map_nil]) ?_;(with_reducible refine (version_part_237.calls kj2 t151 0 t154 t155 _ (by first|exact hG|exact GL.below hG (by repeat (with_reducible first|exact HB.out|apply qab|apply qaa|apply qac)))  A8.out).mono ?_);rintro e w' ⟨rfl,⟨nd,rfl⟩⟩;refine ⟨_,rfl,?_⟩)|((with_reducible refine qal (f := 241) rfl ?_);refine goesL_ (some 36) rfl rfl Tryz.func241 (by kernel_rfl) rfl #[.string t153,.func (.func 237) #[] #[]] rfl (by first|rfl|(simp only [List.map_toArray,List.map_cons,List.map_nil,List.length_drop,List.length_take];rfl)|simp only [List.map_toArray,List.map_cons,List.map_nil]) ?_;(with_reducible refine (version_part_237.calls kj2 t153 0 t156 t157 _ (by first|exact hG|exact GL.below hG (by repeat (with_reducible first|exact HB.out|apply qab|apply qaa|apply qac)))  A9.out).mono ?_);rintro e w' ⟨rfl,⟨nd,rfl⟩⟩;refine ⟨_,rfl,?_⟩)|((with_reducible refine qal (f := 242) rfl ?_);refine goesL_ (some 41) rfl rfl Tryz.func242 (by kernel_rfl) rfl #[.string t150,.string t152] rfl (by first|rfl|(simp only [List.map_toArray,List.map_cons,List.map_nil,List.length_drop,List.length_take];rfl)|simp only [List.map_toArray,List.map_cons,List.map_nil]) ?_;(with_reducible refine (version_words.calls kj2 t150 t152 t158 _ (by first|exact hG|exact GL.below hG (by repeat (with_reducible first|exact HB.out|apply qab|apply qaa|apply qac)))  A10.out).mono ?_);rintro e w14 ⟨rfl,hb⟩;refine ⟨_,rfl,?_⟩;have n0_ := Aside0.mk (qan (by repeat (with_reducible first|exact HB.out|apply qab|apply qaa|apply qac)) hb);clear HB;have HB := n0_;clear n0_;(try clear hb);(try clear hb2);(try clear hk);(try clear hi))|((with_reducible refine qal (f := 243) rfl ?_);refine goesL_ (some 44) rfl rfl Tryz.func243 (by kernel_rfl) rfl #[.string t154,.string t156] rfl (by first|rfl|(simp only [List.map_toArray,List.map_cons,List.map_nil,List.length_drop,List.length_take];rfl)|simp only [List.map_toArray,List.map_cons,List.map_nil]) ?_;(with_reducible refine (version_numbers.calls kj2 t154 t156 t159 _ (by first|exact hG|exact GL.below hG (by repeat (with_reducible first|exact HB.out|apply qab|apply qaa|apply qac)))  A11.out).mono ?_);rintro e w15 ⟨rfl,hb⟩;refine ⟨_,rfl,?_⟩;have n0_ := Aside0.mk (qan (by repeat (with_reducible first|exact HB.out|apply qab|apply qaa|apply qac)) hb);clear HB;have HB := n0_;clear n0_;(try clear hb);(try clear hb2);(try clear hk);(try clear hi))|((with_reducible refine gate_dst (N := 45) rfl ?_);refine Kd.R_lit (Kd.int .i64) _ 3 ?hg (N := 45) ?hd (xs := ([t158,t159] : List Int)) (inner := [.int .i64 t158,.int .i64 t159]) (ok := fun _ => True) (okp := fun _ => True) ?hr ?hp (fun _ hk => hk) trivial (Below.refl _ _) (Nat.le_refl _) (by simp) ?_;(case hd => rfl);(case hg => rfl);(case hr => first|(go_simp;done)|(go_simp;rfl));(case hp => exact (Reps.one (show Kd.M (Kd.int .i64) _ _ _ t158 [.int .i64 t158] from rfl) (Reps.one (show Kd.M (Kd.int .i64) _ _ _ t159 [.int .i64 t159] from rfl) (Reps.none _ _))));intro v161 w16 ho17 hb hg_ hnew_;clear hg_ hnew_;(first|rw [← Ny160.out] at ho17|(simp only [Int.reduceToNat] at ho17;rw [← Ny160.out] at ho17));have n0_ := Aside0.mk (Kd.R_lower ho17 (qao (by repeat (with_reducible first|exact HB.out|apply qab|apply qaa|apply qac))));have n1_ := Aside0.mk (qan (by repeat (with_reducible first|exact HB.out|apply qab|apply qaa|apply qac)) hb);clear HB;have HO162 := n0_;have HB := n1_;clear n0_ n1_;clear hb ho17;obtain ⟨Ao18,co18,eo18⟩ := Kd.R_slice HO162.out;subst eo18)|((with_reducible refine qal (f := 55) rfl ?_);refine goesL_ (some 46) rfl rfl Tryz.func55 (by kernel_rfl) rfl #[.slice Ao18 y160.length co18] rfl (by first|rfl|(simp only [List.map_toArray,List.map_cons,List.map_nil,List.length_drop,List.length_take];rfl)|simp only [List.map_toArray,List.map_cons,List.map_nil]) ?_;(with_reducible refine (cmp_Or_int.calls kj2 _ _ y160 t163 _ (by first|exact hG|exact GL.below hG (by repeat (with_reducible first|exact HB.out|apply qab|apply qaa|apply qac)))  ?side1 ?side2 A12.out).mono ?_);(case side1 => repeat (first|exact (Kd.R_reads' HO162.out).2.2|(with_reducible refine Kd.C_alloc ?_ _)|(with_reducible refine Kd.C_drewN ?_ _)|(with_reducible refine Kd.C_drew ?_)));(case side2 => exact (Kd.R_reads' HO162.out).2.1);rintro e w' ⟨rfl,⟨nd,rfl⟩⟩;refine ⟨_,rfl,?_⟩))
       go_roundg kj2
       case measure => have := HK1.out;have := HJ2.out;omega
       case rel => exact ⟨(t155),(t157),(by first|rfl|(simp;done)|(simp [*];done)|(simp [qam];done)),(by first|rfl|(simp;done)|(simp [*];done)|(simp [qam];done)),H',⟨by have := HK1.out;have := HJ2.out;omega⟩,⟨by repeat (with_reducible first|exact HB.out|apply qab|apply qaa|apply qac)⟩⟩
      ·rw [if_neg c13] at H
       have c13b0 : (t163 == 0) = false := beq_eq_false_iff_ne.mpr c13
       have c13b1 : (t163 != 0) = true := bne_iff_ne.mpr c13
       obtain rfl := Option.some.inj H
       go_wp2_with (first|((with_reducible refine qal (f := 241) rfl ?_);refine goesL_ (some 20) rfl rfl Tryz.func241 (by kernel_rfl) rfl #[.string x0_1,.func (.func 240) #[] #[]] rfl (by first|rfl|(simp only [List.map_toArray,List.map_cons,List.map_nil,List.length_drop,List.length_take];rfl)|simp only [List.map_toArray,List.map_cons,List.map_nil]) ?_;(with_reducible refine (version_part_240.calls kj2 x0_1 0 t150 t151 _ (by first|exact hG|exact GL.below hG (by repeat (with_reducible first|exact HB.out|apply qab|apply qaa|apply qac)))  A6.out).mono ?_);rintro e w' ⟨rfl,⟨nd,rfl⟩⟩;refine ⟨_,rfl,?_⟩)|((with_reducible refine qal (f := 241) rfl ?_);refine goesL_ (some 26) rfl rfl Tryz.func241 (by kernel_rfl) rfl #[.string x1_1,.func (.func 240) #[] #[]] rfl (by first|rfl|(simp only [List.map_toArray,List.map_cons,List.map_nil,List.length_drop,List.length_take];rfl)|simp only [List.map_toArray,List.map_cons,List.map_nil]) ?_;(with_reducible refine (version_part_240.calls kj2 x1_1 0 t152 t153 _ (by first|exact hG|exact GL.below hG (by repeat (with_reducible first|exact HB.out|apply qab|apply qaa|apply qac)))  A7.out).mono ?_);rintro e w' ⟨rfl,⟨nd,rfl⟩⟩;refine ⟨_,rfl,?_⟩)|((with_reducible refine qal (f := 241) rfl ?_);refine goesL_ (some 31) rfl rfl Tryz.func241 (by kernel_rfl) rfl #[.string t151,.func (.func 237) #[] #[]] rfl (by first|rfl|(simp only [List.map_toArray,List.map_cons,List.map_nil,List.length_drop,List.length_take];rfl)|simp only [List.map_toArray,List.map_cons,List.map_nil]) ?_;(with_reducible refine (version_part_237.calls kj2 t151 0 t154 t155 _ (by first|exact hG|exact GL.below hG (by repeat (with_reducible first|exact HB.out|apply qab|apply qaa|apply qac)))  A8.out).mono ?_);rintro e w' ⟨rfl,⟨nd,rfl⟩⟩;refine ⟨_,rfl,?_⟩)|((with_reducible refine qal (f := 241) rfl ?_);refine goesL_ (some 36) rfl rfl Tryz.func241 (by kernel_rfl) rfl #[.string t153,.func (.func 237) #[] #[]] rfl (by first|rfl|(simp only [List.map_toArray,List.map_cons,List.map_nil,List.length_drop,List.length_take];rfl)|simp only [List.map_toArray,List.map_cons,List.map_nil]) ?_;(with_reducible refine (version_part_237.calls kj2 t153 0 t156 t157 _ (by first|exact hG|exact GL.below hG (by repeat (with_reducible first|exact HB.out|apply qab|apply qaa|apply qac)))  A9.out).mono ?_);rintro e w' ⟨rfl,⟨nd,rfl⟩⟩;refine ⟨_,rfl,?_⟩)|((with_reducible refine qal (f := 242) rfl ?_);refine goesL_ (some 41) rfl rfl Tryz.func242 (by kernel_rfl) rfl #[.string t150,.string t152] rfl (by first|rfl|(simp only [List.map_toArray,List.map_cons,List.map_nil,List.length_drop,List.length_take];rfl)|simp only [List.map_toArray,List.map_cons,List.map_nil]) ?_;(with_reducible refine (version_words.calls kj2 t150 t152 t158 _ (by first|exact hG|exact GL.below hG (by repeat (with_reducible first|exact HB.out|apply qab|apply qaa|apply qac)))  A10.out).mono ?_);rintro e w19 ⟨rfl,hb⟩;refine ⟨_,rfl,?_⟩;have n0_ := Aside0.mk (qan (by repeat (with_reducible first|exact HB.out|apply qab|apply qaa|apply qac)) hb);clear HB;have HB := n0_;clear n0_;(try clear hb);(try clear hb2);(try clear hk);(try clear hi))|((with_reducible refine qal (f := 243) rfl ?_);refine goesL_ (some 44) rfl rfl Tryz.func243 (by kernel_rfl) rfl #[.string t154,.string t156] rfl (by first|rfl|(simp only [List.map_toArray,List.map_cons,List.map_nil,List.length_drop,List.length_take];rfl)|simp only [List.map_toArray,List.map_cons,List.map_nil]) ?_;(with_reducible refine (version_numbers.calls kj2 t154 t156 t159 _ (by first|exact hG|exact GL.below hG (by repeat (with_reducible first|exact HB.out|apply qab|apply qaa|apply qac)))  A11.out).mono ?_);rintro e w20 ⟨rfl,hb⟩;refine ⟨_,rfl,?_⟩;have n0_ := Aside0.mk (qan (by repeat (with_reducible first|exact HB.out|apply qab|apply qaa|apply qac)) hb);clear HB;have HB := n0_;clear n0_;(try clear hb);(try clear hb2);(try clear hk);(try clear hi))|((with_reducible refine gate_dst (N := 45) rfl ?_);refine Kd.R_lit (Kd.int .i64) _ 3 ?hg (N := 45) ?hd (xs := ([t158,t159] : List Int)) (inner := [.int .i64 t158,.int .i64 t159]) (ok := fun _ => True) (okp := fun _ => True) ?hr ?hp (fun _ hk => hk) trivial (Below.refl _ _) (Nat.le_refl _) (by simp) ?_;(case hd => rfl);(case hg => rfl);(case hr => first|(go_simp;done)|(go_simp;rfl));(case hp => exact (Reps.one (show Kd.M (Kd.int .i64) _ _ _ t158 [.int .i64 t158] from rfl) (Reps.one (show Kd.M (Kd.int .i64) _ _ _ t159 [.int .i64 t159] from rfl) (Reps.none _ _))));intro v161 w21 ho22 hb hg_ hnew_;clear hg_ hnew_;(first|rw [← Ny160.out] at ho22|(simp only [Int.reduceToNat] at ho22;rw [← Ny160.out] at ho22));have n0_ := Aside0.mk (Kd.R_lower ho22 (qao (by repeat (with_reducible first|exact HB.out|apply qab|apply qaa|apply qac))));have n1_ := Aside0.mk (qan (by repeat (with_reducible first|exact HB.out|apply qab|apply qaa|apply qac)) hb);clear HB;have HO162 := n0_;have HB := n1_;clear n0_ n1_;clear hb ho22;obtain ⟨Ao23,co23,eo23⟩ := Kd.R_slice HO162.out;subst eo23)|((with_reducible refine qal (f := 55) rfl ?_);refine goesL_ (some 46) rfl rfl Tryz.func55 (by kernel_rfl) rfl #[.slice Ao23 y160.length co23] rfl (by first|rfl|(simp only [List.map_toArray,List.map_cons,List.map_nil,List.length_drop,List.length_take];rfl)|simp only [List.map_toArray,List.map_cons,List.map_nil]) ?_;(with_reducible refine (cmp_Or_int.calls kj2 _ _ y160 t163 _ (by first|exact hG|exact GL.below hG (by repeat (with_reducible first|exact HB.out|apply qab|apply qaa|apply qac)))  ?side1 ?side2 A12.out).mono ?_);(case side1 => repeat (first|exact (Kd.R_reads' HO162.out).2.2|(with_reducible refine Kd.C_alloc ?_ _)|(with_reducible refine Kd.C_drewN ?_ _)|(with_reducible refine Kd.C_drew ?_)));(case side2 => exact (Kd.R_reads' HO162.out).2.1);rintro e w' ⟨rfl,⟨nd,rfl⟩⟩;refine ⟨_,rfl,?_⟩))
       go_ret
       exact ⟨by first|rfl|(simp [qaj,qak]<;>rfl)|(simp [*,qaj,qak]<;>rfl),by repeat (with_reducible first|exact HB.out|apply qab|apply qaa|apply qac)⟩
     ·replace c5 := Bool.eq_false_iff.mpr c5
      subst c5
      have H1 : (some 0) = some r := by rw [if_neg (show ¬ (false = true) by decide)] at H;exact H
      clear H
      have H := H1
      clear H1
      obtain rfl := Option.some.inj H
      go_wp2
      go_ret
      exact ⟨by first|rfl|(simp [qaj,qak]<;>rfl)|(simp [*,qaj,qak]<;>rfl),by repeat (with_reducible first|exact HB.out|apply qab|apply qaa|apply qac)⟩
def version_Compare.f (k : Nat) (a0_0 : Int) (a0_1 : ByteArray) (a0_2 : ByteArray) (a1_0 : Int) (a1_1 : ByteArray) (a1_2 : ByteArray) : Option (Int) := (cmp_Compare_int.f a0_0 a1_0).bind fun t166 => ((version_CompareText.f k a0_1 a1_1).bind fun t167 => ((version_CompareText.f k a0_2 a1_2).bind fun t168 => ((cmp_Or_int.f k (([t166,t167,t168] : List Int))).bind fun t172 => (some t172))))
theorem version_Compare.mono : ∀ a0 a1 a2 a3 a4 a5 k,LeO (version_Compare.f k a0 a1 a2 a3 a4 a5) (version_Compare.f (k + 1) a0 a1 a2 a3 a4 a5) := by
 intro a0 a1 a2 a3 a4 a5 k
 unfold version_Compare.f
 repeat' first
   | (with_reducible exact cmp_Or_int.mono _ _)
   | (with_reducible exact version_CompareText.mono _ _ _)
   | (with_reducible exact LeO.refl _)
   | (with_reducible exact LeO.none _)
   | (with_reducible refine LeO.ite ?_ ?_)
   | (with_reducible refine LeO.bind ?_ (fun _ => ?_))
   | exact cmp_Or_int.mono _ _
   | exact version_CompareText.mono _ _ _
   | exact LeO.none _
   | refine LeO.ite ?_ ?_
   | refine LeO.bind ?_ (fun _ => ?_)
def version_Compare.T1 : Bool × List (List Nat × List Nat) := (true,[([],[]),([0],[0]),([],[]),([2],[2]),([1,3],[1,3]),([],[]),([5],[5]),([],[]),([7],[7]),([6,8,4],[6,8]),([],[]),([10],[10]),([],[]),([12],[12]),([11,13,9],[11,13]),([4,9,14],[4,9,14]),([15,14],[15]),([16,16,0,1,2,3,4,5,6,7,8,9,10,11,12,13,14,15,16],[16])])
def version_Compare.B1 : List Nat := [0,1,0,4,15,0,32,0,128,511,0,1024,0,4096,16383,32767,65535,131071]
theorem version_Compare.tab1 : rtab .any (opsOf Tryz.f116 1) = version_Compare.T1 := by kernel_rfl
theorem version_Compare.bits1 : waitsOk version_Compare.T1.2 version_Compare.B1 = true := by kernel_rfl
theorem version_Compare.calls (k : Nat) (a0_0 : Int) (a0_1 : ByteArray) (a0_2 : ByteArray) (a1_0 : Int) (a1_1 : ByteArray) (a1_2 : ByteArray) (r : Int) (w : World) (hG : GL w) (h : version_Compare.f k a0_0 a0_1 a0_2 a1_0 a1_1 a1_2 = some r) :
  Calls Tryz.prog 116 #[.agg #[.int .i64 a0_0,.string a0_1,.string a0_2],.agg #[.int .i64 a1_0,.string a1_1,.string a1_2]] w fun e w' => e = .returned (.int .i64 r) ∧ Below w.heap.size w w' := by
 have hu128 := Tryz.underlying128
 have HB := Aside0.mk (Below.refl w.heap.size w)
 have H : ((cmp_Compare_int.f a0_0 a1_0).bind fun t166 => ((version_CompareText.f k a0_1 a1_1).bind fun t167 => ((version_CompareText.f k a0_2 a1_2).bind fun t168 => ((cmp_Or_int.f k (([t166,t167,t168] : List Int))).bind fun t172 => (some t172))))) = some r := h
 clear h
 replace H := Option.bind_eq_some_iff.mp H
 obtain ⟨t166,A30,H⟩ := H
 replace H : ((version_CompareText.f k a0_1 a1_1).bind fun t167 => ((version_CompareText.f k a0_2 a1_2).bind fun t168 => ((cmp_Or_int.f k (([t166,t167,t168] : List Int))).bind fun t172 => (some t172)))) = some r := H
 have A3 := Aside0.mk A30
 clear A30
 replace H := Option.bind_eq_some_iff.mp H
 obtain ⟨t167,A40,H⟩ := H
 replace H : ((version_CompareText.f k a0_2 a1_2).bind fun t168 => ((cmp_Or_int.f k (([t166,t167,t168] : List Int))).bind fun t172 => (some t172))) = some r := H
 have A4 := Aside0.mk A40
 clear A40
 replace H := Option.bind_eq_some_iff.mp H
 obtain ⟨t168,A50,H⟩ := H
 replace H : ((cmp_Or_int.f k (([t166,t167,t168] : List Int))).bind fun t172 => (some t172)) = some r := H
 have A5 := Aside0.mk A50
 clear A50
 obtain ⟨y169,hy169⟩ : ∃ y_ : List Int,y_ = (([t166,t167,t168] : List Int)) := ⟨_,rfl⟩
 replace H : ((cmp_Or_int.f k y169).bind fun t172 => (some t172)) = some r := by first|(rw [hy169];with_reducible exact H)|(have H2_ := (Option.bind_some _ _).symm.trans H;rw [hy169];with_reducible exact H2_)|(have H2_ := (Option.bind_some _ _).symm.trans H;with_reducible exact H2_) | with_reducible exact H|(rw [hy169];exact H)|exact H
 have Ny169 := Aside0.mk hy169
 clear hy169
 replace H := Option.bind_eq_some_iff.mp H
 obtain ⟨t172,A60,H⟩ := H
 replace H : (some t172) = some r := H
 have A6 := Aside0.mk A60
 clear A60
 obtain rfl := Option.some.inj H
 go_enter Tryz.func116,Tryz.ntmps116
 try go_wp2_with (first|((with_reducible refine gate_dst (N := 2) rfl ?_);refine box_event ?hg (N := 2) ?hd (cs := #[.int .i64 a0_0,.string a0_1,.string a0_2]) (t := 128) ?hr ?_;(case hd => rfl);(case hg => rfl);(case hr => first|(go_simp;done)|(go_simp;rfl));intro gb164 hg w7 hbox hb;have n0_ := Aside0.mk (qan (by repeat (with_reducible first|exact HB.out|apply qab|apply qaa|apply qac)) hb);have n1_ := Aside0.mk (hbox);have n2_ := Aside0.mk ((by rw [hg];exact (qao (by repeat (with_reducible first|exact HB.out|apply qab|apply qaa|apply qac))) : w.heap.size ≤ gb164));have n3_ := Aside0.mk ((by rw [hg];exact (qao (by repeat (with_reducible first|exact HB.out|apply qab|apply qaa|apply qac))) : w.heap.size ≤ gb164));clear HB;have HB := n0_;have BK164 := n1_;have GW164 := n2_;have GE164 := n3_;clear n0_ n1_ n2_ n3_;clear hb hbox hg)|((with_reducible refine gate_dst (N := 3) rfl ?_);refine box_event ?hg (N := 3) ?hd (cs := #[.int .i64 a1_0,.string a1_1,.string a1_2]) (t := 128) ?hr ?_;(case hd => rfl);(case hg => rfl);(case hr => first|(go_simp;done)|(go_simp;rfl));intro gb165 hg w8 hbox hb;have n0_ := Aside0.mk (qaq (g := gb164) (o := .cells #[.int .i64 a0_0,.string a0_1,.string a0_2] 128 (0,0)) (by (with_reducible repeat (first|refine qah ?_ _|refine qai ?_|refine qag ?_ _));exact BK164.out) hb);have n1_ := Aside0.mk (qan (by repeat (first|(with_reducible first|exact HB.out|apply qab|apply qaa|apply qac|refine qaf ?_ GE164.out)|exact HB.out)) hb);have n2_ := Aside0.mk (hbox);have n3_ := Aside0.mk ((by rw [hg];exact (qao (by repeat (first|(with_reducible first|exact HB.out|apply qab|apply qaa|apply qac|refine qaf ?_ GE164.out)|exact HB.out))) : w.heap.size ≤ gb165));have n4_ := Aside0.mk ((by rw [hg];exact (qao (by repeat (first|(with_reducible first|exact HB.out|apply qab|apply qaa|apply qac|refine qaf ?_ GE164.out)|exact HB.out))) : w.heap.size ≤ gb165));have n5_ := Aside0.mk ((by rw [hg];exact Nat.ne_of_lt (blk_lt (g := gb164) (o := .cells #[.int .i64 a0_0,.string a0_1,.string a0_2] 128 (0,0)) (by (with_reducible repeat (first|refine qah ?_ _|refine qai ?_|refine qag ?_ _));exact BK164.out)) : gb164 ≠ gb165));have n6_ := Aside0.mk ((by rw [hg];exact Nat.ne_of_gt (blk_lt (g := gb164) (o := .cells #[.int .i64 a0_0,.string a0_1,.string a0_2] 128 (0,0)) (by (with_reducible repeat (first|refine qah ?_ _|refine qai ?_|refine qag ?_ _));exact BK164.out)) : gb165 ≠ gb164));clear BK164;clear HB;have BK164 := n0_;have HB := n1_;have BK165 := n2_;have GW165 := n3_;have GE165 := n4_;have NB164_165 := n5_;have NB165_164 := n6_;clear n0_ n1_ n2_ n3_ n4_ n5_ n6_;clear hb hbox hg))
 have n0_ := Aside0.mk (qai BK164.out)
 have n1_ := Aside0.mk (qai BK165.out)
 have n2_ := Aside0.mk (qac HB.out)
 clear BK164
 clear BK165
 clear HB
 have BK164 := n0_
 have BK165 := n1_
 have HB := n2_
 clear n0_ n1_ n2_
 refine start_ (n := 18) (S := fun w' => w'.cell? ⟨gb164,0,none⟩ = some (.int .i64 a0_0) ∧ w'.cell? ⟨gb164,1,none⟩ = some (.string a0_1) ∧ w'.cell? ⟨gb164,2,none⟩ = some (.string a0_2) ∧ w'.cell? ⟨gb165,0,none⟩ = some (.int .i64 a1_0) ∧ w'.cell? ⟨gb165,1,none⟩ = some (.string a1_1) ∧ w'.cell? ⟨gb165,2,none⟩ = some (.string a1_2)) (ds := []) #[false,false,false,false,false,false,false,false,false,false,false,false,false,false,false,false,false,false] (by kernel_rfl) rfl rfl ⟨(qae BK164.out 0).trans rfl,(qae BK164.out 1).trans rfl,(qae BK164.out 2).trans rfl,(qae BK165.out 0).trans rfl,(qae BK165.out 1).trans rfl,(qae BK165.out 2).trans rfl⟩ (fun hHeld => ?_);refine with_tabW version_Compare.tab1 version_Compare.bits1 (fun HT_ HW_ => ?_)
 generalize w8.drew = w9 at BK164 BK165 HB hHeld ⊢
 refine pure_ (i := 0) (N := some 5) (v := ?_) (a' := ?_) #[true,false,false,false,false,false,false,false,false,false,false,false,false,false,false,false,false,false] rfl rfl (any_of HT_.out (by kernel_rfl)) (fun _ _ _ h => h) (Or.inl ⟨by rfl,?_⟩) ?_ ?_
 rotate_left
 ·intro w'
  go_simp
  with_reducible rfl
 rotate_left
 ·simp only [Act.put,List.setIfInBounds_toArray,List.set_cons_zero,List.set_cons_succ,i64_w,i32_w]
  rfl
 refine pure_ (i := 2) (N := some 7) (v := ?_) (a' := ?_) #[true,false,true,false,false,false,false,false,false,false,false,false,false,false,false,false,false,false] rfl rfl (any_of HT_.out (by kernel_rfl)) (fun _ _ _ h => h) (Or.inl ⟨by rfl,?_⟩) ?_ ?_
 rotate_left
 ·intro w'
  go_simp
  with_reducible rfl
 rotate_left
 ·simp only [Act.put,List.setIfInBounds_toArray,List.set_cons_zero,List.set_cons_succ,i64_w,i32_w]
  rfl
 refine pure_ (i := 5) (N := some 10) (v := ?_) (a' := ?_) #[true,false,true,false,false,true,false,false,false,false,false,false,false,false,false,false,false,false] rfl rfl (any_of HT_.out (by kernel_rfl)) (fun _ _ _ h => h) (Or.inl ⟨by rfl,?_⟩) ?_ ?_
 rotate_left
 ·intro w'
  go_simp
  with_reducible rfl
 rotate_left
 ·simp only [Act.put,List.setIfInBounds_toArray,List.set_cons_zero,List.set_cons_succ,i64_w,i32_w]
  rfl
 refine pure_ (i := 7) (N := some 12) (v := ?_) (a' := ?_) #[true,false,true,false,false,true,false,true,false,false,false,false,false,false,false,false,false,false] rfl rfl (any_of HT_.out (by kernel_rfl)) (fun _ _ _ h => h) (Or.inl ⟨by rfl,?_⟩) ?_ ?_
 rotate_left
 ·intro w'
  go_simp
  with_reducible rfl
 rotate_left
 ·simp only [Act.put,List.setIfInBounds_toArray,List.set_cons_zero,List.set_cons_succ,i64_w,i32_w]
  rfl
 refine pure_ (i := 10) (N := some 15) (v := ?_) (a' := ?_) #[true,false,true,false,false,true,false,true,false,false,true,false,false,false,false,false,false,false] rfl rfl (any_of HT_.out (by kernel_rfl)) (fun _ _ _ h => h) (Or.inl ⟨by rfl,?_⟩) ?_ ?_
 rotate_left
 ·intro w'
  go_simp
  with_reducible rfl
 rotate_left
 ·simp only [Act.put,List.setIfInBounds_toArray,List.set_cons_zero,List.set_cons_succ,i64_w,i32_w]
  rfl
 refine pure_ (i := 12) (N := some 17) (v := ?_) (a' := ?_) #[true,false,true,false,false,true,false,true,false,false,true,false,true,false,false,false,false,false] rfl rfl (any_of HT_.out (by kernel_rfl)) (fun _ _ _ h => h) (Or.inl ⟨by rfl,?_⟩) ?_ ?_
 rotate_left
 ·intro w'
  go_simp
  with_reducible rfl
 rotate_left
 ·simp only [Act.put,List.setIfInBounds_toArray,List.set_cons_zero,List.set_cons_succ,i64_w,i32_w]
  rfl
 refine take_ (i := 1) (N := some 6) (v := ?_) (a' := ?_) #[true,true,true,false,false,true,false,true,false,false,true,false,true,false,false,false,false,false] rfl rfl (take_ofW HT_.out HW_.out (by kernel_rfl)) (fun _ _ _ h => h) (Or.inl ⟨by rfl,?_⟩) hHeld ?_ ?_
 rotate_left
 ·rintro w' ⟨s0,s1,s2,s3,s4,s5⟩
  go_simp
  with_reducible rfl
 rotate_left
 ·simp only [Act.put,List.setIfInBounds_toArray,List.set_cons_zero,List.set_cons_succ,i64_w,i32_w]
  rfl
 refine take_ (i := 3) (N := some 8) (v := ?_) (a' := ?_) #[true,true,true,true,false,true,false,true,false,false,true,false,true,false,false,false,false,false] rfl rfl (take_ofW HT_.out HW_.out (by kernel_rfl)) (fun _ _ _ h => h) (Or.inl ⟨by rfl,?_⟩) hHeld ?_ ?_
 rotate_left
 ·rintro w' ⟨s0,s1,s2,s3,s4,s5⟩
  go_simp
  with_reducible rfl
 rotate_left
 ·simp only [Act.put,List.setIfInBounds_toArray,List.set_cons_zero,List.set_cons_succ,i64_w,i32_w]
  rfl
 refine take_ (i := 6) (N := some 11) (v := ?_) (a' := ?_) #[true,true,true,true,false,true,true,true,false,false,true,false,true,false,false,false,false,false] rfl rfl (take_ofW HT_.out HW_.out (by kernel_rfl)) (fun _ _ _ h => h) (Or.inl ⟨by rfl,?_⟩) hHeld ?_ ?_
 rotate_left
 ·rintro w' ⟨s0,s1,s2,s3,s4,s5⟩
  go_simp
  with_reducible rfl
 rotate_left
 ·simp only [Act.put,List.setIfInBounds_toArray,List.set_cons_zero,List.set_cons_succ,i64_w,i32_w]
  rfl
 refine take_ (i := 8) (N := some 13) (v := ?_) (a' := ?_) #[true,true,true,true,false,true,true,true,true,false,true,false,true,false,false,false,false,false] rfl rfl (take_ofW HT_.out HW_.out (by kernel_rfl)) (fun _ _ _ h => h) (Or.inl ⟨by rfl,?_⟩) hHeld ?_ ?_
 rotate_left
 ·rintro w' ⟨s0,s1,s2,s3,s4,s5⟩
  go_simp
  with_reducible rfl
 rotate_left
 ·simp only [Act.put,List.setIfInBounds_toArray,List.set_cons_zero,List.set_cons_succ,i64_w,i32_w]
  rfl
 refine take_ (i := 11) (N := some 16) (v := ?_) (a' := ?_) #[true,true,true,true,false,true,true,true,true,false,true,true,true,false,false,false,false,false] rfl rfl (take_ofW HT_.out HW_.out (by kernel_rfl)) (fun _ _ _ h => h) (Or.inl ⟨by rfl,?_⟩) hHeld ?_ ?_
 rotate_left
 ·rintro w' ⟨s0,s1,s2,s3,s4,s5⟩
  go_simp
  with_reducible rfl
 rotate_left
 ·simp only [Act.put,List.setIfInBounds_toArray,List.set_cons_zero,List.set_cons_succ,i64_w,i32_w]
  rfl
 refine take_ (i := 13) (N := some 18) (v := ?_) (a' := ?_) #[true,true,true,true,false,true,true,true,true,false,true,true,true,true,false,false,false,false] rfl rfl (take_ofW HT_.out HW_.out (by kernel_rfl)) (fun _ _ _ h => h) (Or.inl ⟨by rfl,?_⟩) hHeld ?_ ?_
 rotate_left
 ·rintro w' ⟨s0,s1,s2,s3,s4,s5⟩
  go_simp
  with_reducible rfl
 rotate_left
 ·simp only [Act.put,List.setIfInBounds_toArray,List.set_cons_zero,List.set_cons_succ,i64_w,i32_w]
  rfl
 refine one_ (i := 4) (N := some 9) #[true,true,true,true,true,true,true,true,true,false,true,true,true,true,false,false,false,false] rfl rfl (one_of HT_.out (by kernel_rfl)) (by decide) (fun K hK => ?_)
 refine goes_ Tryz.func174 (by kernel_rfl) rfl #[.int .i64 a0_0,.int .i64 a1_0] (by rfl) rfl rfl (by first|rfl|(simp only [List.map_toArray,List.map_cons,List.map_nil,List.length_drop,List.length_take];rfl)|simp only [List.map_toArray,List.map_cons,List.map_nil]) ?_
 with_reducible refine (cmp_Compare_int.calls a0_0 a1_0 t166 _ (by first|exact hG|exact GL.below hG (by repeat (first|(with_reducible first|exact HB.out|apply qab|apply qaa|apply qac|refine qaf ?_ GE164.out|refine qaf ?_ GE165.out)|exact HB.out)))  A3.out).mono ?_
 rintro e w' ⟨rfl,⟨nd,rfl⟩⟩
 refine ⟨_,rfl,?_⟩
 refine hK.out _ _ ⟨(qae BK164.out 0).trans rfl,(qae BK164.out 1).trans rfl,(qae BK164.out 2).trans rfl,(qae BK165.out 0).trans rfl,(qae BK165.out 1).trans rfl,(qae BK165.out 2).trans rfl⟩ (fun hHeld => ?_)
 clear hK K
 refine norm_ (a' := ?_) ?_ ?_
 rotate_left
 ·show Act.put _ (some 9) _ = _
  simp only [Act.put,List.setIfInBounds_toArray,List.set_cons_zero,List.set_cons_succ,i64_w,i32_w]
  rfl
 refine one_ (i := 9) (N := some 14) #[true,true,true,true,true,true,true,true,true,true,true,true,true,true,false,false,false,false] rfl rfl (one_of HT_.out (by kernel_rfl)) (by decide) (fun K hK => ?_)
 refine goes_ Tryz.func175 (by kernel_rfl) rfl #[.string a0_1,.string a1_1] (by rfl) rfl rfl (by first|rfl|(simp only [List.map_toArray,List.map_cons,List.map_nil,List.length_drop,List.length_take];rfl)|simp only [List.map_toArray,List.map_cons,List.map_nil]) ?_
 with_reducible refine (version_CompareText.calls k a0_1 a1_1 t167 _ (by first|exact hG|exact GL.below hG (by repeat (first|(with_reducible first|exact HB.out|apply qab|apply qaa|apply qac|refine qaf ?_ GE164.out|refine qaf ?_ GE165.out)|exact HB.out)))  A4.out).mono ?_
 rintro e w10 ⟨rfl,hb⟩
 refine ⟨_,rfl,?_⟩
 have n0_ := Aside0.mk (qaq (g := gb164) (o := .cells #[.int .i64 a0_0,.string a0_1,.string a0_2] 128 (0,0)) (by (with_reducible repeat (first|refine qah ?_ _|refine qai ?_|refine qag ?_ _));exact BK164.out) hb)
 have n1_ := Aside0.mk (qaq (g := gb165) (o := .cells #[.int .i64 a1_0,.string a1_1,.string a1_2] 128 (0,0)) (by (with_reducible repeat (first|refine qah ?_ _|refine qai ?_|refine qag ?_ _));exact BK165.out) hb)
 have n2_ := Aside0.mk (qan (by repeat (first|(with_reducible first|exact HB.out|apply qab|apply qaa|apply qac|refine qaf ?_ GE164.out|refine qaf ?_ GE165.out)|exact HB.out)) hb)
 clear BK164
 clear BK165
 clear HB
 have BK164 := n0_
 have BK165 := n1_
 have HB := n2_
 clear n0_ n1_ n2_
 (try clear hb)
 (try clear hb2)
 (try clear hk)
 (try clear hi)
 refine hK.out _ _ ⟨(qae BK164.out 0).trans rfl,(qae BK164.out 1).trans rfl,(qae BK164.out 2).trans rfl,(qae BK165.out 0).trans rfl,(qae BK165.out 1).trans rfl,(qae BK165.out 2).trans rfl⟩ (fun hHeld => ?_)
 clear hK K
 refine norm_ (a' := ?_) ?_ ?_
 rotate_left
 ·show Act.put _ (some 14) _ = _
  simp only [Act.put,List.setIfInBounds_toArray,List.set_cons_zero,List.set_cons_succ,i64_w,i32_w]
  rfl
 refine one_ (i := 14) (N := some 19) #[true,true,true,true,true,true,true,true,true,true,true,true,true,true,true,false,false,false] rfl rfl (one_of HT_.out (by kernel_rfl)) (by decide) (fun K hK => ?_)
 refine goes_ Tryz.func175 (by kernel_rfl) rfl #[.string a0_2,.string a1_2] (by rfl) rfl rfl (by first|rfl|(simp only [List.map_toArray,List.map_cons,List.map_nil,List.length_drop,List.length_take];rfl)|simp only [List.map_toArray,List.map_cons,List.map_nil]) ?_
 with_reducible refine (version_CompareText.calls k a0_2 a1_2 t168 _ (by first|exact hG|exact GL.below hG (by repeat (first|(with_reducible first|exact HB.out|apply qab|apply qaa|apply qac|refine qaf ?_ GE164.out|refine qaf ?_ GE165.out)|exact HB.out)))  A5.out).mono ?_
 rintro e w11 ⟨rfl,hb⟩
 refine ⟨_,rfl,?_⟩
 have n0_ := Aside0.mk (qaq (g := gb164) (o := .cells #[.int .i64 a0_0,.string a0_1,.string a0_2] 128 (0,0)) (by (with_reducible repeat (first|refine qah ?_ _|refine qai ?_|refine qag ?_ _));exact BK164.out) hb)
 have n1_ := Aside0.mk (qaq (g := gb165) (o := .cells #[.int .i64 a1_0,.string a1_1,.string a1_2] 128 (0,0)) (by (with_reducible repeat (first|refine qah ?_ _|refine qai ?_|refine qag ?_ _));exact BK165.out) hb)
 have n2_ := Aside0.mk (qan (by repeat (first|(with_reducible first|exact HB.out|apply qab|apply qaa|apply qac|refine qaf ?_ GE164.out|refine qaf ?_ GE165.out)|exact HB.out)) hb)
 clear BK164
 clear BK165
 clear HB
 have BK164 := n0_
 have BK165 := n1_
 have HB := n2_
 clear n0_ n1_ n2_
 (try clear hb)
 (try clear hb2)
 (try clear hk)
 (try clear hi)
 refine hK.out _ _ ⟨(qae BK164.out 0).trans rfl,(qae BK164.out 1).trans rfl,(qae BK164.out 2).trans rfl,(qae BK165.out 0).trans rfl,(qae BK165.out 1).trans rfl,(qae BK165.out 2).trans rfl⟩ (fun hHeld => ?_)
 clear hK K
 refine norm_ (a' := ?_) ?_ ?_
 rotate_left
 ·show Act.put _ (some 19) _ = _
  simp only [Act.put,List.setIfInBounds_toArray,List.set_cons_zero,List.set_cons_succ,i64_w,i32_w]
  rfl
 refine one_ (i := 15) (N := some 20) #[true,true,true,true,true,true,true,true,true,true,true,true,true,true,true,true,false,false] rfl rfl (one_of HT_.out (by kernel_rfl)) (by decide) (fun K hK => ?_)
 refine Kd.R_lit_step (Kd.int .i64) _ 3 ?hg (N := 20) ?hd (xs := ([t166,t167,t168] : List Int)) (inner := [.int .i64 t166,.int .i64 t167,.int .i64 t168]) (ok := fun _ => True) (okp := fun _ => True) ?hr ?hp (fun _ hk => hk) trivial (Below.refl _ _) (Nat.le_refl _) (by simp) ?_;(case hd => rfl);(case hg => rfl);(case hr => first|(go_simp;done)|(go_simp;rfl));(case hp => exact (Reps.one (show Kd.M (Kd.int .i64) _ _ _ t166 [.int .i64 t166] from rfl) (Reps.one (show Kd.M (Kd.int .i64) _ _ _ t167 [.int .i64 t167] from rfl) (Reps.one (show Kd.M (Kd.int .i64) _ _ _ t168 [.int .i64 t168] from rfl) (Reps.none _ _)))))
 intro v170 w12 ho13 hb hg_ hnew_
 clear hg_ hnew_
 (first|rw [← Ny169.out] at ho13|(simp only [Int.reduceToNat] at ho13;rw [← Ny169.out] at ho13))
 have n0_ := Aside0.mk (Kd.R_lower ho13 (qao (by repeat (first|(with_reducible first|exact HB.out|apply qab|apply qaa|apply qac|refine qaf ?_ GE164.out|refine qaf ?_ GE165.out)|exact HB.out))))
 have n1_ := Aside0.mk (qaq (g := gb164) (o := .cells #[.int .i64 a0_0,.string a0_1,.string a0_2] 128 (0,0)) (by (with_reducible repeat (first|refine qah ?_ _|refine qai ?_|refine qag ?_ _));exact BK164.out) hb)
 have n2_ := Aside0.mk (qaq (g := gb165) (o := .cells #[.int .i64 a1_0,.string a1_1,.string a1_2] 128 (0,0)) (by (with_reducible repeat (first|refine qah ?_ _|refine qai ?_|refine qag ?_ _));exact BK165.out) hb)
 have n3_ := Aside0.mk (qan (by repeat (first|(with_reducible first|exact HB.out|apply qab|apply qaa|apply qac|refine qaf ?_ GE164.out|refine qaf ?_ GE165.out)|exact HB.out)) hb)
 clear BK164
 clear BK165
 clear HB
 have HO171 := n0_
 have BK164 := n1_
 have BK165 := n2_
 have HB := n3_
 clear n0_ n1_ n2_ n3_
 clear hb ho13
 obtain ⟨Ao14,co14,eo14⟩ := Kd.R_slice HO171.out
 (first|subst eo14|(injection eo14 with f1_ f2_ f3_;have f4_ := f1_.symm;have f5_ := f3_.symm;clear f1_ f2_ f3_;subst f4_;subst f5_))
 refine hK.out _ _ ⟨(qae BK164.out 0).trans rfl,(qae BK164.out 1).trans rfl,(qae BK164.out 2).trans rfl,(qae BK165.out 0).trans rfl,(qae BK165.out 1).trans rfl,(qae BK165.out 2).trans rfl⟩ (fun hHeld => ?_)
 clear hK K
 refine norm_ (a' := ?_) ?_ ?_
 rotate_left
 ·show Act.put _ (some 20) _ = _
  simp only [Act.put,List.setIfInBounds_toArray,List.set_cons_zero,List.set_cons_succ,i64_w,i32_w]
  rfl
 refine one_ (i := 16) (N := some 21) #[true,true,true,true,true,true,true,true,true,true,true,true,true,true,true,true,true,false] rfl rfl (one_of HT_.out (by kernel_rfl)) (by decide) (fun K hK => ?_)
 refine goes_ Tryz.func55 (by kernel_rfl) rfl #[.slice Ao14 y169.length co14] (by rfl) rfl rfl (by first|rfl|(simp only [List.map_toArray,List.map_cons,List.map_nil,List.length_drop,List.length_take];rfl)|simp only [List.map_toArray,List.map_cons,List.map_nil]) ?_
 with_reducible refine (cmp_Or_int.calls k _ _ y169 t172 _ (by first|exact hG|exact GL.below hG (by repeat (first|(with_reducible first|exact HB.out|apply qab|apply qaa|apply qac|refine qaf ?_ GE164.out|refine qaf ?_ GE165.out)|exact HB.out)))  ?side1 ?side2 A6.out).mono ?_
 (case side1 => repeat (first|exact (Kd.R_reads' HO171.out).2.2|(with_reducible refine Kd.C_alloc ?_ _)|(with_reducible refine Kd.C_drewN ?_ _)|(with_reducible refine Kd.C_drew ?_)))
 (case side2 => exact (Kd.R_reads' HO171.out).2.1)
 rintro e w' ⟨rfl,⟨nd,rfl⟩⟩
 refine ⟨_,rfl,?_⟩
 refine hK.out _ _ ⟨(qae BK164.out 0).trans rfl,(qae BK164.out 1).trans rfl,(qae BK164.out 2).trans rfl,(qae BK165.out 0).trans rfl,(qae BK165.out 1).trans rfl,(qae BK165.out 2).trans rfl⟩ (fun hHeld => ?_)
 clear hK K
 refine norm_ (a' := ?_) ?_ ?_
 rotate_left
 ·show Act.put _ (some 21) _ = _
  simp only [Act.put,List.setIfInBounds_toArray,List.set_cons_zero,List.set_cons_succ,i64_w,i32_w]
  rfl
 refine pure_ (i := 17) (N := some 4) (v := ?_) (a' := ?_) #[true,true,true,true,true,true,true,true,true,true,true,true,true,true,true,true,true,true] rfl rfl (any_of HT_.out (by kernel_rfl)) (fun _ _ _ h => h) (Or.inl ⟨by rfl,?_⟩) ?_ ?_
 rotate_left
 ·intro w'
  go_simp
  with_reducible rfl
 rotate_left
 ·simp only [Act.put,List.setIfInBounds_toArray,List.set_cons_zero,List.set_cons_succ,i64_w,i32_w]
  rfl
 refine done_ (done_of HT_.out (by kernel_rfl)) ?_
 try go_wp2
 go_ret
 exact ⟨by first|rfl|(simp [qaj,qak]<;>rfl)|(simp [*,qaj,qak]<;>rfl),by repeat (first|(with_reducible first|exact HB.out|apply qab|apply qaa|apply qac|refine qaf ?_ GE164.out|refine qaf ?_ GE165.out)|exact HB.out)⟩
def relation_Holds.j0 : Nat → Int → Bool → Int → ByteArray → ByteArray → Int → ByteArray → ByteArray → Option (Bool)
 | 0,_,_,_,_,_,_,_,_ => none
 | k + 1,x0,x29,x178000,x178001,x178002,x183000,x183001,x183002 => if x29 = true then (some false) else ((version_Compare.f k x178000 x178001 x178002 x183000 x183001 x183002).bind fun t183 => (if x0 = 1 then (some (decide (t183 < 0))) else (if x0 = 2 then (some (decide (t183 ≤ 0))) else (if x0 = 3 then (some (t183 == 0)) else (if x0 = 4 then (some (decide (t183 ≥ 0))) else (if x0 = 5 then (some (decide (t183 > 0))) else (some false)))))))
def relation_Holds.f (k : Nat) (a0 : Int) (a1 : ByteArray) (a2 : ByteArray) : Option (Bool) := if a0 = 0 then (some true) else ((version_Parse.f k a1).bind fun bt173 => ((version_Parse.f k a2).bind fun bt178 => (if bt173.2.2.2 = 0 then (relation_Holds.j0 k a0 (bt178.2.2.2 != 0) bt173.1 bt173.2.1 bt173.2.2.1 bt178.1 bt178.2.1 bt178.2.2.1) else (relation_Holds.j0 k a0 true bt173.1 bt173.2.1 bt173.2.2.1 bt178.1 bt178.2.1 bt178.2.2.1))))
theorem relation_Holds.mono_l : ∀ k,(∀ y0 y1 y2 y3 y4 y5 y6 y7,LeO (relation_Holds.j0 k y0 y1 y2 y3 y4 y5 y6 y7) (relation_Holds.j0 (k + 1) y0 y1 y2 y3 y4 y5 y6 y7))
 | 0 => fun _ _ _ _ _ _ _ _ r h => by simp [relation_Holds.j0] at h
 | k + 1 => by
  have ih0 := relation_Holds.mono_l k
  ·intro y0 y1 y2 y3 y4 y5 y6 y7
   unfold relation_Holds.j0
   repeat' first
   | (with_reducible exact ih0 _ _ _ _ _ _ _ _)
   | (with_reducible exact version_Compare.mono _ _ _ _ _ _ _)
   | (with_reducible exact version_Parse.mono _ _)
   | (with_reducible exact LeO.refl _)
   | (with_reducible exact LeO.none _)
   | (with_reducible refine LeO.ite ?_ ?_)
   | (with_reducible refine LeO.bind ?_ (fun _ => ?_))
   | exact ih0 _ _ _ _ _ _ _ _
   | exact version_Compare.mono _ _ _ _ _ _ _
   | exact version_Parse.mono _ _
   | exact LeO.none _
   | refine LeO.ite ?_ ?_
   | refine LeO.bind ?_ (fun _ => ?_)
theorem relation_Holds.mono : ∀ a0 a1 a2 k,LeO (relation_Holds.f k a0 a1 a2) (relation_Holds.f (k + 1) a0 a1 a2) := by
 intro a0 a1 a2 k
 have ih0 := relation_Holds.mono_l k
 unfold relation_Holds.f
 repeat' first
   | (with_reducible exact ih0 _ _ _ _ _ _ _ _)
   | (with_reducible exact version_Compare.mono _ _ _ _ _ _ _)
   | (with_reducible exact version_Parse.mono _ _)
   | (with_reducible exact LeO.refl _)
   | (with_reducible exact LeO.none _)
   | (with_reducible refine LeO.ite ?_ ?_)
   | (with_reducible refine LeO.bind ?_ (fun _ => ?_))
   | exact ih0 _ _ _ _ _ _ _ _
   | exact version_Compare.mono _ _ _ _ _ _ _
   | exact version_Parse.mono _ _
   | exact LeO.none _
   | refine LeO.ite ?_ ?_
   | refine LeO.bind ?_ (fun _ => ?_)
theorem relation_Holds.calls (k : Nat) (a0 : Int) (a1 : ByteArray) (a2 : ByteArray) (r : Bool) (w : World) (hG : GL w) (h : relation_Holds.f k a0 a1 a2 = some r) :
  Calls Tryz.prog 167 #[.int .i64 a0,.string a1,.string a2] w fun e w' => e = .returned (.bool r) ∧ Below w.heap.size w w' := by
 have hu128 := Tryz.underlying128
 have HB := Aside0.mk (Below.refl w.heap.size w)
 have H : (if a0 = 0 then (some true) else ((version_Parse.f k a1).bind fun bt173 => ((version_Parse.f k a2).bind fun bt178 => (if bt173.2.2.2 = 0 then (relation_Holds.j0 k a0 (bt178.2.2.2 != 0) bt173.1 bt173.2.1 bt173.2.2.1 bt178.1 bt178.2.1 bt178.2.2.1) else (relation_Holds.j0 k a0 true bt173.1 bt173.2.1 bt173.2.2.1 bt178.1 bt178.2.1 bt178.2.2.1))))) = some r := h
 clear h
 by_cases c4 : a0 = 0
 ·rw [if_pos c4] at H
  have c4b0 : (a0 == 0) = true := beq_iff_eq.mpr c4
  have c4b1 : (a0 != 0) = false := bne_eq_false_iff_eq.mpr c4
  clear c4
  obtain rfl := Option.some.inj H
  go_enter Tryz.func167,Tryz.ntmps167
  go_wp2
  go_ret
  exact ⟨by first|rfl|(simp [qaj,qak]<;>rfl)|(simp [*,qaj,qak]<;>rfl),by repeat (with_reducible first|exact HB.out|apply qab|apply qaa|apply qac)⟩
 ·rw [if_neg c4] at H
  have c4b0 : (a0 == 0) = false := beq_eq_false_iff_ne.mpr c4
  have c4b1 : (a0 != 0) = true := bne_iff_ne.mpr c4
  replace H := Option.bind_eq_some_iff.mp H
  obtain ⟨⟨t173,t174,t175,t176⟩,A50,H⟩ := H
  replace H : ((version_Parse.f k a2).bind fun bt178 => (if t176 = 0 then (relation_Holds.j0 k a0 (bt178.2.2.2 != 0) t173 t174 t175 bt178.1 bt178.2.1 bt178.2.2.1) else (relation_Holds.j0 k a0 true t173 t174 t175 bt178.1 bt178.2.1 bt178.2.2.1))) = some r := H
  have A5 := Aside0.mk A50
  clear A50
  replace H := Option.bind_eq_some_iff.mp H
  obtain ⟨⟨t178,t179,t180,t181⟩,A60,H⟩ := H
  replace H : (if t176 = 0 then (relation_Holds.j0 k a0 (t181 != 0) t173 t174 t175 t178 t179 t180) else (relation_Holds.j0 k a0 true t173 t174 t175 t178 t179 t180)) = some r := H
  have A6 := Aside0.mk A60
  clear A60
  have HC7 := Aside0.mk H
  clear H
  go_enter Tryz.func167,Tryz.ntmps167
  go_upto_region 5 with (first|((with_reducible refine qal (f := 115) rfl ?_);refine goesL_ (some 16) rfl rfl Tryz.func115 (by kernel_rfl) rfl #[.string a1] rfl (by first|rfl|(simp only [List.map_toArray,List.map_cons,List.map_nil,List.length_drop,List.length_take];rfl)|simp only [List.map_toArray,List.map_cons,List.map_nil]) ?_;(with_reducible refine (version_Parse.calls k a1 t173 t174 t175 t176 _ (by first|exact hG|exact GL.below hG (by repeat (with_reducible first|exact HB.out|apply qab|apply qaa|apply qac)))  A5.out).mono ?_);rintro e w8 ⟨rfl,hb⟩;refine ⟨_,rfl,?_⟩;have n0_ := Aside0.mk (qan (by repeat (with_reducible first|exact HB.out|apply qab|apply qaa|apply qac)) hb);clear HB;have HB := n0_;clear n0_;(try clear hb);(try clear hb2);(try clear hk);(try clear hi))|((with_reducible refine gate_dst (N := 7) rfl ?_);refine box_event ?hg (N := 7) ?hd (cs := #[.int .i64 0,.string (⟨#[]⟩ : ByteArray),.string (⟨#[]⟩ : ByteArray)]) (t := 128) ?hr ?_;(case hd => rfl);(case hg => rfl);(case hr => first|(go_simp;done)|(go_simp;rfl));intro gb177 hg w9 hbox hb;have n0_ := Aside0.mk (qan (by repeat (with_reducible first|exact HB.out|apply qab|apply qaa|apply qac)) hb);have n1_ := Aside0.mk (hbox);have n2_ := Aside0.mk ((by rw [hg];exact (qao (by repeat (with_reducible first|exact HB.out|apply qab|apply qaa|apply qac))) : w.heap.size ≤ gb177));have n3_ := Aside0.mk ((by rw [hg];exact (qao (by repeat (with_reducible first|exact HB.out|apply qab|apply qaa|apply qac))) : w.heap.size ≤ gb177));clear HB;have HB := n0_;have BK177 := n1_;have GW177 := n2_;have GE177 := n3_;clear n0_ n1_ n2_ n3_;clear hb hbox hg;have hcz10_0 : w9.cell? ⟨gb177,0,none⟩ = some (.int .i64 0) := (qae BK177.out 0).trans rfl;have hcz10_1 : w9.cell? ⟨gb177,1,none⟩ = some (.string (⟨#[]⟩ : ByteArray)) := (qae BK177.out 1).trans rfl;have hcz10_2 : w9.cell? ⟨gb177,2,none⟩ = some (.string (⟨#[]⟩ : ByteArray)) := (qae BK177.out 2).trans rfl;have hfz10_0 := qad BK177.out 0;have hfz10_1 := qad BK177.out 1;have hfz10_2 := qad BK177.out 2)|((with_reducible refine qal (f := 115) rfl ?_);refine goesL_ (some 21) rfl rfl Tryz.func115 (by kernel_rfl) rfl #[.string a2] rfl (by first|rfl|(simp only [List.map_toArray,List.map_cons,List.map_nil,List.length_drop,List.length_take];rfl)|simp only [List.map_toArray,List.map_cons,List.map_nil]) ?_;(with_reducible refine (version_Parse.calls k a2 t178 t179 t180 t181 _ (by first|exact hG|exact GL.below hG (by repeat (first|(with_reducible first|exact HB.out|apply qab|apply qaa|apply qac|refine qaf ?_ GE177.out)|exact HB.out)))  A6.out).mono ?_);rintro e w11 ⟨rfl,hb⟩;refine ⟨_,rfl,?_⟩;have n0_ := Aside0.mk (qaq (g := gb177) (o := .cells #[.int .i64 t173,.string t174,.string t175] 128 (0,0)) (by (with_reducible repeat (first|refine qah ?_ _|refine qai ?_|refine qag ?_ _));refine blk_put (cs := #[.int .i64 t173,.string t174,.string (⟨#[]⟩ : ByteArray)]) ?_ 2 _ rfl;(with_reducible repeat (first|refine qah ?_ _|refine qai ?_|refine qag ?_ _));refine blk_put (cs := #[.int .i64 t173,.string (⟨#[]⟩ : ByteArray),.string (⟨#[]⟩ : ByteArray)]) ?_ 1 _ rfl;(with_reducible repeat (first|refine qah ?_ _|refine qai ?_|refine qag ?_ _));refine blk_put (cs := #[.int .i64 0,.string (⟨#[]⟩ : ByteArray),.string (⟨#[]⟩ : ByteArray)]) ?_ 0 _ rfl;(with_reducible repeat (first|refine qah ?_ _|refine qai ?_|refine qag ?_ _));exact BK177.out) hb);have n1_ := Aside0.mk (qan (by repeat (first|(with_reducible first|exact HB.out|apply qab|apply qaa|apply qac|refine qaf ?_ GE177.out)|exact HB.out)) hb);clear BK177;clear HB;have BK177 := n0_;have HB := n1_;clear n0_ n1_;(try clear hb);(try clear hb2);(try clear hk);(try clear hi))|((with_reducible refine gate_dst (N := 9) rfl ?_);refine box_event ?hg (N := 9) ?hd (cs := #[.int .i64 0,.string (⟨#[]⟩ : ByteArray),.string (⟨#[]⟩ : ByteArray)]) (t := 128) ?hr ?_;(case hd => rfl);(case hg => rfl);(case hr => first|(go_simp;done)|(go_simp;rfl));intro gb182 hg w12 hbox hb;have n0_ := Aside0.mk (qaq (g := gb177) (o := .cells #[.int .i64 t173,.string t174,.string t175] 128 (0,0)) (by (with_reducible repeat (first|refine qah ?_ _|refine qai ?_|refine qag ?_ _));exact BK177.out) hb);have n1_ := Aside0.mk (qan (by repeat (first|(with_reducible first|exact HB.out|apply qab|apply qaa|apply qac|refine qaf ?_ GE177.out)|exact HB.out)) hb);have n2_ := Aside0.mk (hbox);have n3_ := Aside0.mk ((by rw [hg];exact (qao (by repeat (first|(with_reducible first|exact HB.out|apply qab|apply qaa|apply qac|refine qaf ?_ GE177.out)|exact HB.out))) : w.heap.size ≤ gb182));have n4_ := Aside0.mk ((by rw [hg];exact (qao (by repeat (first|(with_reducible first|exact HB.out|apply qab|apply qaa|apply qac|refine qaf ?_ GE177.out)|exact HB.out))) : w.heap.size ≤ gb182));have n5_ := Aside0.mk ((by rw [hg];exact Nat.ne_of_lt (blk_lt (g := gb177) (o := .cells #[.int .i64 t173,.string t174,.string t175] 128 (0,0)) (by (with_reducible repeat (first|refine qah ?_ _|refine qai ?_|refine qag ?_ _));exact BK177.out)) : gb177 ≠ gb182));have n6_ := Aside0.mk ((by rw [hg];exact Nat.ne_of_gt (blk_lt (g := gb177) (o := .cells #[.int .i64 t173,.string t174,.string t175] 128 (0,0)) (by (with_reducible repeat (first|refine qah ?_ _|refine qai ?_|refine qag ?_ _));exact BK177.out)) : gb182 ≠ gb177));clear BK177;clear HB;have BK177 := n0_;have HB := n1_;have BK182 := n2_;have GW182 := n3_;have GE182 := n4_;have NB177_182 := n5_;have NB182_177 := n6_;clear n0_ n1_ n2_ n3_ n4_ n5_ n6_;clear hb hbox hg;have hnb13 := NB182_177.out;have hnc13 := NB177_182.out;have hcz14_0 : w12.cell? ⟨gb182,0,none⟩ = some (.int .i64 0) := (qae BK182.out 0).trans rfl;have hcz14_1 : w12.cell? ⟨gb182,1,none⟩ = some (.string (⟨#[]⟩ : ByteArray)) := (qae BK182.out 1).trans rfl;have hcz14_2 : w12.cell? ⟨gb182,2,none⟩ = some (.string (⟨#[]⟩ : ByteArray)) := (qae BK182.out 2).trans rfl;have hfz14_0 := qad BK182.out 0;have hfz14_1 := qad BK182.out 1;have hfz14_2 := qad BK182.out 2))
  (try simp only [Act.put,List.setIfInBounds_toArray,List.set_cons_zero,List.set_cons_succ])
  go_cut [29] (fun v29 wc => ∃ (kq : Nat) (x29_6 : Bool),v29 = .bool x29_6 ∧ Aside0 (relation_Holds.j0 kq a0 x29_6 t173 t174 t175 t178 t179 t180 = some r) ∧ Aside0 (kq ≤ k) ∧ Aside0 (wc.heap[gb177]? = some (.cells #[.int .i64 t173,.string t174,.string t175] 128 (0,0))) ∧ Aside0 (wc.heap[gb182]? = some (.cells #[.int .i64 t178,.string t179,.string t180] 128 (0,0))) ∧ Aside0 (Below w.heap.size w wc))
  case first =>
   have H := HC7.out
   clear HC7
   by_cases c15 : t176 = 0
   ·rw [if_pos c15] at H
    have c15b0 : (t176 == 0) = true := beq_iff_eq.mpr c15
    have c15b1 : (t176 != 0) = false := bne_eq_false_iff_eq.mpr c15
    clear c15
    (first|rw [c15b0]|(simp only [i64_w,i32_w];rw [c15b0]) | skip)
    have H' := Aside0.mk H
    clear H
    go_wp2
    go_meet
    case rel => exact ⟨_,((t181 != 0)),(by first|rfl|(simp;done)|(simp [*];done)|(simp [qam];done)),H',⟨by first|omega|exact Nat.le_refl _⟩,⟨by (with_reducible repeat (first|refine qah ?_ _|refine qai ?_|refine qag ?_ _));refine blk_far ?_ NB177_182.out _;(with_reducible repeat (first|refine qah ?_ _|refine qai ?_|refine qag ?_ _));refine blk_far ?_ NB177_182.out _;(with_reducible repeat (first|refine qah ?_ _|refine qai ?_|refine qag ?_ _));refine blk_far ?_ NB177_182.out _;(with_reducible repeat (first|refine qah ?_ _|refine qai ?_|refine qag ?_ _));exact BK177.out⟩,⟨by (with_reducible repeat (first|refine qah ?_ _|refine qai ?_|refine qag ?_ _));refine blk_put (cs := #[.int .i64 t178,.string t179,.string (⟨#[]⟩ : ByteArray)]) ?_ 2 _ rfl;(with_reducible repeat (first|refine qah ?_ _|refine qai ?_|refine qag ?_ _));refine blk_put (cs := #[.int .i64 t178,.string (⟨#[]⟩ : ByteArray),.string (⟨#[]⟩ : ByteArray)]) ?_ 1 _ rfl;(with_reducible repeat (first|refine qah ?_ _|refine qai ?_|refine qag ?_ _));refine blk_put (cs := #[.int .i64 0,.string (⟨#[]⟩ : ByteArray),.string (⟨#[]⟩ : ByteArray)]) ?_ 0 _ rfl;(with_reducible repeat (first|refine qah ?_ _|refine qai ?_|refine qag ?_ _));exact BK182.out⟩,⟨by repeat (first|(with_reducible first|exact HB.out|apply qab|apply qaa|apply qac|refine qaf ?_ GE177.out|refine qaf ?_ GE182.out)|exact HB.out)⟩⟩
   ·rw [if_neg c15] at H
    have c15b0 : (t176 == 0) = false := beq_eq_false_iff_ne.mpr c15
    have c15b1 : (t176 != 0) = true := bne_iff_ne.mpr c15
    (first|rw [c15b0]|(simp only [i64_w,i32_w];rw [c15b0]) | skip)
    have H' := Aside0.mk H
    clear H
    go_wp2
    go_meet
    case rel => exact ⟨_,(true),(by first|rfl|(simp;done)|(simp [*];done)|(simp [qam];done)),H',⟨by first|omega|exact Nat.le_refl _⟩,⟨by (with_reducible repeat (first|refine qah ?_ _|refine qai ?_|refine qag ?_ _));refine blk_far ?_ NB177_182.out _;(with_reducible repeat (first|refine qah ?_ _|refine qai ?_|refine qag ?_ _));refine blk_far ?_ NB177_182.out _;(with_reducible repeat (first|refine qah ?_ _|refine qai ?_|refine qag ?_ _));refine blk_far ?_ NB177_182.out _;(with_reducible repeat (first|refine qah ?_ _|refine qai ?_|refine qag ?_ _));exact BK177.out⟩,⟨by (with_reducible repeat (first|refine qah ?_ _|refine qai ?_|refine qag ?_ _));refine blk_put (cs := #[.int .i64 t178,.string t179,.string (⟨#[]⟩ : ByteArray)]) ?_ 2 _ rfl;(with_reducible repeat (first|refine qah ?_ _|refine qai ?_|refine qag ?_ _));refine blk_put (cs := #[.int .i64 t178,.string (⟨#[]⟩ : ByteArray),.string (⟨#[]⟩ : ByteArray)]) ?_ 1 _ rfl;(with_reducible repeat (first|refine qah ?_ _|refine qai ?_|refine qag ?_ _));refine blk_put (cs := #[.int .i64 0,.string (⟨#[]⟩ : ByteArray),.string (⟨#[]⟩ : ByteArray)]) ?_ 0 _ rfl;(with_reducible repeat (first|refine qah ?_ _|refine qai ?_|refine qag ?_ _));exact BK182.out⟩,⟨by repeat (first|(with_reducible first|exact HB.out|apply qab|apply qaa|apply qac|refine qaf ?_ GE177.out|refine qaf ?_ GE182.out)|exact HB.out)⟩⟩
  case rest =>
   clear HC7
   try clear c1
   try clear p2
   try clear c4
   try clear c4b0
   try clear c4b1
   try clear c11
   try clear c13
   try clear c15
   try clear c15b0
   try clear c15b1
   try clear hcz10_0
   try clear hcz10_1
   try clear hcz10_2
   try clear hcz14_0
   try clear hcz14_1
   try clear hcz14_2
   try clear hfz10_0
   try clear hfz10_1
   try clear hfz10_2
   try clear hfz14_0
   try clear hfz14_1
   try clear hfz14_2
   obtain ⟨kq,x29_6,rfl,HA,HJ6,BK177,BK182,HB⟩ := hcut
   cases kq with
   | zero => exact absurd HA.out (by simp [relation_Holds.j0])
   | succ kj6 =>
    have H := HA.out
    clear HA
    simp only [relation_Holds.j0] at H
    by_cases c16 : x29_6 = true
    ·subst c16
     have H1 : (some false) = some r := by rw [if_pos rfl] at H;exact H
     clear H
     have H := H1
     clear H1
     obtain rfl := Option.some.inj H
     go_wp2
     go_ret
     exact ⟨by first|rfl|(simp [qaj,qak]<;>rfl)|(simp [*,qaj,qak]<;>rfl),by repeat (first|(with_reducible first|exact HB.out|apply qab|apply qaa|apply qac|refine qaf ?_ GE177.out|refine qaf ?_ GE182.out)|exact HB.out)⟩
    ·replace c16 := Bool.eq_false_iff.mpr c16
     subst c16
     have H1 : ((version_Compare.f kj6 t173 t174 t175 t178 t179 t180).bind fun t183 => (if a0 = 1 then (some (decide (t183 < 0))) else (if a0 = 2 then (some (decide (t183 ≤ 0))) else (if a0 = 3 then (some (t183 == 0)) else (if a0 = 4 then (some (decide (t183 ≥ 0))) else (if a0 = 5 then (some (decide (t183 > 0))) else (some false))))))) = some r := by rw [if_neg (show ¬ (false = true) by decide)] at H;exact H
     clear H
     have H := H1
     clear H1
     replace H := Option.bind_eq_some_iff.mp H
     obtain ⟨t183,A170,H⟩ := H
     replace H : (if a0 = 1 then (some (decide (t183 < 0))) else (if a0 = 2 then (some (decide (t183 ≤ 0))) else (if a0 = 3 then (some (t183 == 0)) else (if a0 = 4 then (some (decide (t183 ≥ 0))) else (if a0 = 5 then (some (decide (t183 > 0))) else (some false)))))) = some r := H
     have A17 := Aside0.mk A170
     clear A170
     by_cases c18 : a0 = 1
     ·rw [if_pos c18] at H
      have c18b0 : (a0 == 1) = true := beq_iff_eq.mpr c18
      have c18b1 : (a0 != 1) = false := bne_eq_false_iff_eq.mpr c18
      clear c18
      obtain rfl := Option.some.inj H
      have hnb19 := NB177_182.out
      have hnc19 := NB182_177.out
      have hcz20_0 : wc.cell? ⟨gb177,0,none⟩ = some (.int .i64 t173) := (qae BK177.out 0).trans rfl
      have hcz20_1 : wc.cell? ⟨gb177,1,none⟩ = some (.string t174) := (qae BK177.out 1).trans rfl
      have hcz20_2 : wc.cell? ⟨gb177,2,none⟩ = some (.string t175) := (qae BK177.out 2).trans rfl
      have hfz20_0 := qad BK177.out 0
      have hfz20_1 := qad BK177.out 1
      have hfz20_2 := qad BK177.out 2
      have hcz21_0 : wc.cell? ⟨gb182,0,none⟩ = some (.int .i64 t178) := (qae BK182.out 0).trans rfl
      have hcz21_1 : wc.cell? ⟨gb182,1,none⟩ = some (.string t179) := (qae BK182.out 1).trans rfl
      have hcz21_2 : wc.cell? ⟨gb182,2,none⟩ = some (.string t180) := (qae BK182.out 2).trans rfl
      have hfz21_0 := qad BK182.out 0
      have hfz21_1 := qad BK182.out 1
      have hfz21_2 := qad BK182.out 2
      go_wp2_with (first|((with_reducible refine qal (f := 116) rfl ?_);refine goesL_ (some 32) rfl rfl Tryz.func116 (by kernel_rfl) rfl #[.agg #[.int .i64 t173,.string t174,.string t175],.agg #[.int .i64 t178,.string t179,.string t180]] rfl (by first|rfl|(simp only [List.map_toArray,List.map_cons,List.map_nil,List.length_drop,List.length_take];rfl)|simp only [List.map_toArray,List.map_cons,List.map_nil]) ?_;(with_reducible refine (version_Compare.calls kj6 t173 t174 t175 t178 t179 t180 t183 _ (by first|exact hG|exact GL.below hG (by repeat (first|(with_reducible first|exact HB.out|apply qab|apply qaa|apply qac|refine qaf ?_ GE177.out|refine qaf ?_ GE182.out)|exact HB.out)))  A17.out).mono ?_);rintro e w22 ⟨rfl,hb⟩;refine ⟨_,rfl,?_⟩;have n0_ := Aside0.mk (qaq (g := gb177) (o := .cells #[.int .i64 t173,.string t174,.string t175] 128 (0,0)) (by (with_reducible repeat (first|refine qah ?_ _|refine qai ?_|refine qag ?_ _));exact BK177.out) hb);have n1_ := Aside0.mk (qaq (g := gb182) (o := .cells #[.int .i64 t178,.string t179,.string t180] 128 (0,0)) (by (with_reducible repeat (first|refine qah ?_ _|refine qai ?_|refine qag ?_ _));exact BK182.out) hb);have n2_ := Aside0.mk (qan (by repeat (first|(with_reducible first|exact HB.out|apply qab|apply qaa|apply qac|refine qaf ?_ GE177.out|refine qaf ?_ GE182.out)|exact HB.out)) hb);clear BK177;clear BK182;clear HB;have BK177 := n0_;have BK182 := n1_;have HB := n2_;clear n0_ n1_ n2_;(try clear hb);(try clear hb2);(try clear hk);(try clear hi)))
      go_ret
      exact ⟨by first|rfl|(simp [qaj,qak]<;>rfl)|(simp [*,qaj,qak]<;>rfl),by repeat (first|(with_reducible first|exact HB.out|apply qab|apply qaa|apply qac|refine qaf ?_ GE177.out|refine qaf ?_ GE182.out)|exact HB.out)⟩
     ·rw [if_neg c18] at H
      have c18b0 : (a0 == 1) = false := beq_eq_false_iff_ne.mpr c18
      have c18b1 : (a0 != 1) = true := bne_iff_ne.mpr c18
      by_cases c23 : a0 = 2
      ·rw [if_pos c23] at H
       have c23b0 : (a0 == 2) = true := beq_iff_eq.mpr c23
       have c23b1 : (a0 != 2) = false := bne_eq_false_iff_eq.mpr c23
       clear c23
       obtain rfl := Option.some.inj H
       have hnb24 := NB177_182.out
       have hnc24 := NB182_177.out
       have hcz25_0 : wc.cell? ⟨gb177,0,none⟩ = some (.int .i64 t173) := (qae BK177.out 0).trans rfl
       have hcz25_1 : wc.cell? ⟨gb177,1,none⟩ = some (.string t174) := (qae BK177.out 1).trans rfl
       have hcz25_2 : wc.cell? ⟨gb177,2,none⟩ = some (.string t175) := (qae BK177.out 2).trans rfl
       have hfz25_0 := qad BK177.out 0
       have hfz25_1 := qad BK177.out 1
       have hfz25_2 := qad BK177.out 2
       have hcz26_0 : wc.cell? ⟨gb182,0,none⟩ = some (.int .i64 t178) := (qae BK182.out 0).trans rfl
       have hcz26_1 : wc.cell? ⟨gb182,1,none⟩ = some (.string t179) := (qae BK182.out 1).trans rfl
       have hcz26_2 : wc.cell? ⟨gb182,2,none⟩ = some (.string t180) := (qae BK182.out 2).trans rfl
       have hfz26_0 := qad BK182.out 0
       have hfz26_1 := qad BK182.out 1
       have hfz26_2 := qad BK182.out 2
       go_wp2_with (first|((with_reducible refine qal (f := 116) rfl ?_);refine goesL_ (some 32) rfl rfl Tryz.func116 (by kernel_rfl) rfl #[.agg #[.int .i64 t173,.string t174,.string t175],.agg #[.int .i64 t178,.string t179,.string t180]] rfl (by first|rfl|(simp only [List.map_toArray,List.map_cons,List.map_nil,List.length_drop,List.length_take];rfl)|simp only [List.map_toArray,List.map_cons,List.map_nil]) ?_;(with_reducible refine (version_Compare.calls kj6 t173 t174 t175 t178 t179 t180 t183 _ (by first|exact hG|exact GL.below hG (by repeat (first|(with_reducible first|exact HB.out|apply qab|apply qaa|apply qac|refine qaf ?_ GE177.out|refine qaf ?_ GE182.out)|exact HB.out)))  A17.out).mono ?_);rintro e w27 ⟨rfl,hb⟩;refine ⟨_,rfl,?_⟩;have n0_ := Aside0.mk (qaq (g := gb177) (o := .cells #[.int .i64 t173,.string t174,.string t175] 128 (0,0)) (by (with_reducible repeat (first|refine qah ?_ _|refine qai ?_|refine qag ?_ _));exact BK177.out) hb);have n1_ := Aside0.mk (qaq (g := gb182) (o := .cells #[.int .i64 t178,.string t179,.string t180] 128 (0,0)) (by (with_reducible repeat (first|refine qah ?_ _|refine qai ?_|refine qag ?_ _));exact BK182.out) hb);have n2_ := Aside0.mk (qan (by repeat (first|(with_reducible first|exact HB.out|apply qab|apply qaa|apply qac|refine qaf ?_ GE177.out|refine qaf ?_ GE182.out)|exact HB.out)) hb);clear BK177;clear BK182;clear HB;have BK177 := n0_;have BK182 := n1_;have HB := n2_;clear n0_ n1_ n2_;(try clear hb);(try clear hb2);(try clear hk);(try clear hi)))
       go_ret
       exact ⟨by first|rfl|(simp [qaj,qak]<;>rfl)|(simp [*,qaj,qak]<;>rfl),by repeat (first|(with_reducible first|exact HB.out|apply qab|apply qaa|apply qac|refine qaf ?_ GE177.out|refine qaf ?_ GE182.out)|exact HB.out)⟩
      ·rw [if_neg c23] at H
       have c23b0 : (a0 == 2) = false := beq_eq_false_iff_ne.mpr c23
       have c23b1 : (a0 != 2) = true := bne_iff_ne.mpr c23
       by_cases c28 : a0 = 3
       ·rw [if_pos c28] at H
        have c28b0 : (a0 == 3) = true := beq_iff_eq.mpr c28
        have c28b1 : (a0 != 3) = false := bne_eq_false_iff_eq.mpr c28
        clear c28
        obtain rfl := Option.some.inj H
        have hnb29 := NB177_182.out
        have hnc29 := NB182_177.out
        have hcz30_0 : wc.cell? ⟨gb177,0,none⟩ = some (.int .i64 t173) := (qae BK177.out 0).trans rfl
        have hcz30_1 : wc.cell? ⟨gb177,1,none⟩ = some (.string t174) := (qae BK177.out 1).trans rfl
        have hcz30_2 : wc.cell? ⟨gb177,2,none⟩ = some (.string t175) := (qae BK177.out 2).trans rfl
        have hfz30_0 := qad BK177.out 0
        have hfz30_1 := qad BK177.out 1
        have hfz30_2 := qad BK177.out 2
        have hcz31_0 : wc.cell? ⟨gb182,0,none⟩ = some (.int .i64 t178) := (qae BK182.out 0).trans rfl
        have hcz31_1 : wc.cell? ⟨gb182,1,none⟩ = some (.string t179) := (qae BK182.out 1).trans rfl
        have hcz31_2 : wc.cell? ⟨gb182,2,none⟩ = some (.string t180) := (qae BK182.out 2).trans rfl
        have hfz31_0 := qad BK182.out 0
        have hfz31_1 := qad BK182.out 1
        have hfz31_2 := qad BK182.out 2
        go_wp2_with (first|((with_reducible refine qal (f := 116) rfl ?_);refine goesL_ (some 32) rfl rfl Tryz.func116 (by kernel_rfl) rfl #[.agg #[.int .i64 t173,.string t174,.string t175],.agg #[.int .i64 t178,.string t179,.string t180]] rfl (by first|rfl|(simp only [List.map_toArray,List.map_cons,List.map_nil,List.length_drop,List.length_take];rfl)|simp only [List.map_toArray,List.map_cons,List.map_nil]) ?_;(with_reducible refine (version_Compare.calls kj6 t173 t174 t175 t178 t179 t180 t183 _ (by first|exact hG|exact GL.below hG (by repeat (first|(with_reducible first|exact HB.out|apply qab|apply qaa|apply qac|refine qaf ?_ GE177.out|refine qaf ?_ GE182.out)|exact HB.out)))  A17.out).mono ?_);rintro e w32 ⟨rfl,hb⟩;refine ⟨_,rfl,?_⟩;have n0_ := Aside0.mk (qaq (g := gb177) (o := .cells #[.int .i64 t173,.string t174,.string t175] 128 (0,0)) (by (with_reducible repeat (first|refine qah ?_ _|refine qai ?_|refine qag ?_ _));exact BK177.out) hb);have n1_ := Aside0.mk (qaq (g := gb182) (o := .cells #[.int .i64 t178,.string t179,.string t180] 128 (0,0)) (by (with_reducible repeat (first|refine qah ?_ _|refine qai ?_|refine qag ?_ _));exact BK182.out) hb);have n2_ := Aside0.mk (qan (by repeat (first|(with_reducible first|exact HB.out|apply qab|apply qaa|apply qac|refine qaf ?_ GE177.out|refine qaf ?_ GE182.out)|exact HB.out)) hb);clear BK177;clear BK182;clear HB;have BK177 := n0_;have BK182 := n1_;have HB := n2_;clear n0_ n1_ n2_;(try clear hb);(try clear hb2);(try clear hk);(try clear hi)))
        go_ret
        exact ⟨by first|rfl|(simp [qaj,qak]<;>rfl)|(simp [*,qaj,qak]<;>rfl),by repeat (first|(with_reducible first|exact HB.out|apply qab|apply qaa|apply qac|refine qaf ?_ GE177.out|refine qaf ?_ GE182.out)|exact HB.out)⟩
       ·rw [if_neg c28] at H
        have c28b0 : (a0 == 3) = false := beq_eq_false_iff_ne.mpr c28
        have c28b1 : (a0 != 3) = true := bne_iff_ne.mpr c28
        by_cases c33 : a0 = 4
        ·rw [if_pos c33] at H
         have c33b0 : (a0 == 4) = true := beq_iff_eq.mpr c33
         have c33b1 : (a0 != 4) = false := bne_eq_false_iff_eq.mpr c33
         clear c33
         obtain rfl := Option.some.inj H
         have hnb34 := NB177_182.out
         have hnc34 := NB182_177.out
         have hcz35_0 : wc.cell? ⟨gb177,0,none⟩ = some (.int .i64 t173) := (qae BK177.out 0).trans rfl
         have hcz35_1 : wc.cell? ⟨gb177,1,none⟩ = some (.string t174) := (qae BK177.out 1).trans rfl
         have hcz35_2 : wc.cell? ⟨gb177,2,none⟩ = some (.string t175) := (qae BK177.out 2).trans rfl
         have hfz35_0 := qad BK177.out 0
         have hfz35_1 := qad BK177.out 1
         have hfz35_2 := qad BK177.out 2
         have hcz36_0 : wc.cell? ⟨gb182,0,none⟩ = some (.int .i64 t178) := (qae BK182.out 0).trans rfl
         have hcz36_1 : wc.cell? ⟨gb182,1,none⟩ = some (.string t179) := (qae BK182.out 1).trans rfl
         have hcz36_2 : wc.cell? ⟨gb182,2,none⟩ = some (.string t180) := (qae BK182.out 2).trans rfl
         have hfz36_0 := qad BK182.out 0
         have hfz36_1 := qad BK182.out 1
         have hfz36_2 := qad BK182.out 2
         go_wp2_with (first|((with_reducible refine qal (f := 116) rfl ?_);refine goesL_ (some 32) rfl rfl Tryz.func116 (by kernel_rfl) rfl #[.agg #[.int .i64 t173,.string t174,.string t175],.agg #[.int .i64 t178,.string t179,.string t180]] rfl (by first|rfl|(simp only [List.map_toArray,List.map_cons,List.map_nil,List.length_drop,List.length_take];rfl)|simp only [List.map_toArray,List.map_cons,List.map_nil]) ?_;(with_reducible refine (version_Compare.calls kj6 t173 t174 t175 t178 t179 t180 t183 _ (by first|exact hG|exact GL.below hG (by repeat (first|(with_reducible first|exact HB.out|apply qab|apply qaa|apply qac|refine qaf ?_ GE177.out|refine qaf ?_ GE182.out)|exact HB.out)))  A17.out).mono ?_);rintro e w37 ⟨rfl,hb⟩;refine ⟨_,rfl,?_⟩;have n0_ := Aside0.mk (qaq (g := gb177) (o := .cells #[.int .i64 t173,.string t174,.string t175] 128 (0,0)) (by (with_reducible repeat (first|refine qah ?_ _|refine qai ?_|refine qag ?_ _));exact BK177.out) hb);have n1_ := Aside0.mk (qaq (g := gb182) (o := .cells #[.int .i64 t178,.string t179,.string t180] 128 (0,0)) (by (with_reducible repeat (first|refine qah ?_ _|refine qai ?_|refine qag ?_ _));exact BK182.out) hb);have n2_ := Aside0.mk (qan (by repeat (first|(with_reducible first|exact HB.out|apply qab|apply qaa|apply qac|refine qaf ?_ GE177.out|refine qaf ?_ GE182.out)|exact HB.out)) hb);clear BK177;clear BK182;clear HB;have BK177 := n0_;have BK182 := n1_;have HB := n2_;clear n0_ n1_ n2_;(try clear hb);(try clear hb2);(try clear hk);(try clear hi)))
         go_ret
         exact ⟨by first|rfl|(simp [qaj,qak]<;>rfl)|(simp [*,qaj,qak]<;>rfl),by repeat (first|(with_reducible first|exact HB.out|apply qab|apply qaa|apply qac|refine qaf ?_ GE177.out|refine qaf ?_ GE182.out)|exact HB.out)⟩
        ·rw [if_neg c33] at H
         have c33b0 : (a0 == 4) = false := beq_eq_false_iff_ne.mpr c33
         have c33b1 : (a0 != 4) = true := bne_iff_ne.mpr c33
         by_cases c38 : a0 = 5
         ·rw [if_pos c38] at H
          have c38b0 : (a0 == 5) = true := beq_iff_eq.mpr c38
          have c38b1 : (a0 != 5) = false := bne_eq_false_iff_eq.mpr c38
          clear c38
          obtain rfl := Option.some.inj H
          have hnb39 := NB177_182.out
          have hnc39 := NB182_177.out
          have hcz40_0 : wc.cell? ⟨gb177,0,none⟩ = some (.int .i64 t173) := (qae BK177.out 0).trans rfl
          have hcz40_1 : wc.cell? ⟨gb177,1,none⟩ = some (.string t174) := (qae BK177.out 1).trans rfl
          have hcz40_2 : wc.cell? ⟨gb177,2,none⟩ = some (.string t175) := (qae BK177.out 2).trans rfl
          have hfz40_0 := qad BK177.out 0
          have hfz40_1 := qad BK177.out 1
          have hfz40_2 := qad BK177.out 2
          have hcz41_0 : wc.cell? ⟨gb182,0,none⟩ = some (.int .i64 t178) := (qae BK182.out 0).trans rfl
          have hcz41_1 : wc.cell? ⟨gb182,1,none⟩ = some (.string t179) := (qae BK182.out 1).trans rfl
          have hcz41_2 : wc.cell? ⟨gb182,2,none⟩ = some (.string t180) := (qae BK182.out 2).trans rfl
          have hfz41_0 := qad BK182.out 0
          have hfz41_1 := qad BK182.out 1
          have hfz41_2 := qad BK182.out 2
          go_wp2_with (first|((with_reducible refine qal (f := 116) rfl ?_);refine goesL_ (some 32) rfl rfl Tryz.func116 (by kernel_rfl) rfl #[.agg #[.int .i64 t173,.string t174,.string t175],.agg #[.int .i64 t178,.string t179,.string t180]] rfl (by first|rfl|(simp only [List.map_toArray,List.map_cons,List.map_nil,List.length_drop,List.length_take];rfl)|simp only [List.map_toArray,List.map_cons,List.map_nil]) ?_;(with_reducible refine (version_Compare.calls kj6 t173 t174 t175 t178 t179 t180 t183 _ (by first|exact hG|exact GL.below hG (by repeat (first|(with_reducible first|exact HB.out|apply qab|apply qaa|apply qac|refine qaf ?_ GE177.out|refine qaf ?_ GE182.out)|exact HB.out)))  A17.out).mono ?_);rintro e w42 ⟨rfl,hb⟩;refine ⟨_,rfl,?_⟩;have n0_ := Aside0.mk (qaq (g := gb177) (o := .cells #[.int .i64 t173,.string t174,.string t175] 128 (0,0)) (by (with_reducible repeat (first|refine qah ?_ _|refine qai ?_|refine qag ?_ _));exact BK177.out) hb);have n1_ := Aside0.mk (qaq (g := gb182) (o := .cells #[.int .i64 t178,.string t179,.string t180] 128 (0,0)) (by (with_reducible repeat (first|refine qah ?_ _|refine qai ?_|refine qag ?_ _));exact BK182.out) hb);have n2_ := Aside0.mk (qan (by repeat (first|(with_reducible first|exact HB.out|apply qab|apply qaa|apply qac|refine qaf ?_ GE177.out|refine qaf ?_ GE182.out)|exact HB.out)) hb);clear BK177;clear BK182;clear HB;have BK177 := n0_;have BK182 := n1_;have HB := n2_;clear n0_ n1_ n2_;(try clear hb);(try clear hb2);(try clear hk);(try clear hi)))
          go_ret
          exact ⟨by first|rfl|(simp [qaj,qak]<;>rfl)|(simp [*,qaj,qak]<;>rfl),by repeat (first|(with_reducible first|exact HB.out|apply qab|apply qaa|apply qac|refine qaf ?_ GE177.out|refine qaf ?_ GE182.out)|exact HB.out)⟩
         ·rw [if_neg c38] at H
          have c38b0 : (a0 == 5) = false := beq_eq_false_iff_ne.mpr c38
          have c38b1 : (a0 != 5) = true := bne_iff_ne.mpr c38
          obtain rfl := Option.some.inj H
          have hnb43 := NB177_182.out
          have hnc43 := NB182_177.out
          have hcz44_0 : wc.cell? ⟨gb177,0,none⟩ = some (.int .i64 t173) := (qae BK177.out 0).trans rfl
          have hcz44_1 : wc.cell? ⟨gb177,1,none⟩ = some (.string t174) := (qae BK177.out 1).trans rfl
          have hcz44_2 : wc.cell? ⟨gb177,2,none⟩ = some (.string t175) := (qae BK177.out 2).trans rfl
          have hfz44_0 := qad BK177.out 0
          have hfz44_1 := qad BK177.out 1
          have hfz44_2 := qad BK177.out 2
          have hcz45_0 : wc.cell? ⟨gb182,0,none⟩ = some (.int .i64 t178) := (qae BK182.out 0).trans rfl
          have hcz45_1 : wc.cell? ⟨gb182,1,none⟩ = some (.string t179) := (qae BK182.out 1).trans rfl
          have hcz45_2 : wc.cell? ⟨gb182,2,none⟩ = some (.string t180) := (qae BK182.out 2).trans rfl
          have hfz45_0 := qad BK182.out 0
          have hfz45_1 := qad BK182.out 1
          have hfz45_2 := qad BK182.out 2
          go_wp2_with (first|((with_reducible refine qal (f := 116) rfl ?_);refine goesL_ (some 32) rfl rfl Tryz.func116 (by kernel_rfl) rfl #[.agg #[.int .i64 t173,.string t174,.string t175],.agg #[.int .i64 t178,.string t179,.string t180]] rfl (by first|rfl|(simp only [List.map_toArray,List.map_cons,List.map_nil,List.length_drop,List.length_take];rfl)|simp only [List.map_toArray,List.map_cons,List.map_nil]) ?_;(with_reducible refine (version_Compare.calls kj6 t173 t174 t175 t178 t179 t180 t183 _ (by first|exact hG|exact GL.below hG (by repeat (first|(with_reducible first|exact HB.out|apply qab|apply qaa|apply qac|refine qaf ?_ GE177.out|refine qaf ?_ GE182.out)|exact HB.out)))  A17.out).mono ?_);rintro e w46 ⟨rfl,hb⟩;refine ⟨_,rfl,?_⟩;have n0_ := Aside0.mk (qaq (g := gb177) (o := .cells #[.int .i64 t173,.string t174,.string t175] 128 (0,0)) (by (with_reducible repeat (first|refine qah ?_ _|refine qai ?_|refine qag ?_ _));exact BK177.out) hb);have n1_ := Aside0.mk (qaq (g := gb182) (o := .cells #[.int .i64 t178,.string t179,.string t180] 128 (0,0)) (by (with_reducible repeat (first|refine qah ?_ _|refine qai ?_|refine qag ?_ _));exact BK182.out) hb);have n2_ := Aside0.mk (qan (by repeat (first|(with_reducible first|exact HB.out|apply qab|apply qaa|apply qac|refine qaf ?_ GE177.out|refine qaf ?_ GE182.out)|exact HB.out)) hb);clear BK177;clear BK182;clear HB;have BK177 := n0_;have BK182 := n1_;have HB := n2_;clear n0_ n1_ n2_;(try clear hb);(try clear hb2);(try clear hk);(try clear hi)))
          go_ret
          exact ⟨by first|rfl|(simp [qaj,qak]<;>rfl)|(simp [*,qaj,qak]<;>rfl),by repeat (first|(with_reducible first|exact HB.out|apply qab|apply qaa|apply qac|refine qaf ?_ GE177.out|refine qaf ?_ GE182.out)|exact HB.out)⟩
def relation_Provides.f (k : Nat) (a0_0 : ByteArray) (a0_1 : Int) (a0_2 : ByteArray) (a1_0 : ByteArray) (a1_1 : Int) (a1_2 : ByteArray) : Option (Bool) := if a0_0.toList = a1_0.toList then (if a0_1 = 0 then (some true) else (if a1_1 = 3 then ((relation_Holds.f k a0_1 a1_2 a0_2).bind fun t186 => (some t186)) else (some false))) else (some false)
theorem relation_Provides.mono : ∀ a0 a1 a2 a3 a4 a5 k,LeO (relation_Provides.f k a0 a1 a2 a3 a4 a5) (relation_Provides.f (k + 1) a0 a1 a2 a3 a4 a5) := by
 intro a0 a1 a2 a3 a4 a5 k
 unfold relation_Provides.f
 repeat' first
   | (with_reducible exact relation_Holds.mono _ _ _ _)
   | (with_reducible exact LeO.refl _)
   | (with_reducible exact LeO.none _)
   | (with_reducible refine LeO.ite ?_ ?_)
   | (with_reducible refine LeO.bind ?_ (fun _ => ?_))
   | exact relation_Holds.mono _ _ _ _
   | exact LeO.none _
   | refine LeO.ite ?_ ?_
   | refine LeO.bind ?_ (fun _ => ?_)
theorem relation_Provides.calls (k : Nat) (a0_0 : ByteArray) (a0_1 : Int) (a0_2 : ByteArray) (a1_0 : ByteArray) (a1_1 : Int) (a1_2 : ByteArray) (r : Bool) (w : World) (hG : GL w) (h : relation_Provides.f k a0_0 a0_1 a0_2 a1_0 a1_1 a1_2 = some r) :
  Calls Tryz.prog 113 #[.agg #[.string a0_0,.int .i64 a0_1,.string a0_2],.agg #[.string a1_0,.int .i64 a1_1,.string a1_2]] w fun e w' => e = .returned (.bool r) ∧ Below w.heap.size w w' := by
 have hu27 := Tryz.underlying27
 have HB := Aside0.mk (Below.refl w.heap.size w)
 have H : (if a0_0.toList = a1_0.toList then (if a0_1 = 0 then (some true) else (if a1_1 = 3 then ((relation_Holds.f k a0_1 a1_2 a0_2).bind fun t186 => (some t186)) else (some false))) else (some false)) = some r := h
 clear h
 by_cases c3 : a0_0.toList = a1_0.toList
 ·rw [if_pos c3] at H
  have c3b0 : (a0_0.toList == a1_0.toList) = true := beq_iff_eq.mpr c3
  have c3b1 : (a0_0.toList != a1_0.toList) = false := bne_eq_false_iff_eq.mpr c3
  clear c3
  by_cases c4 : a0_1 = 0
  ·rw [if_pos c4] at H
   have c4b0 : (a0_1 == 0) = true := beq_iff_eq.mpr c4
   have c4b1 : (a0_1 != 0) = false := bne_eq_false_iff_eq.mpr c4
   clear c4
   obtain rfl := Option.some.inj H
   go_enter Tryz.func113,Tryz.ntmps113
   go_wp2_with (first|((with_reducible refine gate_dst (N := 2) rfl ?_);refine box_event ?hg (N := 2) ?hd (cs := #[.string a0_0,.int .i64 a0_1,.string a0_2]) (t := 27) ?hr ?_;(case hd => rfl);(case hg => rfl);(case hr => first|(go_simp;done)|(go_simp;rfl));intro gb184 hg w5 hbox hb;have n0_ := Aside0.mk (qan (by repeat (with_reducible first|exact HB.out|apply qab|apply qaa|apply qac)) hb);have n1_ := Aside0.mk (hbox);have n2_ := Aside0.mk ((by rw [hg];exact (qao (by repeat (with_reducible first|exact HB.out|apply qab|apply qaa|apply qac))) : w.heap.size ≤ gb184));have n3_ := Aside0.mk ((by rw [hg];exact (qao (by repeat (with_reducible first|exact HB.out|apply qab|apply qaa|apply qac))) : w.heap.size ≤ gb184));clear HB;have HB := n0_;have BK184 := n1_;have GW184 := n2_;have GE184 := n3_;clear n0_ n1_ n2_ n3_;clear hb hbox hg)|((with_reducible refine gate_dst (N := 3) rfl ?_);refine box_event ?hg (N := 3) ?hd (cs := #[.string a1_0,.int .i64 a1_1,.string a1_2]) (t := 27) ?hr ?_;(case hd => rfl);(case hg => rfl);(case hr => first|(go_simp;done)|(go_simp;rfl));intro gb185 hg w6 hbox hb;have n0_ := Aside0.mk (qaq (g := gb184) (o := .cells #[.string a0_0,.int .i64 a0_1,.string a0_2] 27 (0,0)) (by (with_reducible repeat (first|refine qah ?_ _|refine qai ?_|refine qag ?_ _));exact BK184.out) hb);have n1_ := Aside0.mk (qan (by repeat (first|(with_reducible first|exact HB.out|apply qab|apply qaa|apply qac|refine qaf ?_ GE184.out)|exact HB.out)) hb);have n2_ := Aside0.mk (hbox);have n3_ := Aside0.mk ((by rw [hg];exact (qao (by repeat (first|(with_reducible first|exact HB.out|apply qab|apply qaa|apply qac|refine qaf ?_ GE184.out)|exact HB.out))) : w.heap.size ≤ gb185));have n4_ := Aside0.mk ((by rw [hg];exact (qao (by repeat (first|(with_reducible first|exact HB.out|apply qab|apply qaa|apply qac|refine qaf ?_ GE184.out)|exact HB.out))) : w.heap.size ≤ gb185));have n5_ := Aside0.mk ((by rw [hg];exact Nat.ne_of_lt (blk_lt (g := gb184) (o := .cells #[.string a0_0,.int .i64 a0_1,.string a0_2] 27 (0,0)) (by (with_reducible repeat (first|refine qah ?_ _|refine qai ?_|refine qag ?_ _));exact BK184.out)) : gb184 ≠ gb185));have n6_ := Aside0.mk ((by rw [hg];exact Nat.ne_of_gt (blk_lt (g := gb184) (o := .cells #[.string a0_0,.int .i64 a0_1,.string a0_2] 27 (0,0)) (by (with_reducible repeat (first|refine qah ?_ _|refine qai ?_|refine qag ?_ _));exact BK184.out)) : gb185 ≠ gb184));clear BK184;clear HB;have BK184 := n0_;have HB := n1_;have BK185 := n2_;have GW185 := n3_;have GE185 := n4_;have NB184_185 := n5_;have NB185_184 := n6_;clear n0_ n1_ n2_ n3_ n4_ n5_ n6_;clear hb hbox hg;have hnb7 := NB184_185.out;have hnc7 := NB185_184.out;have hcz8_0 : w6.cell? ⟨gb184,0,none⟩ = some (.string a0_0) := (qae BK184.out 0).trans rfl;have hcz8_1 : w6.cell? ⟨gb184,1,none⟩ = some (.int .i64 a0_1) := (qae BK184.out 1).trans rfl;have hcz8_2 : w6.cell? ⟨gb184,2,none⟩ = some (.string a0_2) := (qae BK184.out 2).trans rfl;have hfz8_0 := qad BK184.out 0;have hfz8_1 := qad BK184.out 1;have hfz8_2 := qad BK184.out 2;have hcz9_0 : w6.cell? ⟨gb185,0,none⟩ = some (.string a1_0) := (qae BK185.out 0).trans rfl;have hcz9_1 : w6.cell? ⟨gb185,1,none⟩ = some (.int .i64 a1_1) := (qae BK185.out 1).trans rfl;have hcz9_2 : w6.cell? ⟨gb185,2,none⟩ = some (.string a1_2) := (qae BK185.out 2).trans rfl;have hfz9_0 := qad BK185.out 0;have hfz9_1 := qad BK185.out 1;have hfz9_2 := qad BK185.out 2))
   go_ret
   exact ⟨by first|rfl|(simp [qaj,qak]<;>rfl)|(simp [*,qaj,qak]<;>rfl),by repeat (first|(with_reducible first|exact HB.out|apply qab|apply qaa|apply qac|refine qaf ?_ GE184.out|refine qaf ?_ GE185.out)|exact HB.out)⟩
  ·rw [if_neg c4] at H
   have c4b0 : (a0_1 == 0) = false := beq_eq_false_iff_ne.mpr c4
   have c4b1 : (a0_1 != 0) = true := bne_iff_ne.mpr c4
   by_cases c10 : a1_1 = 3
   ·rw [if_pos c10] at H
    have c10b0 : (a1_1 == 3) = true := beq_iff_eq.mpr c10
    have c10b1 : (a1_1 != 3) = false := bne_eq_false_iff_eq.mpr c10
    clear c10
    replace H := Option.bind_eq_some_iff.mp H
    obtain ⟨t186,A110,H⟩ := H
    replace H : (some t186) = some r := H
    have A11 := Aside0.mk A110
    clear A110
    obtain rfl := Option.some.inj H
    go_enter Tryz.func113,Tryz.ntmps113
    go_wp2_with (first|((with_reducible refine gate_dst (N := 2) rfl ?_);refine box_event ?hg (N := 2) ?hd (cs := #[.string a0_0,.int .i64 a0_1,.string a0_2]) (t := 27) ?hr ?_;(case hd => rfl);(case hg => rfl);(case hr => first|(go_simp;done)|(go_simp;rfl));intro gb184 hg w12 hbox hb;have n0_ := Aside0.mk (qan (by repeat (with_reducible first|exact HB.out|apply qab|apply qaa|apply qac)) hb);have n1_ := Aside0.mk (hbox);have n2_ := Aside0.mk ((by rw [hg];exact (qao (by repeat (with_reducible first|exact HB.out|apply qab|apply qaa|apply qac))) : w.heap.size ≤ gb184));have n3_ := Aside0.mk ((by rw [hg];exact (qao (by repeat (with_reducible first|exact HB.out|apply qab|apply qaa|apply qac))) : w.heap.size ≤ gb184));clear HB;have HB := n0_;have BK184 := n1_;have GW184 := n2_;have GE184 := n3_;clear n0_ n1_ n2_ n3_;clear hb hbox hg)|((with_reducible refine gate_dst (N := 3) rfl ?_);refine box_event ?hg (N := 3) ?hd (cs := #[.string a1_0,.int .i64 a1_1,.string a1_2]) (t := 27) ?hr ?_;(case hd => rfl);(case hg => rfl);(case hr => first|(go_simp;done)|(go_simp;rfl));intro gb185 hg w13 hbox hb;have n0_ := Aside0.mk (qaq (g := gb184) (o := .cells #[.string a0_0,.int .i64 a0_1,.string a0_2] 27 (0,0)) (by (with_reducible repeat (first|refine qah ?_ _|refine qai ?_|refine qag ?_ _));exact BK184.out) hb);have n1_ := Aside0.mk (qan (by repeat (first|(with_reducible first|exact HB.out|apply qab|apply qaa|apply qac|refine qaf ?_ GE184.out)|exact HB.out)) hb);have n2_ := Aside0.mk (hbox);have n3_ := Aside0.mk ((by rw [hg];exact (qao (by repeat (first|(with_reducible first|exact HB.out|apply qab|apply qaa|apply qac|refine qaf ?_ GE184.out)|exact HB.out))) : w.heap.size ≤ gb185));have n4_ := Aside0.mk ((by rw [hg];exact (qao (by repeat (first|(with_reducible first|exact HB.out|apply qab|apply qaa|apply qac|refine qaf ?_ GE184.out)|exact HB.out))) : w.heap.size ≤ gb185));have n5_ := Aside0.mk ((by rw [hg];exact Nat.ne_of_lt (blk_lt (g := gb184) (o := .cells #[.string a0_0,.int .i64 a0_1,.string a0_2] 27 (0,0)) (by (with_reducible repeat (first|refine qah ?_ _|refine qai ?_|refine qag ?_ _));exact BK184.out)) : gb184 ≠ gb185));have n6_ := Aside0.mk ((by rw [hg];exact Nat.ne_of_gt (blk_lt (g := gb184) (o := .cells #[.string a0_0,.int .i64 a0_1,.string a0_2] 27 (0,0)) (by (with_reducible repeat (first|refine qah ?_ _|refine qai ?_|refine qag ?_ _));exact BK184.out)) : gb185 ≠ gb184));clear BK184;clear HB;have BK184 := n0_;have HB := n1_;have BK185 := n2_;have GW185 := n3_;have GE185 := n4_;have NB184_185 := n5_;have NB185_184 := n6_;clear n0_ n1_ n2_ n3_ n4_ n5_ n6_;clear hb hbox hg;have hnb14 := NB184_185.out;have hnc14 := NB185_184.out;have hcz15_0 : w13.cell? ⟨gb184,0,none⟩ = some (.string a0_0) := (qae BK184.out 0).trans rfl;have hcz15_1 : w13.cell? ⟨gb184,1,none⟩ = some (.int .i64 a0_1) := (qae BK184.out 1).trans rfl;have hcz15_2 : w13.cell? ⟨gb184,2,none⟩ = some (.string a0_2) := (qae BK184.out 2).trans rfl;have hfz15_0 := qad BK184.out 0;have hfz15_1 := qad BK184.out 1;have hfz15_2 := qad BK184.out 2;have hcz16_0 : w13.cell? ⟨gb185,0,none⟩ = some (.string a1_0) := (qae BK185.out 0).trans rfl;have hcz16_1 : w13.cell? ⟨gb185,1,none⟩ = some (.int .i64 a1_1) := (qae BK185.out 1).trans rfl;have hcz16_2 : w13.cell? ⟨gb185,2,none⟩ = some (.string a1_2) := (qae BK185.out 2).trans rfl;have hfz16_0 := qad BK185.out 0;have hfz16_1 := qad BK185.out 1;have hfz16_2 := qad BK185.out 2)|(go_at_call 167;(with_reducible refine (relation_Holds.calls k a0_1 a1_2 a0_2 t186 _ (by first|exact hG|exact GL.below hG (by repeat (first|(with_reducible first|exact HB.out|apply qab|apply qaa|apply qac|refine qaf ?_ GE184.out|refine qaf ?_ GE185.out)|exact HB.out)))  A11.out).mono ?_);rintro e w17 ⟨rfl,hb⟩;have n0_ := Aside0.mk (qaq (g := gb184) (o := .cells #[.string a0_0,.int .i64 a0_1,.string a0_2] 27 (0,0)) (by (with_reducible repeat (first|refine qah ?_ _|refine qai ?_|refine qag ?_ _));exact BK184.out) hb);have n1_ := Aside0.mk (qaq (g := gb185) (o := .cells #[.string a1_0,.int .i64 a1_1,.string a1_2] 27 (0,0)) (by (with_reducible repeat (first|refine qah ?_ _|refine qai ?_|refine qag ?_ _));exact BK185.out) hb);have n2_ := Aside0.mk (qan (by repeat (first|(with_reducible first|exact HB.out|apply qab|apply qaa|apply qac|refine qaf ?_ GE184.out|refine qaf ?_ GE185.out)|exact HB.out)) hb);clear BK184;clear BK185;clear HB;have BK184 := n0_;have BK185 := n1_;have HB := n2_;clear n0_ n1_ n2_;(try clear hb);(try clear hb2);(try clear hk);(try clear hi)))
    go_ret
    exact ⟨by first|rfl|(simp [qaj,qak]<;>rfl)|(simp [*,qaj,qak]<;>rfl),by repeat (first|(with_reducible first|exact HB.out|apply qab|apply qaa|apply qac|refine qaf ?_ GE184.out|refine qaf ?_ GE185.out)|exact HB.out)⟩
   ·rw [if_neg c10] at H
    have c10b0 : (a1_1 == 3) = false := beq_eq_false_iff_ne.mpr c10
    have c10b1 : (a1_1 != 3) = true := bne_iff_ne.mpr c10
    obtain rfl := Option.some.inj H
    go_enter Tryz.func113,Tryz.ntmps113
    go_wp2_with (first|((with_reducible refine gate_dst (N := 2) rfl ?_);refine box_event ?hg (N := 2) ?hd (cs := #[.string a0_0,.int .i64 a0_1,.string a0_2]) (t := 27) ?hr ?_;(case hd => rfl);(case hg => rfl);(case hr => first|(go_simp;done)|(go_simp;rfl));intro gb184 hg w18 hbox hb;have n0_ := Aside0.mk (qan (by repeat (with_reducible first|exact HB.out|apply qab|apply qaa|apply qac)) hb);have n1_ := Aside0.mk (hbox);have n2_ := Aside0.mk ((by rw [hg];exact (qao (by repeat (with_reducible first|exact HB.out|apply qab|apply qaa|apply qac))) : w.heap.size ≤ gb184));have n3_ := Aside0.mk ((by rw [hg];exact (qao (by repeat (with_reducible first|exact HB.out|apply qab|apply qaa|apply qac))) : w.heap.size ≤ gb184));clear HB;have HB := n0_;have BK184 := n1_;have GW184 := n2_;have GE184 := n3_;clear n0_ n1_ n2_ n3_;clear hb hbox hg)|((with_reducible refine gate_dst (N := 3) rfl ?_);refine box_event ?hg (N := 3) ?hd (cs := #[.string a1_0,.int .i64 a1_1,.string a1_2]) (t := 27) ?hr ?_;(case hd => rfl);(case hg => rfl);(case hr => first|(go_simp;done)|(go_simp;rfl));intro gb185 hg w19 hbox hb;have n0_ := Aside0.mk (qaq (g := gb184) (o := .cells #[.string a0_0,.int .i64 a0_1,.string a0_2] 27 (0,0)) (by (with_reducible repeat (first|refine qah ?_ _|refine qai ?_|refine qag ?_ _));exact BK184.out) hb);have n1_ := Aside0.mk (qan (by repeat (first|(with_reducible first|exact HB.out|apply qab|apply qaa|apply qac|refine qaf ?_ GE184.out)|exact HB.out)) hb);have n2_ := Aside0.mk (hbox);have n3_ := Aside0.mk ((by rw [hg];exact (qao (by repeat (first|(with_reducible first|exact HB.out|apply qab|apply qaa|apply qac|refine qaf ?_ GE184.out)|exact HB.out))) : w.heap.size ≤ gb185));have n4_ := Aside0.mk ((by rw [hg];exact (qao (by repeat (first|(with_reducible first|exact HB.out|apply qab|apply qaa|apply qac|refine qaf ?_ GE184.out)|exact HB.out))) : w.heap.size ≤ gb185));have n5_ := Aside0.mk ((by rw [hg];exact Nat.ne_of_lt (blk_lt (g := gb184) (o := .cells #[.string a0_0,.int .i64 a0_1,.string a0_2] 27 (0,0)) (by (with_reducible repeat (first|refine qah ?_ _|refine qai ?_|refine qag ?_ _));exact BK184.out)) : gb184 ≠ gb185));have n6_ := Aside0.mk ((by rw [hg];exact Nat.ne_of_gt (blk_lt (g := gb184) (o := .cells #[.string a0_0,.int .i64 a0_1,.string a0_2] 27 (0,0)) (by (with_reducible repeat (first|refine qah ?_ _|refine qai ?_|refine qag ?_ _));exact BK184.out)) : gb185 ≠ gb184));clear BK184;clear HB;have BK184 := n0_;have HB := n1_;have BK185 := n2_;have GW185 := n3_;have GE185 := n4_;have NB184_185 := n5_;have NB185_184 := n6_;clear n0_ n1_ n2_ n3_ n4_ n5_ n6_;clear hb hbox hg;have hnb20 := NB184_185.out;have hnc20 := NB185_184.out;have hcz21_0 : w19.cell? ⟨gb184,0,none⟩ = some (.string a0_0) := (qae BK184.out 0).trans rfl;have hcz21_1 : w19.cell? ⟨gb184,1,none⟩ = some (.int .i64 a0_1) := (qae BK184.out 1).trans rfl;have hcz21_2 : w19.cell? ⟨gb184,2,none⟩ = some (.string a0_2) := (qae BK184.out 2).trans rfl;have hfz21_0 := qad BK184.out 0;have hfz21_1 := qad BK184.out 1;have hfz21_2 := qad BK184.out 2;have hcz22_0 : w19.cell? ⟨gb185,0,none⟩ = some (.string a1_0) := (qae BK185.out 0).trans rfl;have hcz22_1 : w19.cell? ⟨gb185,1,none⟩ = some (.int .i64 a1_1) := (qae BK185.out 1).trans rfl;have hcz22_2 : w19.cell? ⟨gb185,2,none⟩ = some (.string a1_2) := (qae BK185.out 2).trans rfl;have hfz22_0 := qad BK185.out 0;have hfz22_1 := qad BK185.out 1;have hfz22_2 := qad BK185.out 2))
    go_ret
    exact ⟨by first|rfl|(simp [qaj,qak]<;>rfl)|(simp [*,qaj,qak]<;>rfl),by repeat (first|(with_reducible first|exact HB.out|apply qab|apply qaa|apply qac|refine qaf ?_ GE184.out|refine qaf ?_ GE185.out)|exact HB.out)⟩
 ·rw [if_neg c3] at H
  have c3b0 : (a0_0.toList == a1_0.toList) = false := beq_eq_false_iff_ne.mpr c3
  have c3b1 : (a0_0.toList != a1_0.toList) = true := bne_iff_ne.mpr c3
  obtain rfl := Option.some.inj H
  go_enter Tryz.func113,Tryz.ntmps113
  go_wp2_with (first|((with_reducible refine gate_dst (N := 2) rfl ?_);refine box_event ?hg (N := 2) ?hd (cs := #[.string a0_0,.int .i64 a0_1,.string a0_2]) (t := 27) ?hr ?_;(case hd => rfl);(case hg => rfl);(case hr => first|(go_simp;done)|(go_simp;rfl));intro gb184 hg w23 hbox hb;have n0_ := Aside0.mk (qan (by repeat (with_reducible first|exact HB.out|apply qab|apply qaa|apply qac)) hb);have n1_ := Aside0.mk (hbox);have n2_ := Aside0.mk ((by rw [hg];exact (qao (by repeat (with_reducible first|exact HB.out|apply qab|apply qaa|apply qac))) : w.heap.size ≤ gb184));have n3_ := Aside0.mk ((by rw [hg];exact (qao (by repeat (with_reducible first|exact HB.out|apply qab|apply qaa|apply qac))) : w.heap.size ≤ gb184));clear HB;have HB := n0_;have BK184 := n1_;have GW184 := n2_;have GE184 := n3_;clear n0_ n1_ n2_ n3_;clear hb hbox hg)|((with_reducible refine gate_dst (N := 3) rfl ?_);refine box_event ?hg (N := 3) ?hd (cs := #[.string a1_0,.int .i64 a1_1,.string a1_2]) (t := 27) ?hr ?_;(case hd => rfl);(case hg => rfl);(case hr => first|(go_simp;done)|(go_simp;rfl));intro gb185 hg w24 hbox hb;have n0_ := Aside0.mk (qaq (g := gb184) (o := .cells #[.string a0_0,.int .i64 a0_1,.string a0_2] 27 (0,0)) (by (with_reducible repeat (first|refine qah ?_ _|refine qai ?_|refine qag ?_ _));exact BK184.out) hb);have n1_ := Aside0.mk (qan (by repeat (first|(with_reducible first|exact HB.out|apply qab|apply qaa|apply qac|refine qaf ?_ GE184.out)|exact HB.out)) hb);have n2_ := Aside0.mk (hbox);have n3_ := Aside0.mk ((by rw [hg];exact (qao (by repeat (first|(with_reducible first|exact HB.out|apply qab|apply qaa|apply qac|refine qaf ?_ GE184.out)|exact HB.out))) : w.heap.size ≤ gb185));have n4_ := Aside0.mk ((by rw [hg];exact (qao (by repeat (first|(with_reducible first|exact HB.out|apply qab|apply qaa|apply qac|refine qaf ?_ GE184.out)|exact HB.out))) : w.heap.size ≤ gb185));have n5_ := Aside0.mk ((by rw [hg];exact Nat.ne_of_lt (blk_lt (g := gb184) (o := .cells #[.string a0_0,.int .i64 a0_1,.string a0_2] 27 (0,0)) (by (with_reducible repeat (first|refine qah ?_ _|refine qai ?_|refine qag ?_ _));exact BK184.out)) : gb184 ≠ gb185));have n6_ := Aside0.mk ((by rw [hg];exact Nat.ne_of_gt (blk_lt (g := gb184) (o := .cells #[.string a0_0,.int .i64 a0_1,.string a0_2] 27 (0,0)) (by (with_reducible repeat (first|refine qah ?_ _|refine qai ?_|refine qag ?_ _));exact BK184.out)) : gb185 ≠ gb184));clear BK184;clear HB;have BK184 := n0_;have HB := n1_;have BK185 := n2_;have GW185 := n3_;have GE185 := n4_;have NB184_185 := n5_;have NB185_184 := n6_;clear n0_ n1_ n2_ n3_ n4_ n5_ n6_;clear hb hbox hg;have hnb25 := NB184_185.out;have hnc25 := NB185_184.out;have hcz26_0 : w24.cell? ⟨gb184,0,none⟩ = some (.string a0_0) := (qae BK184.out 0).trans rfl;have hcz26_1 : w24.cell? ⟨gb184,1,none⟩ = some (.int .i64 a0_1) := (qae BK184.out 1).trans rfl;have hcz26_2 : w24.cell? ⟨gb184,2,none⟩ = some (.string a0_2) := (qae BK184.out 2).trans rfl;have hfz26_0 := qad BK184.out 0;have hfz26_1 := qad BK184.out 1;have hfz26_2 := qad BK184.out 2;have hcz27_0 : w24.cell? ⟨gb185,0,none⟩ = some (.string a1_0) := (qae BK185.out 0).trans rfl;have hcz27_1 : w24.cell? ⟨gb185,1,none⟩ = some (.int .i64 a1_1) := (qae BK185.out 1).trans rfl;have hcz27_2 : w24.cell? ⟨gb185,2,none⟩ = some (.string a1_2) := (qae BK185.out 2).trans rfl;have hfz27_0 := qad BK185.out 0;have hfz27_1 := qad BK185.out 1;have hfz27_2 := qad BK185.out 2))
  go_ret
  exact ⟨by first|rfl|(simp [qaj,qak]<;>rfl)|(simp [*,qaj,qak]<;>rfl),by repeat (first|(with_reducible first|exact HB.out|apply qab|apply qaa|apply qac|refine qaf ?_ GE184.out|refine qaf ?_ GE185.out)|exact HB.out)⟩
end Go.Proofs.YtooomjcdlfdnmaaGreatDoor.PA
