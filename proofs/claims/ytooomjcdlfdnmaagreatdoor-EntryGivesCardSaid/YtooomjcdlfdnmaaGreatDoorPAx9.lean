
import Derived.Test.YtooomjcdlfdnmaaGreatDoorPAx0
import Derived.Test.YtooomjcdlfdnmaaGreatDoorPAx7
import Derived.Test.YtooomjcdlfdnmaaGreatDoorPAx8
namespace Go.Proofs.YtooomjcdlfdnmaaGreatDoor.PA
open Go.RowKit Go.Proofs.YtooomjcdlfdnmaaGreatDoorW.PrintWords Go.Proofs.YtooomjcdlfdnmaaGreatDoorW.PrintLast Go.Proofs.YtooomjcdlfdnmaaGreatDoorW.PrintMore
attribute [local go_sem] max2_int min2_int max_two min_two max_three min_three max_four min_four
set_option maxHeartbeats 8000000
set_option maxRecDepth 100000
set_option linter.unusedVariables false
set_option linter.unusedSimpArgs false
def depends_Join.l0 : Nat → List (List (S27)) → List (S27) → Int → Int → Option (ByteArray)
 | 0,_,_,_,_ => none
 | k + 1,x3,x6,x7,x8 => if x8 < x7 then (if 0 ≤ x8 then (if x8 < (x6.length : Int) then (if x3.length < 5864062014805 then (depends_Join.l0 k (x3 ++ [(([(⟨(rd_T27 x6 x8).f0,(rd_T27 x6 x8).f1,(rd_T27 x6 x8).f2⟩ : S27)] : List (S27)))]) x6 x7 (wrap64 (x8 + 1))) else (none)) else (none)) else (none)) else ((depends_Print.f k x3).bind fun t255 => (some t255))
def depends_Join.f (k : Nat) (l0 : List (S27)) : Option (ByteArray) := depends_Join.l0 k ([] : List (List (S27))) l0 (l0.length : Int) 0
theorem depends_Join.mono_l : ∀ k,(∀ y0 y1 y2 y3,LeO (depends_Join.l0 k y0 y1 y2 y3) (depends_Join.l0 (k + 1) y0 y1 y2 y3))
 | 0 => fun _ _ _ _ r h => by simp [depends_Join.l0] at h
 | k + 1 => by
  have ih0 := depends_Join.mono_l k
  ·intro y0 y1 y2 y3
   unfold depends_Join.l0
   repeat' first
   | (with_reducible exact ih0 _ _ _ _)
   | (with_reducible exact depends_Print.mono _ _)
   | (with_reducible exact LeO.refl _)
   | (with_reducible exact LeO.none _)
   | (with_reducible refine LeO.ite ?_ ?_)
   | (with_reducible refine LeO.bind ?_ (fun _ => ?_))
   | exact ih0 _ _ _ _
   | exact depends_Print.mono _ _
   | exact LeO.none _
   | refine LeO.ite ?_ ?_
   | refine LeO.bind ?_ (fun _ => ?_)
theorem depends_Join.mono : ∀ a0 k,LeO (depends_Join.f k a0) (depends_Join.f (k + 1) a0) := by
 intro a0 k
 have ih0 := depends_Join.mono_l k
 unfold depends_Join.f
 repeat' first
   | (with_reducible exact ih0 _ _ _ _)
   | (with_reducible exact depends_Print.mono _ _)
   | (with_reducible exact LeO.refl _)
   | (with_reducible exact LeO.none _)
   | (with_reducible refine LeO.ite ?_ ?_)
   | (with_reducible refine LeO.bind ?_ (fun _ => ?_))
   | exact ih0 _ _ _ _
   | exact depends_Print.mono _ _
   | exact LeO.none _
   | refine LeO.ite ?_ ?_
   | refine LeO.bind ?_ (fun _ => ?_)
theorem depends_Join.calls (k : Nat) (A0 : Option Addr) (c0 : Nat) (l0 : List (S27)) (r : ByteArray) (w : World) (hG : GL w) (hr0 : Kd.C k27 w A0 l0.length l0) (hc0 : l0.length ≤ c0) (h : depends_Join.f k l0 = some r) :
  Calls Tryz.prog 70 #[.slice A0 l0.length c0] w fun e w' => e = .returned (.string r) ∧ Below w.heap.size w w' := by
 have hu27 := Tryz.underlying27
 have HR0 := Aside0.mk hr0
 have HC0 := Aside0.mk hc0
 clear hr0 hc0
 have HB := Aside0.mk (Below.refl w.heap.size w)
 have H : (depends_Join.l0 k ([] : List (List (S27))) l0 (l0.length : Int) 0) = some r := h
 clear h
 have H' := Aside0.mk H
 clear H
 go_enter Tryz.func70,Tryz.ntmps70
 go_wp2
 go_loopg [3,8] k (fun kq v3 v8 w' => ∃ (x3_1 : List (List (S27))) (x8_1 : Int),v8 = .int .i64 x8_1 ∧ Aside0 (depends_Join.l0 kq x3_1 l0 (l0.length : Int) x8_1 = some r) ∧ Aside0 (kq ≤ k) ∧ Aside0 (Kd.S (Kd.slice 27 k27) 77 w' w.heap.size (fun _ => True) v3 x3_1) ∧ Aside0 (Below w.heap.size w w'))
 case atStart => exact ⟨(([] : List (List (S27)))),(0),(by first|rfl|(simp;done)|(simp [*];done)|(simp [qam];done)),H',⟨Nat.le_refl _⟩,⟨by first|exact Kd.S_nil _ _ _ _ _|exact Kd.N_nil _ _ _ _ _|exact Kd.V_nil _ _ _ _ _|exact Kd.Q_nil _ _ _ _ _|exact Kd.R_nil _ _ _ _ _⟩,⟨by repeat (with_reducible first|exact HB.out|apply qab|apply qaa|apply qac)⟩⟩
 case round =>
  clear H'
  obtain ⟨x3_1,x8_1,rfl,HA,HK1,HO_3,HB⟩ := hrel
  cases gk with
  | zero => exact absurd HA.out (by simp [depends_Join.l0])
  | succ k1 =>
   have H := HA.out
   clear HA
   simp only [depends_Join.l0] at H
   by_cases c2 : x8_1 < (l0.length : Int)
   ·rw [if_pos c2] at H
    have c2b0 : decide (x8_1 < (l0.length : Int)) = true := decide_eq_true c2
    clear c2
    by_cases c3 : 0 ≤ x8_1
    ·rw [if_pos c3] at H
     have c3b0 : decide (0 ≤ x8_1) = true := decide_eq_true c3
     clear c3
     by_cases c4 : x8_1 < (l0.length : Int)
     ·rw [if_pos c4] at H
      have c4b0 : decide (x8_1 < (l0.length : Int)) = true := decide_eq_true c4
      clear c4
      obtain ⟨y249,hy249⟩ : ∃ y_ : List (S27),y_ = (([(⟨(rd_T27 l0 x8_1).f0,(rd_T27 l0 x8_1).f1,(rd_T27 l0 x8_1).f2⟩ : S27)] : List (S27))) := ⟨_,rfl⟩
      replace H : (if x3_1.length < 5864062014805 then (depends_Join.l0 k1 (x3_1 ++ [y249]) l0 (l0.length : Int) (wrap64 (x8_1 + 1))) else (none)) = some r := by first|(rw [hy249];with_reducible exact H)|(have H2_ := (Option.bind_some _ _).symm.trans H;rw [hy249];with_reducible exact H2_)|(have H2_ := (Option.bind_some _ _).symm.trans H;with_reducible exact H2_) | with_reducible exact H|(rw [hy249];exact H)|exact H
      have Ny249 := Aside0.mk hy249
      clear hy249
      by_cases c5 : x3_1.length < 5864062014805
      ·rw [if_pos c5] at H
       have LMc5 := Aside0.mk c5
       clear c5
       obtain ⟨y252,hy252⟩ : ∃ y_ : List (List (S27)),y_ = (x3_1 ++ [y249]) := ⟨_,rfl⟩
       replace H : (depends_Join.l0 k1 y252 l0 (l0.length : Int) (wrap64 (x8_1 + 1))) = some r := by first|(rw [hy252];with_reducible exact H)|(have H2_ := (Option.bind_some _ _).symm.trans H;rw [hy252];with_reducible exact H2_)|(have H2_ := (Option.bind_some _ _).symm.trans H;with_reducible exact H2_) | with_reducible exact H|(rw [hy252];exact H)|exact H
       have Ny252 := Aside0.mk hy252
       clear hy252
       have H' := Aside0.mk H
       clear H
       have p247 : 0 ≤ (x8_1 : Int) := of_decide_eq_true (by assumption)
       have q247 : x8_1 < (l0.length : Int) := of_decide_eq_true (by assumption)
       obtain ⟨ad247,e247,hx247_0,hx247_1,hx247_2⟩ := at_T27 HR0.out x8_1 p247 q247
       cases e247
       replace hx247_0 := (HB.out.cell (World.block_lt_of_cell? w _ hx247_0)).trans hx247_0
       replace hx247_1 := (HB.out.cell (World.block_lt_of_cell? w _ hx247_1)).trans hx247_1
       replace hx247_2 := (HB.out.cell (World.block_lt_of_cell? w _ hx247_2)).trans hx247_2
       replace p247 := eq_true p247
       replace q247 := eq_true q247
       go_wp2_with (first|((with_reducible refine gate_dst (N := 5) rfl ?_);refine box_event ?hg (N := 5) ?hd (cs := #[.string (⟨#[]⟩ : ByteArray),.int .i64 0,.string (⟨#[]⟩ : ByteArray)]) (t := 27) ?hr ?_;(case hd => rfl);(case hg => rfl);(case hr => first|(go_simp;done)|(go_simp;rfl));intro gb248 hg w6 hbox hb;have n0_ := Aside0.mk (Kd.S_below (Kd.S_elderB (by (with_reducible repeat (first|apply Kd.S_alloc|apply Kd.S_drewN|apply Kd.S_drew));exact HO_3.out) gb248 (Nat.le_of_eq hg.symm)) hb);have n1_ := Aside0.mk (qan (by repeat (with_reducible first|exact HB.out|apply qab|apply qaa|apply qac)) hb);have n2_ := Aside0.mk (hbox);have n3_ := Aside0.mk ((by rw [hg];exact (qao (by repeat (with_reducible first|exact HB.out|apply qab|apply qaa|apply qac))) : w.heap.size ≤ gb248));have n4_ := Aside0.mk ((by rw [hg];exact (qao (by repeat (with_reducible first|exact HB.out|apply qab|apply qaa|apply qac))) : w.heap.size ≤ gb248));clear HO_3;clear HB;have HO_3 := n0_;have HB := n1_;have BK248 := n2_;have GW248 := n3_;have GE248 := n4_;clear n0_ n1_ n2_ n3_ n4_;clear hb hbox hg;have hcz7_0 : w6.cell? ⟨gb248,0,none⟩ = some (.string (⟨#[]⟩ : ByteArray)) := (qae BK248.out 0).trans rfl;have hcz7_1 : w6.cell? ⟨gb248,1,none⟩ = some (.int .i64 0) := (qae BK248.out 1).trans rfl;have hcz7_2 : w6.cell? ⟨gb248,2,none⟩ = some (.string (⟨#[]⟩ : ByteArray)) := (qae BK248.out 2).trans rfl;have hfz7_0 := qad BK248.out 0;have hfz7_1 := qad BK248.out 1;have hfz7_2 := qad BK248.out 2)|((with_reducible refine gate_dst (N := 14) rfl ?_);refine Kd.R_lit k27 _ 27 ?hg (N := 14) ?hd (xs := ([(⟨(rd_T27 l0 x8_1).f0,(rd_T27 l0 x8_1).f1,(rd_T27 l0 x8_1).f2⟩ : S27)] : List (S27))) (inner := [.string ((rd_T27 l0 x8_1).f0),.int .i64 ((rd_T27 l0 x8_1).f1),.string ((rd_T27 l0 x8_1).f2)]) (ok := fun _ => True) (okp := fun _ => True) ?hr ?hp (fun _ hk => hk) trivial (Below.refl _ _) (Nat.le_refl _) (by simp) ?_;(case hd => rfl);(case hg => rfl);(case hr => first|(go_simp;done)|(go_simp;rfl));(case hp => exact (Reps.c3 (show Kd.M k27 _ _ _ (⟨(rd_T27 l0 x8_1).f0,(rd_T27 l0 x8_1).f1,(rd_T27 l0 x8_1).f2⟩ : S27) [.string ((rd_T27 l0 x8_1).f0),.int .i64 ((rd_T27 l0 x8_1).f1),.string ((rd_T27 l0 x8_1).f2)] from (k27_mkM _ _ _ (⟨(rd_T27 l0 x8_1).f0,(rd_T27 l0 x8_1).f1,(rd_T27 l0 x8_1).f2⟩ : S27) )) (Reps.none _ _)));intro v250 w8 ho9 hb hg_ hnew_;clear hg_ hnew_;(first|rw [← Ny249.out] at ho9|(simp only [Int.reduceToNat] at ho9;rw [← Ny249.out] at ho9));have n0_ := Aside0.mk (Kd.S_elder' (by (with_reducible repeat (first|apply Kd.S_alloc|apply Kd.S_drewN|apply Kd.S_drew));exact (Kd.S_mono (Kd.S_far (p := ⟨gb248,2,none⟩) (Kd.S_far (p := ⟨gb248,1,none⟩) (Kd.S_far (p := ⟨gb248,0,none⟩) (Kd.S_mono HO_3.out (fun k_ hk => (⟨hk,hk.2⟩ : _ ∧ k_ ≠ gb248))) (fun _ hk => hk.2) (.string ((rd_T27 l0 x8_1).f0))) (fun _ hk => hk.2) (.int .i64 ((rd_T27 l0 x8_1).f1))) (fun _ hk => hk.2) (.string ((rd_T27 l0 x8_1).f2))) (fun _ h_ => h_.1))) (Kd.R_base ho9) hb);have n1_ := Aside0.mk (Kd.R_lower (Kd.R_newB ho9 (g := gb248) (o := .cells #[.string ((rd_T27 l0 x8_1).f0),.int .i64 ((rd_T27 l0 x8_1).f1),.string ((rd_T27 l0 x8_1).f2)] 27 (0,0)) (by (with_reducible repeat (first|refine qah ?_ _|refine qai ?_|refine qag ?_ _));refine blk_put (cs := #[.string ((rd_T27 l0 x8_1).f0),.int .i64 ((rd_T27 l0 x8_1).f1),.string (⟨#[]⟩ : ByteArray)]) ?_ 2 _ rfl;(with_reducible repeat (first|refine qah ?_ _|refine qai ?_|refine qag ?_ _));refine blk_put (cs := #[.string ((rd_T27 l0 x8_1).f0),.int .i64 0,.string (⟨#[]⟩ : ByteArray)]) ?_ 1 _ rfl;(with_reducible repeat (first|refine qah ?_ _|refine qai ?_|refine qag ?_ _));refine blk_put (cs := #[.string (⟨#[]⟩ : ByteArray),.int .i64 0,.string (⟨#[]⟩ : ByteArray)]) ?_ 0 _ rfl;(with_reducible repeat (first|refine qah ?_ _|refine qai ?_|refine qag ?_ _));exact BK248.out)) (qao (by repeat (first|(with_reducible first|exact HB.out|apply qab|apply qaa|apply qac|refine qaf ?_ GE248.out)|exact HB.out))));have n2_ := Aside0.mk (qaq (g := gb248) (o := .cells #[.string ((rd_T27 l0 x8_1).f0),.int .i64 ((rd_T27 l0 x8_1).f1),.string ((rd_T27 l0 x8_1).f2)] 27 (0,0)) (by (with_reducible repeat (first|refine qah ?_ _|refine qai ?_|refine qag ?_ _));refine blk_put (cs := #[.string ((rd_T27 l0 x8_1).f0),.int .i64 ((rd_T27 l0 x8_1).f1),.string (⟨#[]⟩ : ByteArray)]) ?_ 2 _ rfl;(with_reducible repeat (first|refine qah ?_ _|refine qai ?_|refine qag ?_ _));refine blk_put (cs := #[.string ((rd_T27 l0 x8_1).f0),.int .i64 0,.string (⟨#[]⟩ : ByteArray)]) ?_ 1 _ rfl;(with_reducible repeat (first|refine qah ?_ _|refine qai ?_|refine qag ?_ _));refine blk_put (cs := #[.string (⟨#[]⟩ : ByteArray),.int .i64 0,.string (⟨#[]⟩ : ByteArray)]) ?_ 0 _ rfl;(with_reducible repeat (first|refine qah ?_ _|refine qai ?_|refine qag ?_ _));exact BK248.out) hb);have n3_ := Aside0.mk (qan (by repeat (first|(with_reducible first|exact HB.out|apply qab|apply qaa|apply qac|refine qaf ?_ GE248.out)|exact HB.out)) hb);clear HO_3;clear BK248;clear HB;have HO_3 := n0_;have HO251 := n1_;have BK248 := n2_;have HB := n3_;clear n0_ n1_ n2_ n3_;clear hb ho9;obtain ⟨Ao11,co11,eo11⟩ := Kd.R_slice HO251.out;subst eo11)|((with_reducible refine gate_builtin (b := .append) (xs := #[.tmp 12,.tmp 15]) rfl ?_);at_builtin;refine Kd.S_append (Kd.slice 27 k27) (w0 := w) w.heap.size rfl (.tmp 12) (.tmp 15) 22 77 (.slice none 0 0) 24 rfl Tryz.underlying22 info77 rfl (by decide) (by omega) u3 x3_1 y249 [.slice Ao11 y249.length co11] (fun k_ => k_ ≠ gb248) (fun k_ => some k_ = (.slice Ao11 y249.length co11 : Value).ownBlock) rfl rfl ?aP (fun k_ hk_ => ((Kd.R_mono (ok' := fun k_ => ((fun k_ => k_ ≠ gb248)) k_ ∧ some k_ ≠ (u3 : Value).ownBlock) (Kd.R_apart' (HO251.out) (Kd.S_typed HO_3.out) (by decide)) (fun k_ hk => ⟨hk.1.2,hk.2⟩))).1 k_ hk_.symm) ?aF ?aO ?aB ?aS ?aL ?_;(case aP => exact Kd.M_row (Kd.R_mono (Kd.R_tight rfl (Kd.R_mono (ok' := fun k_ => ((fun k_ => k_ ≠ gb248)) k_ ∧ some k_ ≠ (u3 : Value).ownBlock) (Kd.R_apart' (HO251.out) (Kd.S_typed HO_3.out) (by decide)) (fun k_ hk => ⟨hk.1.2,hk.2⟩))) (fun _ h_ => h_)));(case aB => exact (by repeat (first|(with_reducible first|exact HB.out|apply qab|apply qaa|apply qac|refine qaf ?_ GE248.out)|exact HB.out)));(case aF => exact (fun k_ hk => Kd.freshB (g := gb248) (o := .cells #[.string ((rd_T27 l0 x8_1).f0),.int .i64 ((rd_T27 l0 x8_1).f1),.string ((rd_T27 l0 x8_1).f2)] 27 (0,0)) (by (with_reducible repeat (first|refine qah ?_ _|refine qai ?_|refine qag ?_ _));exact BK248.out) k_ hk));(case aO => exact (by (with_reducible repeat (first|apply Kd.S_alloc|apply Kd.S_drewN|apply Kd.S_drew));exact Kd.S_mono HO_3.out (fun k_ hk => ⟨hk.1.2,fun e_ => hk.2 e_⟩)));(case aS => exact (qao (by repeat (first|(with_reducible first|exact HB.out|apply qab|apply qaa|apply qac|refine qaf ?_ GE248.out)|exact HB.out))));(case aL => have := LMc5.out;omega);intro v253 w10 ho hb hg hat;rw [← Ny252.out] at ho;have n0_ := Aside0.mk (blk_grown (g := gb248) (o := .cells #[.string ((rd_T27 l0 x8_1).f0),.int .i64 ((rd_T27 l0 x8_1).f1),.string ((rd_T27 l0 x8_1).f2)] 27 (0,0)) (by (with_reducible repeat (first|refine qah ?_ _|refine qai ?_|refine qag ?_ _));exact BK248.out) hg (Kd.S_ne HO_3.out BK248.out (by decide)));have n1_ := Aside0.mk (hb);have n2_ := Aside0.mk (ho);clear BK248;clear HB;clear HO_3;clear HO251;have BK248 := n0_;have HB := n1_;have HO254 := n2_;clear n0_ n1_ n2_;clear ho hb hg hat))
       go_roundg k1
       case measure => have := HK1.out;omega
       case rel => exact ⟨(y252),(wrap64 (x8_1 + 1)),(by first|rfl|(simp;done)|(simp [*];done)|(simp [qam];done)),H',⟨by have := HK1.out;omega⟩,⟨by (with_reducible repeat (first|apply Kd.S_alloc|apply Kd.S_drewN|apply Kd.S_drew));exact Kd.S_mono HO254.out (fun _ hk => trivial)⟩,⟨by repeat (first|(with_reducible first|exact HB.out|apply qab|apply qaa|apply qac|refine qaf ?_ GE248.out)|exact HB.out)⟩⟩
      ·rw [if_neg c5] at H
       exact absurd H (by simp)
     ·rw [if_neg c4] at H
      exact absurd H (by simp)
    ·rw [if_neg c3] at H
     exact absurd H (by simp)
   ·rw [if_neg c2] at H
    have c2b0 : decide (x8_1 < (l0.length : Int)) = false := decide_eq_false c2
    clear c2
    replace H := Option.bind_eq_some_iff.mp H
    obtain ⟨t255,A120,H⟩ := H
    replace H : (some t255) = some r := H
    have A12 := Aside0.mk A120
    clear A120
    obtain rfl := Option.some.inj H
    obtain ⟨Ao13,co13,eo13⟩ := Kd.S_slice HO_3.out
    subst eo13
    go_wp2_with (first|((with_reducible refine qal (f := 69) rfl ?_);refine goesL_ (some 19) rfl rfl Tryz.func69 (by kernel_rfl) rfl #[.slice Ao13 x3_1.length co13] rfl (by first|rfl|(simp only [List.map_toArray,List.map_cons,List.map_nil,List.length_drop,List.length_take];rfl)|simp only [List.map_toArray,List.map_cons,List.map_nil]) ?_;(with_reducible refine (depends_Print.calls k1 _ _ x3_1 t255 _ (by first|exact hG|exact GL.below hG (by repeat (with_reducible first|exact HB.out|apply qab|apply qaa|apply qac)))  ?side1 ?side2 A12.out).mono ?_);(case side1 => repeat (first|exact (Kd.S_reads' HO_3.out).2.2|(with_reducible refine Kd.C_alloc ?_ _)|(with_reducible refine Kd.C_drewN ?_ _)|(with_reducible refine Kd.C_drew ?_)));(case side2 => exact (Kd.S_reads' HO_3.out).2.1);rintro e w14 ⟨rfl,hb⟩;refine ⟨_,rfl,?_⟩;have n0_ := Aside0.mk (Kd.S_below (by (with_reducible repeat (first|apply Kd.S_alloc|apply Kd.S_drewN|apply Kd.S_drew));exact HO_3.out) hb);have n1_ := Aside0.mk (qan (by repeat (with_reducible first|exact HB.out|apply qab|apply qaa|apply qac)) hb);clear HO_3;clear HB;have HO_3 := n0_;have HB := n1_;clear n0_ n1_;(try clear hb);(try clear hb2);(try clear hk);(try clear hi)))
    go_ret
    exact ⟨by first|rfl|(simp [qaj,qak]<;>rfl)|(simp [*,qaj,qak]<;>rfl),by repeat (with_reducible first|exact HB.out|apply qab|apply qaa|apply qac)⟩
def api_Errno.l0 : Nat → Int → List Int → Int → Int → Option (Int)
 | 0,_,_,_,_ => none
 | k + 1,x3,x6,x7,x8 => if x8 < x7 then (if 0 ≤ x8 then (if x8 < (x6.length : Int) then (if (rd x6 x8) = x3 then (api_Errno.l0 k x3 x6 x7 (wrap64 (x8 + 1))) else (some (rd x6 x8))) else (none)) else (none)) else (some x3)
def api_Errno.f (k : Nat) (l0 : List Int) : Option (Int) := api_Errno.l0 k 0 l0 (l0.length : Int) 0
theorem api_Errno.mono_l : ∀ k,(∀ y0 y1 y2 y3,LeO (api_Errno.l0 k y0 y1 y2 y3) (api_Errno.l0 (k + 1) y0 y1 y2 y3))
 | 0 => fun _ _ _ _ r h => by simp [api_Errno.l0] at h
 | k + 1 => by
  have ih0 := api_Errno.mono_l k
  ·intro y0 y1 y2 y3
   unfold api_Errno.l0
   repeat' first
   | (with_reducible exact ih0 _ _ _ _)
   | (with_reducible exact LeO.refl _)
   | (with_reducible exact LeO.none _)
   | (with_reducible refine LeO.ite ?_ ?_)
   | (with_reducible refine LeO.bind ?_ (fun _ => ?_))
   | exact ih0 _ _ _ _
   | exact LeO.none _
   | refine LeO.ite ?_ ?_
   | refine LeO.bind ?_ (fun _ => ?_)
theorem api_Errno.mono : ∀ a0 k,LeO (api_Errno.f k a0) (api_Errno.f (k + 1) a0) := by
 intro a0 k
 have ih0 := api_Errno.mono_l k
 unfold api_Errno.f
 repeat' first
   | (with_reducible exact ih0 _ _ _ _)
   | (with_reducible exact LeO.refl _)
   | (with_reducible exact LeO.none _)
   | (with_reducible refine LeO.ite ?_ ?_)
   | (with_reducible refine LeO.bind ?_ (fun _ => ?_))
   | exact ih0 _ _ _ _
   | exact LeO.none _
   | refine LeO.ite ?_ ?_
   | refine LeO.bind ?_ (fun _ => ?_)
theorem api_Errno.calls (k : Nat) (A0 : Option Addr) (c0 : Nat) (l0 : List Int) (r : Int) (w : World) (hG : GL w) (hr0 : Kd.C (Kd.int .i64) w A0 l0.length l0) (hc0 : l0.length ≤ c0) (h : api_Errno.f k l0 = some r) :
  Calls Tryz.prog 80 #[.slice A0 l0.length c0] w fun e w' => e = .returned (.int .i64 r) ∧ Drawn0 w w' := by
 have HR0 := Aside0.mk hr0
 have HC0 := Aside0.mk hc0
 clear hr0 hc0
 have H : (api_Errno.l0 k 0 l0 (l0.length : Int) 0) = some r := h
 clear h
 have H' := Aside0.mk H
 clear H
 go_enter Tryz.func80,Tryz.ntmps80
 go_wp2
 go_loopg [8] k (fun kq v8 w' => ∃ (x8_1 : Int),v8 = .int .i64 x8_1 ∧ Aside0 (api_Errno.l0 kq 0 l0 (l0.length : Int) x8_1 = some r) ∧ Aside0 (kq ≤ k) ∧ Drawn0 w w')
 case atStart => exact ⟨(0),(by first|rfl|(simp;done)|(simp [*];done)|(simp [qam];done)),H',⟨Nat.le_refl _⟩,by repeat (first|exact Drawn0.refl _|apply Drawn0.step)⟩
 case round =>
  clear H'
  obtain ⟨x8_1,rfl,HA,HK1,⟨m1,rfl⟩⟩ := hrel
  cases gk with
  | zero => exact absurd HA.out (by simp [api_Errno.l0])
  | succ k1 =>
   have H := HA.out
   clear HA
   simp only [api_Errno.l0] at H
   by_cases c2 : x8_1 < (l0.length : Int)
   ·rw [if_pos c2] at H
    have c2b0 : decide (x8_1 < (l0.length : Int)) = true := decide_eq_true c2
    clear c2
    by_cases c3 : 0 ≤ x8_1
    ·rw [if_pos c3] at H
     have c3b0 : decide (0 ≤ x8_1) = true := decide_eq_true c3
     clear c3
     by_cases c4 : x8_1 < (l0.length : Int)
     ·rw [if_pos c4] at H
      have c4b0 : decide (x8_1 < (l0.length : Int)) = true := decide_eq_true c4
      clear c4
      by_cases c5 : (rd l0 x8_1) = 0
      ·rw [if_pos c5] at H
       have c5b0 : ((rd l0 x8_1) == 0) = true := beq_iff_eq.mpr c5
       have c5b1 : ((rd l0 x8_1) != 0) = false := bne_eq_false_iff_eq.mpr c5
       clear c5
       have H' := Aside0.mk H
       clear H
       have p258 : 0 ≤ (x8_1 : Int) := of_decide_eq_true (by assumption)
       have q258 : x8_1 < (l0.length : Int) := of_decide_eq_true (by assumption)
       obtain ⟨ad258,e258,hx258_0⟩ := Kd.at_int HR0.out x8_1 p258 q258
       cases e258
       replace p258 := eq_true p258
       replace q258 := eq_true q258
       go_wp2
       go_roundg k1
       case measure => have := HK1.out;omega
       case rel => exact ⟨(wrap64 (x8_1 + 1)),(by first|rfl|(simp;done)|(simp [*];done)|(simp [qam];done)),H',⟨by have := HK1.out;omega⟩,by repeat (first|exact Drawn0.refl _|apply Drawn0.step)⟩
      ·rw [if_neg c5] at H
       have c5b0 : ((rd l0 x8_1) == 0) = false := beq_eq_false_iff_ne.mpr c5
       have c5b1 : ((rd l0 x8_1) != 0) = true := bne_iff_ne.mpr c5
       obtain rfl := Option.some.inj H
       have p258 : 0 ≤ (x8_1 : Int) := of_decide_eq_true (by assumption)
       have q258 : x8_1 < (l0.length : Int) := of_decide_eq_true (by assumption)
       obtain ⟨ad258,e258,hx258_0⟩ := Kd.at_int HR0.out x8_1 p258 q258
       cases e258
       replace p258 := eq_true p258
       replace q258 := eq_true q258
       go_wp2
       go_ret
       exact ⟨by first|rfl|(simp;done)|(simp [*];done)|(simp [qam];done),by repeat (first|exact Drawn0.refl _|apply Drawn0.step)⟩
     ·rw [if_neg c4] at H
      exact absurd H (by simp)
    ·rw [if_neg c3] at H
     exact absurd H (by simp)
   ·rw [if_neg c2] at H
    have c2b0 : decide (x8_1 < (l0.length : Int)) = false := decide_eq_false c2
    clear c2
    obtain rfl := Option.some.inj H
    go_wp2
    go_ret
    exact ⟨by first|rfl|(simp;done)|(simp [*];done)|(simp [qam];done),by repeat (first|exact Drawn0.refl _|apply Drawn0.step)⟩
def depends_Parse_1.f (a0 : ByteArray) : Option (Bool) := (strings_Count.f a0 (⟨#[124]⟩ : ByteArray)).bind fun t259 => (some (decide (t259 ≥ 6)))
theorem depends_Parse_1.calls (a0 : ByteArray) (r : Bool) (w : World) (hG : GL w) (h : depends_Parse_1.f a0 = some r) :
  Calls Tryz.prog 142 #[.string a0] w fun e w' => e = .returned (.bool r) ∧ Drawn0 w w' := by
 have H : ((strings_Count.f a0 (⟨#[124]⟩ : ByteArray)).bind fun t259 => (some (decide (t259 ≥ 6)))) = some r := h
 clear h
 replace H := Option.bind_eq_some_iff.mp H
 obtain ⟨t259,A20,H⟩ := H
 replace H : (some (decide (t259 ≥ 6))) = some r := H
 have A2 := Aside0.mk A20
 clear A20
 obtain rfl := Option.some.inj H
 go_enter Tryz.func142,Tryz.ntmps142
 go_wp2_with (first|((with_reducible refine qal (f := 143) rfl ?_);refine goesL_ (some 4) rfl rfl Tryz.func143 (by kernel_rfl) rfl #[.string a0,.string (⟨#[124]⟩ : ByteArray)] rfl (by first|rfl|(simp only [List.map_toArray,List.map_cons,List.map_nil,List.length_drop,List.length_take];rfl)|simp only [List.map_toArray,List.map_cons,List.map_nil]) ?_;(with_reducible refine (strings_Count.calls a0 (⟨#[124]⟩ : ByteArray) t259 _ (by first|exact hG|(repeat (first|exact hG|apply GL.drewN|apply GL.drew)))  A2.out).mono ?_);rintro e w' ⟨rfl,⟨nd,rfl⟩⟩;refine ⟨_,rfl,?_⟩))
 go_ret
 exact ⟨by first|rfl|(simp;done)|(simp [*];done)|(simp [qam];done),by repeat (first|exact Drawn0.refl _|apply Drawn0.step)⟩
def relation_Parse.j0 : Nat → ByteArray → ByteArray → Int → Bool → Option (ByteArray × Int × ByteArray × Int)
 | 0,_,_,_,_ => none
 | k + 1,x4,x10,x12,x51 => if x51 = true then (some ((⟨#[]⟩ : ByteArray),0,(⟨#[]⟩ : ByteArray),5)) else ((relation_plain.f k x10).bind fun t274 => (if t274 = true then (some (x4,x12,x10,0)) else (some ((⟨#[]⟩ : ByteArray),0,(⟨#[]⟩ : ByteArray),4))))
def relation_Parse.f (k : Nat) (a0 : ByteArray) : Option (ByteArray × Int × ByteArray × Int) := (strings_Cut.f a0 (⟨#[32]⟩ : ByteArray)).bind fun bt261 => ((relation_Name.f k bt261.1).bind fun t264 => (if t264 = true then (if bt261.2.2 = true then ((strings_CutPrefix.f bt261.2.1 (⟨#[40]⟩ : ByteArray)).bind fun bt265 => ((strings_CutSuffix.f bt265.1 (⟨#[41]⟩ : ByteArray)).bind fun bt267 => ((strings_Cut.f bt267.1 (⟨#[32]⟩ : ByteArray)).bind fun bt269 => ((relation_Op.f bt269.1).bind fun bt272 => (if bt265.2 = true then (if bt267.2 = true then (if bt269.2.2 = true then (relation_Parse.j0 k bt261.1 bt269.2.1 bt272.1 (!bt272.2)) else (relation_Parse.j0 k bt261.1 bt269.2.1 bt272.1 true)) else (relation_Parse.j0 k bt261.1 bt269.2.1 bt272.1 true)) else (relation_Parse.j0 k bt261.1 bt269.2.1 bt272.1 true)))))) else (some (bt261.1,0,(⟨#[]⟩ : ByteArray),0))) else (some ((⟨#[]⟩ : ByteArray),0,(⟨#[]⟩ : ByteArray),3))))
theorem relation_Parse.mono_l : ∀ k,(∀ y0 y1 y2 y3,LeO (relation_Parse.j0 k y0 y1 y2 y3) (relation_Parse.j0 (k + 1) y0 y1 y2 y3))
 | 0 => fun _ _ _ _ r h => by simp [relation_Parse.j0] at h
 | k + 1 => by
  have ih0 := relation_Parse.mono_l k
  ·intro y0 y1 y2 y3
   unfold relation_Parse.j0
   repeat' first
   | (with_reducible exact ih0 _ _ _ _)
   | (with_reducible exact relation_Name.mono _ _)
   | (with_reducible exact relation_plain.mono _ _)
   | (with_reducible exact LeO.refl _)
   | (with_reducible exact LeO.none _)
   | (with_reducible refine LeO.ite ?_ ?_)
   | (with_reducible refine LeO.bind ?_ (fun _ => ?_))
   | exact ih0 _ _ _ _
   | exact relation_Name.mono _ _
   | exact relation_plain.mono _ _
   | exact LeO.none _
   | refine LeO.ite ?_ ?_
   | refine LeO.bind ?_ (fun _ => ?_)
theorem relation_Parse.mono : ∀ a0 k,LeO (relation_Parse.f k a0) (relation_Parse.f (k + 1) a0) := by
 intro a0 k
 have ih0 := relation_Parse.mono_l k
 unfold relation_Parse.f
 repeat' first
   | (with_reducible exact ih0 _ _ _ _)
   | (with_reducible exact relation_Name.mono _ _)
   | (with_reducible exact relation_plain.mono _ _)
   | (with_reducible exact LeO.refl _)
   | (with_reducible exact LeO.none _)
   | (with_reducible refine LeO.ite ?_ ?_)
   | (with_reducible refine LeO.bind ?_ (fun _ => ?_))
   | exact ih0 _ _ _ _
   | exact relation_Name.mono _ _
   | exact relation_plain.mono _ _
   | exact LeO.none _
   | refine LeO.ite ?_ ?_
   | refine LeO.bind ?_ (fun _ => ?_)
theorem relation_Parse.calls (k : Nat) (a0 : ByteArray) (r1 : ByteArray) (r2 : Int) (r3 : ByteArray) (r4 : Int) (w : World) (hG : GL w) (h : relation_Parse.f k a0 = some (r1,r2,r3,r4)) :
  Calls Tryz.prog 144 #[.string a0] w fun e w' => e = .returned (.tuple #[.agg #[.string r1,.int .i64 r2,.string r3],.int .i64 r4]) ∧ Below w.heap.size w w' := by
 have hu27 := Tryz.underlying27
 have HB := Aside0.mk (Below.refl w.heap.size w)
 have H : ((strings_Cut.f a0 (⟨#[32]⟩ : ByteArray)).bind fun bt261 => ((relation_Name.f k bt261.1).bind fun t264 => (if t264 = true then (if bt261.2.2 = true then ((strings_CutPrefix.f bt261.2.1 (⟨#[40]⟩ : ByteArray)).bind fun bt265 => ((strings_CutSuffix.f bt265.1 (⟨#[41]⟩ : ByteArray)).bind fun bt267 => ((strings_Cut.f bt267.1 (⟨#[32]⟩ : ByteArray)).bind fun bt269 => ((relation_Op.f bt269.1).bind fun bt272 => (if bt265.2 = true then (if bt267.2 = true then (if bt269.2.2 = true then (relation_Parse.j0 k bt261.1 bt269.2.1 bt272.1 (!bt272.2)) else (relation_Parse.j0 k bt261.1 bt269.2.1 bt272.1 true)) else (relation_Parse.j0 k bt261.1 bt269.2.1 bt272.1 true)) else (relation_Parse.j0 k bt261.1 bt269.2.1 bt272.1 true)))))) else (some (bt261.1,0,(⟨#[]⟩ : ByteArray),0))) else (some ((⟨#[]⟩ : ByteArray),0,(⟨#[]⟩ : ByteArray),3))))) = some (r1,r2,r3,r4) := h
 clear h
 replace H := Option.bind_eq_some_iff.mp H
 obtain ⟨⟨t261,t262,t263⟩,A20,H⟩ := H
 replace H : ((relation_Name.f k t261).bind fun t264 => (if t264 = true then (if t263 = true then ((strings_CutPrefix.f t262 (⟨#[40]⟩ : ByteArray)).bind fun bt265 => ((strings_CutSuffix.f bt265.1 (⟨#[41]⟩ : ByteArray)).bind fun bt267 => ((strings_Cut.f bt267.1 (⟨#[32]⟩ : ByteArray)).bind fun bt269 => ((relation_Op.f bt269.1).bind fun bt272 => (if bt265.2 = true then (if bt267.2 = true then (if bt269.2.2 = true then (relation_Parse.j0 k t261 bt269.2.1 bt272.1 (!bt272.2)) else (relation_Parse.j0 k t261 bt269.2.1 bt272.1 true)) else (relation_Parse.j0 k t261 bt269.2.1 bt272.1 true)) else (relation_Parse.j0 k t261 bt269.2.1 bt272.1 true)))))) else (some (t261,0,(⟨#[]⟩ : ByteArray),0))) else (some ((⟨#[]⟩ : ByteArray),0,(⟨#[]⟩ : ByteArray),3)))) = some (r1,r2,r3,r4) := H
 have A2 := Aside0.mk A20
 clear A20
 replace H := Option.bind_eq_some_iff.mp H
 obtain ⟨t264,A30,H⟩ := H
 replace H : (if t264 = true then (if t263 = true then ((strings_CutPrefix.f t262 (⟨#[40]⟩ : ByteArray)).bind fun bt265 => ((strings_CutSuffix.f bt265.1 (⟨#[41]⟩ : ByteArray)).bind fun bt267 => ((strings_Cut.f bt267.1 (⟨#[32]⟩ : ByteArray)).bind fun bt269 => ((relation_Op.f bt269.1).bind fun bt272 => (if bt265.2 = true then (if bt267.2 = true then (if bt269.2.2 = true then (relation_Parse.j0 k t261 bt269.2.1 bt272.1 (!bt272.2)) else (relation_Parse.j0 k t261 bt269.2.1 bt272.1 true)) else (relation_Parse.j0 k t261 bt269.2.1 bt272.1 true)) else (relation_Parse.j0 k t261 bt269.2.1 bt272.1 true)))))) else (some (t261,0,(⟨#[]⟩ : ByteArray),0))) else (some ((⟨#[]⟩ : ByteArray),0,(⟨#[]⟩ : ByteArray),3))) = some (r1,r2,r3,r4) := H
 have A3 := Aside0.mk A30
 clear A30
 by_cases c4 : t264 = true
 ·subst c4
  have H1 : (if t263 = true then ((strings_CutPrefix.f t262 (⟨#[40]⟩ : ByteArray)).bind fun bt265 => ((strings_CutSuffix.f bt265.1 (⟨#[41]⟩ : ByteArray)).bind fun bt267 => ((strings_Cut.f bt267.1 (⟨#[32]⟩ : ByteArray)).bind fun bt269 => ((relation_Op.f bt269.1).bind fun bt272 => (if bt265.2 = true then (if bt267.2 = true then (if bt269.2.2 = true then (relation_Parse.j0 k t261 bt269.2.1 bt272.1 (!bt272.2)) else (relation_Parse.j0 k t261 bt269.2.1 bt272.1 true)) else (relation_Parse.j0 k t261 bt269.2.1 bt272.1 true)) else (relation_Parse.j0 k t261 bt269.2.1 bt272.1 true)))))) else (some (t261,0,(⟨#[]⟩ : ByteArray),0))) = some (r1,r2,r3,r4) := by rw [if_pos rfl] at H;exact H
  clear H
  have H := H1
  clear H1
  by_cases c5 : t263 = true
  ·subst c5
   have H1 : ((strings_CutPrefix.f t262 (⟨#[40]⟩ : ByteArray)).bind fun bt265 => ((strings_CutSuffix.f bt265.1 (⟨#[41]⟩ : ByteArray)).bind fun bt267 => ((strings_Cut.f bt267.1 (⟨#[32]⟩ : ByteArray)).bind fun bt269 => ((relation_Op.f bt269.1).bind fun bt272 => (if bt265.2 = true then (if bt267.2 = true then (if bt269.2.2 = true then (relation_Parse.j0 k t261 bt269.2.1 bt272.1 (!bt272.2)) else (relation_Parse.j0 k t261 bt269.2.1 bt272.1 true)) else (relation_Parse.j0 k t261 bt269.2.1 bt272.1 true)) else (relation_Parse.j0 k t261 bt269.2.1 bt272.1 true)))))) = some (r1,r2,r3,r4) := by rw [if_pos rfl] at H;exact H
   clear H
   have H := H1
   clear H1
   replace H := Option.bind_eq_some_iff.mp H
   obtain ⟨⟨t265,t266⟩,A60,H⟩ := H
   replace H : ((strings_CutSuffix.f t265 (⟨#[41]⟩ : ByteArray)).bind fun bt267 => ((strings_Cut.f bt267.1 (⟨#[32]⟩ : ByteArray)).bind fun bt269 => ((relation_Op.f bt269.1).bind fun bt272 => (if t266 = true then (if bt267.2 = true then (if bt269.2.2 = true then (relation_Parse.j0 k t261 bt269.2.1 bt272.1 (!bt272.2)) else (relation_Parse.j0 k t261 bt269.2.1 bt272.1 true)) else (relation_Parse.j0 k t261 bt269.2.1 bt272.1 true)) else (relation_Parse.j0 k t261 bt269.2.1 bt272.1 true))))) = some (r1,r2,r3,r4) := H
   have A6 := Aside0.mk A60
   clear A60
   replace H := Option.bind_eq_some_iff.mp H
   obtain ⟨⟨t267,t268⟩,A70,H⟩ := H
   replace H : ((strings_Cut.f t267 (⟨#[32]⟩ : ByteArray)).bind fun bt269 => ((relation_Op.f bt269.1).bind fun bt272 => (if t266 = true then (if t268 = true then (if bt269.2.2 = true then (relation_Parse.j0 k t261 bt269.2.1 bt272.1 (!bt272.2)) else (relation_Parse.j0 k t261 bt269.2.1 bt272.1 true)) else (relation_Parse.j0 k t261 bt269.2.1 bt272.1 true)) else (relation_Parse.j0 k t261 bt269.2.1 bt272.1 true)))) = some (r1,r2,r3,r4) := H
   have A7 := Aside0.mk A70
   clear A70
   replace H := Option.bind_eq_some_iff.mp H
   obtain ⟨⟨t269,t270,t271⟩,A80,H⟩ := H
   replace H : ((relation_Op.f t269).bind fun bt272 => (if t266 = true then (if t268 = true then (if t271 = true then (relation_Parse.j0 k t261 t270 bt272.1 (!bt272.2)) else (relation_Parse.j0 k t261 t270 bt272.1 true)) else (relation_Parse.j0 k t261 t270 bt272.1 true)) else (relation_Parse.j0 k t261 t270 bt272.1 true))) = some (r1,r2,r3,r4) := H
   have A8 := Aside0.mk A80
   clear A80
   replace H := Option.bind_eq_some_iff.mp H
   obtain ⟨⟨t272,t273⟩,A90,H⟩ := H
   replace H : (if t266 = true then (if t268 = true then (if t271 = true then (relation_Parse.j0 k t261 t270 t272 (!t273)) else (relation_Parse.j0 k t261 t270 t272 true)) else (relation_Parse.j0 k t261 t270 t272 true)) else (relation_Parse.j0 k t261 t270 t272 true)) = some (r1,r2,r3,r4) := H
   have A9 := Aside0.mk A90
   clear A90
   have HC10 := Aside0.mk H
   clear H
   go_enter Tryz.func144,Tryz.ntmps144
   go_upto_region 10 with (first|((with_reducible refine gate_dst (N := 2) rfl ?_);refine box_event ?hg (N := 2) ?hd (cs := #[.string (⟨#[]⟩ : ByteArray),.int .i64 0,.string (⟨#[]⟩ : ByteArray)]) (t := 27) ?hr ?_;(case hd => rfl);(case hg => rfl);(case hr => first|(go_simp;done)|(go_simp;rfl));intro gb260 hg w11 hbox hb;have n0_ := Aside0.mk (qan (by repeat (with_reducible first|exact HB.out|apply qab|apply qaa|apply qac)) hb);have n1_ := Aside0.mk (hbox);have n2_ := Aside0.mk ((by rw [hg];exact (qao (by repeat (with_reducible first|exact HB.out|apply qab|apply qaa|apply qac))) : w.heap.size ≤ gb260));have n3_ := Aside0.mk ((by rw [hg];exact (qao (by repeat (with_reducible first|exact HB.out|apply qab|apply qaa|apply qac))) : w.heap.size ≤ gb260));clear HB;have HB := n0_;have BK260 := n1_;have GW260 := n2_;have GE260 := n3_;clear n0_ n1_ n2_ n3_;clear hb hbox hg)|((with_reducible refine qal (f := 169) rfl ?_);refine goesL_ (some 16) rfl rfl Tryz.func169 (by kernel_rfl) rfl #[.string a0,.string (⟨#[32]⟩ : ByteArray)] rfl (by first|rfl|(simp only [List.map_toArray,List.map_cons,List.map_nil,List.length_drop,List.length_take];rfl)|simp only [List.map_toArray,List.map_cons,List.map_nil]) ?_;(with_reducible refine (strings_Cut.calls a0 (⟨#[32]⟩ : ByteArray) t261 t262 true _ (by first|exact hG|exact GL.below hG (by repeat (first|(with_reducible first|exact HB.out|apply qab|apply qaa|apply qac|refine qaf ?_ GE260.out)|exact HB.out)))  A2.out).mono ?_);rintro e w' ⟨rfl,⟨nd,rfl⟩⟩;refine ⟨_,rfl,?_⟩)|((with_reducible refine qal (f := 58) rfl ?_);refine goesL_ (some 22) rfl rfl Tryz.func58 (by kernel_rfl) rfl #[.string t261] rfl (by first|rfl|(simp only [List.map_toArray,List.map_cons,List.map_nil,List.length_drop,List.length_take];rfl)|simp only [List.map_toArray,List.map_cons,List.map_nil]) ?_;(with_reducible refine (relation_Name.calls k t261 true _ (by first|exact hG|exact GL.below hG (by repeat (first|(with_reducible first|exact HB.out|apply qab|apply qaa|apply qac|refine qaf ?_ GE260.out)|exact HB.out)))  A3.out).mono ?_);rintro e w12 ⟨rfl,hb⟩;refine ⟨_,rfl,?_⟩;have n0_ := Aside0.mk (qaq (g := gb260) (o := .cells #[.string (⟨#[]⟩ : ByteArray),.int .i64 0,.string (⟨#[]⟩ : ByteArray)] 27 (0,0)) (by (with_reducible repeat (first|refine qah ?_ _|refine qai ?_|refine qag ?_ _));exact BK260.out) hb);have n1_ := Aside0.mk (qan (by repeat (first|(with_reducible first|exact HB.out|apply qab|apply qaa|apply qac|refine qaf ?_ GE260.out)|exact HB.out)) hb);clear BK260;clear HB;have BK260 := n0_;have HB := n1_;clear n0_ n1_;(try clear hb);(try clear hb2);(try clear hk);(try clear hi))|((with_reducible refine qal (f := 206) rfl ?_);refine goesL_ (some 32) rfl rfl Tryz.func206 (by kernel_rfl) rfl #[.string t262,.string (⟨#[40]⟩ : ByteArray)] rfl (by first|rfl|(simp only [List.map_toArray,List.map_cons,List.map_nil,List.length_drop,List.length_take];rfl)|simp only [List.map_toArray,List.map_cons,List.map_nil]) ?_;(with_reducible refine (strings_CutPrefix.calls t262 (⟨#[40]⟩ : ByteArray) t265 t266 _ (by first|exact hG|exact GL.below hG (by repeat (first|(with_reducible first|exact HB.out|apply qab|apply qaa|apply qac|refine qaf ?_ GE260.out)|exact HB.out)))  A6.out).mono ?_);rintro e w' ⟨rfl,⟨nd,rfl⟩⟩;refine ⟨_,rfl,?_⟩)|((with_reducible refine qal (f := 207) rfl ?_);refine goesL_ (some 37) rfl rfl Tryz.func207 (by kernel_rfl) rfl #[.string t265,.string (⟨#[41]⟩ : ByteArray)] rfl (by first|rfl|(simp only [List.map_toArray,List.map_cons,List.map_nil,List.length_drop,List.length_take];rfl)|simp only [List.map_toArray,List.map_cons,List.map_nil]) ?_;(with_reducible refine (strings_CutSuffix.calls t265 (⟨#[41]⟩ : ByteArray) t267 t268 _ (by first|exact hG|exact GL.below hG (by repeat (first|(with_reducible first|exact HB.out|apply qab|apply qaa|apply qac|refine qaf ?_ GE260.out)|exact HB.out)))  A7.out).mono ?_);rintro e w' ⟨rfl,⟨nd,rfl⟩⟩;refine ⟨_,rfl,?_⟩)|((with_reducible refine qal (f := 169) rfl ?_);refine goesL_ (some 42) rfl rfl Tryz.func169 (by kernel_rfl) rfl #[.string t267,.string (⟨#[32]⟩ : ByteArray)] rfl (by first|rfl|(simp only [List.map_toArray,List.map_cons,List.map_nil,List.length_drop,List.length_take];rfl)|simp only [List.map_toArray,List.map_cons,List.map_nil]) ?_;(with_reducible refine (strings_Cut.calls t267 (⟨#[32]⟩ : ByteArray) t269 t270 t271 _ (by first|exact hG|exact GL.below hG (by repeat (first|(with_reducible first|exact HB.out|apply qab|apply qaa|apply qac|refine qaf ?_ GE260.out)|exact HB.out)))  A8.out).mono ?_);rintro e w' ⟨rfl,⟨nd,rfl⟩⟩;refine ⟨_,rfl,?_⟩)|((with_reducible refine qal (f := 208) rfl ?_);refine goesL_ (some 48) rfl rfl Tryz.func208 (by kernel_rfl) rfl #[.string t269] rfl (by first|rfl|(simp only [List.map_toArray,List.map_cons,List.map_nil,List.length_drop,List.length_take];rfl)|simp only [List.map_toArray,List.map_cons,List.map_nil]) ?_;(with_reducible refine (relation_Op.calls t269 t272 t273 _ (by first|exact hG|exact GL.below hG (by repeat (first|(with_reducible first|exact HB.out|apply qab|apply qaa|apply qac|refine qaf ?_ GE260.out)|exact HB.out)))  A9.out).mono ?_);rintro e w13 ⟨rfl,hb⟩;refine ⟨_,rfl,?_⟩;have n0_ := Aside0.mk (qaq (g := gb260) (o := .cells #[.string (⟨#[]⟩ : ByteArray),.int .i64 0,.string (⟨#[]⟩ : ByteArray)] 27 (0,0)) (by (with_reducible repeat (first|refine qah ?_ _|refine qai ?_|refine qag ?_ _));exact BK260.out) hb);have n1_ := Aside0.mk (qan (by repeat (first|(with_reducible first|exact HB.out|apply qab|apply qaa|apply qac|refine qaf ?_ GE260.out)|exact HB.out)) hb);clear BK260;clear HB;have BK260 := n0_;have HB := n1_;clear n0_ n1_;(try clear hb);(try clear hb2);(try clear hk);(try clear hi)))
   (try simp only [Act.put,List.setIfInBounds_toArray,List.set_cons_zero,List.set_cons_succ])
   go_cut [51] (fun v51 wc => ∃ (kq : Nat) (x51_9 : Bool),v51 = .bool x51_9 ∧ Aside0 (relation_Parse.j0 kq t261 t270 t272 x51_9 = some (r1,r2,r3,r4)) ∧ Aside0 (kq ≤ k) ∧ Aside0 (wc.heap[gb260]? = some (.cells #[.string (⟨#[]⟩ : ByteArray),.int .i64 0,.string (⟨#[]⟩ : ByteArray)] 27 (0,0))) ∧ Aside0 (Below w.heap.size w wc))
   case first =>
    have H := HC10.out
    clear HC10
    by_cases c14 : t266 = true
    ·subst c14
     have H1 : (if t268 = true then (if t271 = true then (relation_Parse.j0 k t261 t270 t272 (!t273)) else (relation_Parse.j0 k t261 t270 t272 true)) else (relation_Parse.j0 k t261 t270 t272 true)) = some (r1,r2,r3,r4) := by rw [if_pos rfl] at H;exact H
     clear H
     have H := H1
     clear H1
     by_cases c15 : t268 = true
     ·subst c15
      have H1 : (if t271 = true then (relation_Parse.j0 k t261 t270 t272 (!t273)) else (relation_Parse.j0 k t261 t270 t272 true)) = some (r1,r2,r3,r4) := by rw [if_pos rfl] at H;exact H
      clear H
      have H := H1
      clear H1
      by_cases c16 : t271 = true
      ·subst c16
       have H1 : (relation_Parse.j0 k t261 t270 t272 (!t273)) = some (r1,r2,r3,r4) := by rw [if_pos rfl] at H;exact H
       clear H
       have H := H1
       clear H1
       have H' := Aside0.mk H
       clear H
       go_wp2
       go_meet
       case rel => exact ⟨_,(!t273),(by first|rfl|(simp;done)|(simp [*];done)|(simp [qam];done)),H',⟨by first|omega|exact Nat.le_refl _⟩,⟨by (with_reducible repeat (first|refine qah ?_ _|refine qai ?_|refine qag ?_ _));exact BK260.out⟩,⟨by repeat (first|(with_reducible first|exact HB.out|apply qab|apply qaa|apply qac|refine qaf ?_ GE260.out)|exact HB.out)⟩⟩
      ·replace c16 := Bool.eq_false_iff.mpr c16
       subst c16
       have H1 : (relation_Parse.j0 k t261 t270 t272 true) = some (r1,r2,r3,r4) := by rw [if_neg (show ¬ (false = true) by decide)] at H;exact H
       clear H
       have H := H1
       clear H1
       have H' := Aside0.mk H
       clear H
       go_wp2
       go_meet
       case rel => exact ⟨_,(true),(by first|rfl|(simp;done)|(simp [*];done)|(simp [qam];done)),H',⟨by first|omega|exact Nat.le_refl _⟩,⟨by (with_reducible repeat (first|refine qah ?_ _|refine qai ?_|refine qag ?_ _));exact BK260.out⟩,⟨by repeat (first|(with_reducible first|exact HB.out|apply qab|apply qaa|apply qac|refine qaf ?_ GE260.out)|exact HB.out)⟩⟩
     ·replace c15 := Bool.eq_false_iff.mpr c15
      subst c15
      have H1 : (relation_Parse.j0 k t261 t270 t272 true) = some (r1,r2,r3,r4) := by rw [if_neg (show ¬ (false = true) by decide)] at H;exact H
      clear H
      have H := H1
      clear H1
      have H' := Aside0.mk H
      clear H
      go_wp2
      go_meet
      case rel => exact ⟨_,(true),(by first|rfl|(simp;done)|(simp [*];done)|(simp [qam];done)),H',⟨by first|omega|exact Nat.le_refl _⟩,⟨by (with_reducible repeat (first|refine qah ?_ _|refine qai ?_|refine qag ?_ _));exact BK260.out⟩,⟨by repeat (first|(with_reducible first|exact HB.out|apply qab|apply qaa|apply qac|refine qaf ?_ GE260.out)|exact HB.out)⟩⟩
    ·replace c14 := Bool.eq_false_iff.mpr c14
     subst c14
     have H1 : (relation_Parse.j0 k t261 t270 t272 true) = some (r1,r2,r3,r4) := by rw [if_neg (show ¬ (false = true) by decide)] at H;exact H
     clear H
     have H := H1
     clear H1
     have H' := Aside0.mk H
     clear H
     go_wp2
     go_meet
     case rel => exact ⟨_,(true),(by first|rfl|(simp;done)|(simp [*];done)|(simp [qam];done)),H',⟨by first|omega|exact Nat.le_refl _⟩,⟨by (with_reducible repeat (first|refine qah ?_ _|refine qai ?_|refine qag ?_ _));exact BK260.out⟩,⟨by repeat (first|(with_reducible first|exact HB.out|apply qab|apply qaa|apply qac|refine qaf ?_ GE260.out)|exact HB.out)⟩⟩
   case rest =>
    clear HC10
    try clear c1
    try clear c2
    try clear p2
    try clear c4
    try clear c5
    try clear c14
    try clear c15
    try clear c16
    obtain ⟨kq,x51_9,rfl,HA,HJ9,BK260,HB⟩ := hcut
    cases kq with
    | zero => exact absurd HA.out (by simp [relation_Parse.j0])
    | succ kj9 =>
     have H := HA.out
     clear HA
     simp only [relation_Parse.j0] at H
     by_cases c17 : x51_9 = true
     ·subst c17
      have H1 : (some ((⟨#[]⟩ : ByteArray),0,(⟨#[]⟩ : ByteArray),5)) = some (r1,r2,r3,r4) := by rw [if_pos rfl] at H;exact H
      clear H
      have H := H1
      clear H1
      simp only [Option.some.injEq,Prod.mk.injEq] at H
      obtain ⟨rfl,rfl,rfl,rfl⟩ := H
      have hcz18_0 : wc.cell? ⟨gb260,0,none⟩ = some (.string (⟨#[]⟩ : ByteArray)) := (qae BK260.out 0).trans rfl
      have hcz18_1 : wc.cell? ⟨gb260,1,none⟩ = some (.int .i64 0) := (qae BK260.out 1).trans rfl
      have hcz18_2 : wc.cell? ⟨gb260,2,none⟩ = some (.string (⟨#[]⟩ : ByteArray)) := (qae BK260.out 2).trans rfl
      have hfz18_0 := qad BK260.out 0
      have hfz18_1 := qad BK260.out 1
      have hfz18_2 := qad BK260.out 2
      go_wp2
      refine bodyPost_ret (results_ct rfl _ _ gb260 27 #[.string (⟨#[]⟩ : ByteArray),.int .i64 0,.string (⟨#[]⟩ : ByteArray)] (0,0) _ rfl (by (with_reducible repeat (first|refine qah ?_ _|refine qai ?_|refine qag ?_ _));refine blk_put (cs := #[.string (⟨#[]⟩ : ByteArray),.int .i64 0,.string (⟨#[]⟩ : ByteArray)]) ?_ 2 _ rfl;(with_reducible repeat (first|refine qah ?_ _|refine qai ?_|refine qag ?_ _));refine blk_put (cs := #[.string (⟨#[]⟩ : ByteArray),.int .i64 0,.string (⟨#[]⟩ : ByteArray)]) ?_ 1 _ rfl;(with_reducible repeat (first|refine qah ?_ _|refine qai ?_|refine qag ?_ _));refine blk_put (cs := #[.string (⟨#[]⟩ : ByteArray),.int .i64 0,.string (⟨#[]⟩ : ByteArray)]) ?_ 0 _ rfl;(with_reducible repeat (first|refine qah ?_ _|refine qai ?_|refine qag ?_ _));exact BK260.out) Tryz.underlying27 rfl (by kernel_rfl)) rfl ?_
      exact ⟨by first|rfl|(simp [qaj,qak]<;>rfl)|(simp [*,qaj,qak]<;>rfl),by repeat (first|(with_reducible first|exact HB.out|apply qab|apply qaa|apply qac|refine qaf ?_ GE260.out)|exact HB.out)⟩
     ·replace c17 := Bool.eq_false_iff.mpr c17
      subst c17
      have H1 : ((relation_plain.f kj9 t270).bind fun t274 => (if t274 = true then (some (t261,t272,t270,0)) else (some ((⟨#[]⟩ : ByteArray),0,(⟨#[]⟩ : ByteArray),4)))) = some (r1,r2,r3,r4) := by rw [if_neg (show ¬ (false = true) by decide)] at H;exact H
      clear H
      have H := H1
      clear H1
      replace H := Option.bind_eq_some_iff.mp H
      obtain ⟨t274,A190,H⟩ := H
      replace H : (if t274 = true then (some (t261,t272,t270,0)) else (some ((⟨#[]⟩ : ByteArray),0,(⟨#[]⟩ : ByteArray),4))) = some (r1,r2,r3,r4) := H
      have A19 := Aside0.mk A190
      clear A190
      by_cases c20 : t274 = true
      ·subst c20
       have H1 : (some (t261,t272,t270,0)) = some (r1,r2,r3,r4) := by rw [if_pos rfl] at H;exact H
       clear H
       have H := H1
       clear H1
       simp only [Option.some.injEq,Prod.mk.injEq] at H
       obtain ⟨rfl,rfl,rfl,rfl⟩ := H
       go_wp2_with (first|((with_reducible refine qal (f := 124) rfl ?_);refine goesL_ (some 69) rfl rfl Tryz.func124 (by kernel_rfl) rfl #[.string t270] rfl (by first|rfl|(simp only [List.map_toArray,List.map_cons,List.map_nil,List.length_drop,List.length_take];rfl)|simp only [List.map_toArray,List.map_cons,List.map_nil]) ?_;(with_reducible refine (relation_plain.calls kj9 t270 true _ (by first|exact hG|exact GL.below hG (by repeat (first|(with_reducible first|exact HB.out|apply qab|apply qaa|apply qac|refine qaf ?_ GE260.out)|exact HB.out)))  A19.out).mono ?_);rintro e w21 ⟨rfl,hb⟩;refine ⟨_,rfl,?_⟩;have n0_ := Aside0.mk (qaq (g := gb260) (o := .cells #[.string (⟨#[]⟩ : ByteArray),.int .i64 0,.string (⟨#[]⟩ : ByteArray)] 27 (0,0)) (by (with_reducible repeat (first|refine qah ?_ _|refine qai ?_|refine qag ?_ _));exact BK260.out) hb);have n1_ := Aside0.mk (qan (by repeat (first|(with_reducible first|exact HB.out|apply qab|apply qaa|apply qac|refine qaf ?_ GE260.out)|exact HB.out)) hb);clear BK260;clear HB;have BK260 := n0_;have HB := n1_;clear n0_ n1_;(try clear hb);(try clear hb2);(try clear hk);(try clear hi);have hcz22_0 : w21.cell? ⟨gb260,0,none⟩ = some (.string (⟨#[]⟩ : ByteArray)) := (qae BK260.out 0).trans rfl;have hcz22_1 : w21.cell? ⟨gb260,1,none⟩ = some (.int .i64 0) := (qae BK260.out 1).trans rfl;have hcz22_2 : w21.cell? ⟨gb260,2,none⟩ = some (.string (⟨#[]⟩ : ByteArray)) := (qae BK260.out 2).trans rfl;have hfz22_0 := qad BK260.out 0;have hfz22_1 := qad BK260.out 1;have hfz22_2 := qad BK260.out 2))
       refine bodyPost_ret (results_ct rfl _ _ gb260 27 #[.string t261,.int .i64 t272,.string t270] (0,0) _ rfl (by (with_reducible repeat (first|refine qah ?_ _|refine qai ?_|refine qag ?_ _));refine blk_put (cs := #[.string t261,.int .i64 t272,.string (⟨#[]⟩ : ByteArray)]) ?_ 2 _ rfl;(with_reducible repeat (first|refine qah ?_ _|refine qai ?_|refine qag ?_ _));refine blk_put (cs := #[.string t261,.int .i64 0,.string (⟨#[]⟩ : ByteArray)]) ?_ 1 _ rfl;(with_reducible repeat (first|refine qah ?_ _|refine qai ?_|refine qag ?_ _));refine blk_put (cs := #[.string (⟨#[]⟩ : ByteArray),.int .i64 0,.string (⟨#[]⟩ : ByteArray)]) ?_ 0 _ rfl;(with_reducible repeat (first|refine qah ?_ _|refine qai ?_|refine qag ?_ _));exact BK260.out) Tryz.underlying27 rfl (by kernel_rfl)) rfl ?_
       exact ⟨by first|rfl|(simp [qaj,qak]<;>rfl)|(simp [*,qaj,qak]<;>rfl),by repeat (first|(with_reducible first|exact HB.out|apply qab|apply qaa|apply qac|refine qaf ?_ GE260.out)|exact HB.out)⟩
      ·replace c20 := Bool.eq_false_iff.mpr c20
       subst c20
       have H1 : (some ((⟨#[]⟩ : ByteArray),0,(⟨#[]⟩ : ByteArray),4)) = some (r1,r2,r3,r4) := by rw [if_neg (show ¬ (false = true) by decide)] at H;exact H
       clear H
       have H := H1
       clear H1
       simp only [Option.some.injEq,Prod.mk.injEq] at H
       obtain ⟨rfl,rfl,rfl,rfl⟩ := H
       go_wp2_with (first|((with_reducible refine qal (f := 124) rfl ?_);refine goesL_ (some 69) rfl rfl Tryz.func124 (by kernel_rfl) rfl #[.string t270] rfl (by first|rfl|(simp only [List.map_toArray,List.map_cons,List.map_nil,List.length_drop,List.length_take];rfl)|simp only [List.map_toArray,List.map_cons,List.map_nil]) ?_;(with_reducible refine (relation_plain.calls kj9 t270 false _ (by first|exact hG|exact GL.below hG (by repeat (first|(with_reducible first|exact HB.out|apply qab|apply qaa|apply qac|refine qaf ?_ GE260.out)|exact HB.out)))  A19.out).mono ?_);rintro e w23 ⟨rfl,hb⟩;refine ⟨_,rfl,?_⟩;have n0_ := Aside0.mk (qaq (g := gb260) (o := .cells #[.string (⟨#[]⟩ : ByteArray),.int .i64 0,.string (⟨#[]⟩ : ByteArray)] 27 (0,0)) (by (with_reducible repeat (first|refine qah ?_ _|refine qai ?_|refine qag ?_ _));exact BK260.out) hb);have n1_ := Aside0.mk (qan (by repeat (first|(with_reducible first|exact HB.out|apply qab|apply qaa|apply qac|refine qaf ?_ GE260.out)|exact HB.out)) hb);clear BK260;clear HB;have BK260 := n0_;have HB := n1_;clear n0_ n1_;(try clear hb);(try clear hb2);(try clear hk);(try clear hi);have hcz24_0 : w23.cell? ⟨gb260,0,none⟩ = some (.string (⟨#[]⟩ : ByteArray)) := (qae BK260.out 0).trans rfl;have hcz24_1 : w23.cell? ⟨gb260,1,none⟩ = some (.int .i64 0) := (qae BK260.out 1).trans rfl;have hcz24_2 : w23.cell? ⟨gb260,2,none⟩ = some (.string (⟨#[]⟩ : ByteArray)) := (qae BK260.out 2).trans rfl;have hfz24_0 := qad BK260.out 0;have hfz24_1 := qad BK260.out 1;have hfz24_2 := qad BK260.out 2))
       refine bodyPost_ret (results_ct rfl _ _ gb260 27 #[.string (⟨#[]⟩ : ByteArray),.int .i64 0,.string (⟨#[]⟩ : ByteArray)] (0,0) _ rfl (by (with_reducible repeat (first|refine qah ?_ _|refine qai ?_|refine qag ?_ _));refine blk_put (cs := #[.string (⟨#[]⟩ : ByteArray),.int .i64 0,.string (⟨#[]⟩ : ByteArray)]) ?_ 2 _ rfl;(with_reducible repeat (first|refine qah ?_ _|refine qai ?_|refine qag ?_ _));refine blk_put (cs := #[.string (⟨#[]⟩ : ByteArray),.int .i64 0,.string (⟨#[]⟩ : ByteArray)]) ?_ 1 _ rfl;(with_reducible repeat (first|refine qah ?_ _|refine qai ?_|refine qag ?_ _));refine blk_put (cs := #[.string (⟨#[]⟩ : ByteArray),.int .i64 0,.string (⟨#[]⟩ : ByteArray)]) ?_ 0 _ rfl;(with_reducible repeat (first|refine qah ?_ _|refine qai ?_|refine qag ?_ _));exact BK260.out) Tryz.underlying27 rfl (by kernel_rfl)) rfl ?_
       exact ⟨by first|rfl|(simp [qaj,qak]<;>rfl)|(simp [*,qaj,qak]<;>rfl),by repeat (first|(with_reducible first|exact HB.out|apply qab|apply qaa|apply qac|refine qaf ?_ GE260.out)|exact HB.out)⟩
  ·replace c5 := Bool.eq_false_iff.mpr c5
   subst c5
   have H1 : (some (t261,0,(⟨#[]⟩ : ByteArray),0)) = some (r1,r2,r3,r4) := by rw [if_neg (show ¬ (false = true) by decide)] at H;exact H
   clear H
   have H := H1
   clear H1
   simp only [Option.some.injEq,Prod.mk.injEq] at H
   obtain ⟨rfl,rfl,rfl,rfl⟩ := H
   go_enter Tryz.func144,Tryz.ntmps144
   go_wp2_with (first|((with_reducible refine gate_dst (N := 2) rfl ?_);refine box_event ?hg (N := 2) ?hd (cs := #[.string (⟨#[]⟩ : ByteArray),.int .i64 0,.string (⟨#[]⟩ : ByteArray)]) (t := 27) ?hr ?_;(case hd => rfl);(case hg => rfl);(case hr => first|(go_simp;done)|(go_simp;rfl));intro gb260 hg w25 hbox hb;have n0_ := Aside0.mk (qan (by repeat (with_reducible first|exact HB.out|apply qab|apply qaa|apply qac)) hb);have n1_ := Aside0.mk (hbox);have n2_ := Aside0.mk ((by rw [hg];exact (qao (by repeat (with_reducible first|exact HB.out|apply qab|apply qaa|apply qac))) : w.heap.size ≤ gb260));have n3_ := Aside0.mk ((by rw [hg];exact (qao (by repeat (with_reducible first|exact HB.out|apply qab|apply qaa|apply qac))) : w.heap.size ≤ gb260));clear HB;have HB := n0_;have BK260 := n1_;have GW260 := n2_;have GE260 := n3_;clear n0_ n1_ n2_ n3_;clear hb hbox hg)|((with_reducible refine qal (f := 169) rfl ?_);refine goesL_ (some 16) rfl rfl Tryz.func169 (by kernel_rfl) rfl #[.string a0,.string (⟨#[32]⟩ : ByteArray)] rfl (by first|rfl|(simp only [List.map_toArray,List.map_cons,List.map_nil,List.length_drop,List.length_take];rfl)|simp only [List.map_toArray,List.map_cons,List.map_nil]) ?_;(with_reducible refine (strings_Cut.calls a0 (⟨#[32]⟩ : ByteArray) t261 t262 false _ (by first|exact hG|exact GL.below hG (by repeat (first|(with_reducible first|exact HB.out|apply qab|apply qaa|apply qac|refine qaf ?_ GE260.out)|exact HB.out)))  A2.out).mono ?_);rintro e w' ⟨rfl,⟨nd,rfl⟩⟩;refine ⟨_,rfl,?_⟩;(try (rw [drewN_self w25];generalize hq_ : World.drewN w25 _ = w25;have n0_ : Aside0 (w25.heap[gb260]? = some (.cells #[.string (⟨#[]⟩ : ByteArray),.int .i64 0,.string (⟨#[]⟩ : ByteArray)] 27 (0,0))) := ⟨by rw [← hq_];exact (by (with_reducible repeat (first|refine qah ?_ _|refine qai ?_|refine qag ?_ _));exact BK260.out)⟩;have n1_ : Aside0 (Below w.heap.size w w25) := ⟨by rw [← hq_];exact (by repeat (first|(with_reducible first|exact HB.out|apply qab|apply qaa|apply qac|refine qaf ?_ GE260.out)|exact HB.out))⟩;clear BK260 HB hq_;have BK260 := n0_;have HB := n1_;clear n0_ n1_)))|((with_reducible refine qal (f := 58) rfl ?_);refine goesL_ (some 22) rfl rfl Tryz.func58 (by kernel_rfl) rfl #[.string t261] rfl (by first|rfl|(simp only [List.map_toArray,List.map_cons,List.map_nil,List.length_drop,List.length_take];rfl)|simp only [List.map_toArray,List.map_cons,List.map_nil]) ?_;(with_reducible refine (relation_Name.calls k t261 true _ (by first|exact hG|exact GL.below hG (by repeat (first|(with_reducible first|exact HB.out|apply qab|apply qaa|apply qac|refine qaf ?_ GE260.out)|exact HB.out)))  A3.out).mono ?_);rintro e w26 ⟨rfl,hb⟩;refine ⟨_,rfl,?_⟩;have n0_ := Aside0.mk (qaq (g := gb260) (o := .cells #[.string (⟨#[]⟩ : ByteArray),.int .i64 0,.string (⟨#[]⟩ : ByteArray)] 27 (0,0)) (by (with_reducible repeat (first|refine qah ?_ _|refine qai ?_|refine qag ?_ _));exact BK260.out) hb);have n1_ := Aside0.mk (qan (by repeat (first|(with_reducible first|exact HB.out|apply qab|apply qaa|apply qac|refine qaf ?_ GE260.out)|exact HB.out)) hb);clear BK260;clear HB;have BK260 := n0_;have HB := n1_;clear n0_ n1_;(try clear hb);(try clear hb2);(try clear hk);(try clear hi);have hcz27_0 : w26.cell? ⟨gb260,0,none⟩ = some (.string (⟨#[]⟩ : ByteArray)) := (qae BK260.out 0).trans rfl;have hcz27_1 : w26.cell? ⟨gb260,1,none⟩ = some (.int .i64 0) := (qae BK260.out 1).trans rfl;have hcz27_2 : w26.cell? ⟨gb260,2,none⟩ = some (.string (⟨#[]⟩ : ByteArray)) := (qae BK260.out 2).trans rfl;have hfz27_0 := qad BK260.out 0;have hfz27_1 := qad BK260.out 1;have hfz27_2 := qad BK260.out 2))
   refine bodyPost_ret (results_ct rfl _ _ gb260 27 #[.string t261,.int .i64 0,.string (⟨#[]⟩ : ByteArray)] (0,0) _ rfl (by (with_reducible repeat (first|refine qah ?_ _|refine qai ?_|refine qag ?_ _));refine blk_put (cs := #[.string t261,.int .i64 0,.string (⟨#[]⟩ : ByteArray)]) ?_ 2 _ rfl;(with_reducible repeat (first|refine qah ?_ _|refine qai ?_|refine qag ?_ _));refine blk_put (cs := #[.string t261,.int .i64 0,.string (⟨#[]⟩ : ByteArray)]) ?_ 1 _ rfl;(with_reducible repeat (first|refine qah ?_ _|refine qai ?_|refine qag ?_ _));refine blk_put (cs := #[.string (⟨#[]⟩ : ByteArray),.int .i64 0,.string (⟨#[]⟩ : ByteArray)]) ?_ 0 _ rfl;(with_reducible repeat (first|refine qah ?_ _|refine qai ?_|refine qag ?_ _));exact BK260.out) Tryz.underlying27 rfl (by kernel_rfl)) rfl ?_
   exact ⟨by first|rfl|(simp [qaj,qak]<;>rfl)|(simp [*,qaj,qak]<;>rfl),by repeat (first|(with_reducible first|exact HB.out|apply qab|apply qaa|apply qac|refine qaf ?_ GE260.out)|exact HB.out)⟩
 ·replace c4 := Bool.eq_false_iff.mpr c4
  subst c4
  have H1 : (some ((⟨#[]⟩ : ByteArray),0,(⟨#[]⟩ : ByteArray),3)) = some (r1,r2,r3,r4) := by rw [if_neg (show ¬ (false = true) by decide)] at H;exact H
  clear H
  have H := H1
  clear H1
  simp only [Option.some.injEq,Prod.mk.injEq] at H
  obtain ⟨rfl,rfl,rfl,rfl⟩ := H
  go_enter Tryz.func144,Tryz.ntmps144
  go_wp2_with (first|((with_reducible refine gate_dst (N := 2) rfl ?_);refine box_event ?hg (N := 2) ?hd (cs := #[.string (⟨#[]⟩ : ByteArray),.int .i64 0,.string (⟨#[]⟩ : ByteArray)]) (t := 27) ?hr ?_;(case hd => rfl);(case hg => rfl);(case hr => first|(go_simp;done)|(go_simp;rfl));intro gb260 hg w28 hbox hb;have n0_ := Aside0.mk (qan (by repeat (with_reducible first|exact HB.out|apply qab|apply qaa|apply qac)) hb);have n1_ := Aside0.mk (hbox);have n2_ := Aside0.mk ((by rw [hg];exact (qao (by repeat (with_reducible first|exact HB.out|apply qab|apply qaa|apply qac))) : w.heap.size ≤ gb260));have n3_ := Aside0.mk ((by rw [hg];exact (qao (by repeat (with_reducible first|exact HB.out|apply qab|apply qaa|apply qac))) : w.heap.size ≤ gb260));clear HB;have HB := n0_;have BK260 := n1_;have GW260 := n2_;have GE260 := n3_;clear n0_ n1_ n2_ n3_;clear hb hbox hg)|((with_reducible refine qal (f := 169) rfl ?_);refine goesL_ (some 16) rfl rfl Tryz.func169 (by kernel_rfl) rfl #[.string a0,.string (⟨#[32]⟩ : ByteArray)] rfl (by first|rfl|(simp only [List.map_toArray,List.map_cons,List.map_nil,List.length_drop,List.length_take];rfl)|simp only [List.map_toArray,List.map_cons,List.map_nil]) ?_;(with_reducible refine (strings_Cut.calls a0 (⟨#[32]⟩ : ByteArray) t261 t262 t263 _ (by first|exact hG|exact GL.below hG (by repeat (first|(with_reducible first|exact HB.out|apply qab|apply qaa|apply qac|refine qaf ?_ GE260.out)|exact HB.out)))  A2.out).mono ?_);rintro e w' ⟨rfl,⟨nd,rfl⟩⟩;refine ⟨_,rfl,?_⟩;(try (rw [drewN_self w28];generalize hq_ : World.drewN w28 _ = w28;have n0_ : Aside0 (w28.heap[gb260]? = some (.cells #[.string (⟨#[]⟩ : ByteArray),.int .i64 0,.string (⟨#[]⟩ : ByteArray)] 27 (0,0))) := ⟨by rw [← hq_];exact (by (with_reducible repeat (first|refine qah ?_ _|refine qai ?_|refine qag ?_ _));exact BK260.out)⟩;have n1_ : Aside0 (Below w.heap.size w w28) := ⟨by rw [← hq_];exact (by repeat (first|(with_reducible first|exact HB.out|apply qab|apply qaa|apply qac|refine qaf ?_ GE260.out)|exact HB.out))⟩;clear BK260 HB hq_;have BK260 := n0_;have HB := n1_;clear n0_ n1_)))|((with_reducible refine qal (f := 58) rfl ?_);refine goesL_ (some 22) rfl rfl Tryz.func58 (by kernel_rfl) rfl #[.string t261] rfl (by first|rfl|(simp only [List.map_toArray,List.map_cons,List.map_nil,List.length_drop,List.length_take];rfl)|simp only [List.map_toArray,List.map_cons,List.map_nil]) ?_;(with_reducible refine (relation_Name.calls k t261 false _ (by first|exact hG|exact GL.below hG (by repeat (first|(with_reducible first|exact HB.out|apply qab|apply qaa|apply qac|refine qaf ?_ GE260.out)|exact HB.out)))  A3.out).mono ?_);rintro e w29 ⟨rfl,hb⟩;refine ⟨_,rfl,?_⟩;have n0_ := Aside0.mk (qaq (g := gb260) (o := .cells #[.string (⟨#[]⟩ : ByteArray),.int .i64 0,.string (⟨#[]⟩ : ByteArray)] 27 (0,0)) (by (with_reducible repeat (first|refine qah ?_ _|refine qai ?_|refine qag ?_ _));exact BK260.out) hb);have n1_ := Aside0.mk (qan (by repeat (first|(with_reducible first|exact HB.out|apply qab|apply qaa|apply qac|refine qaf ?_ GE260.out)|exact HB.out)) hb);clear BK260;clear HB;have BK260 := n0_;have HB := n1_;clear n0_ n1_;(try clear hb);(try clear hb2);(try clear hk);(try clear hi);have hcz30_0 : w29.cell? ⟨gb260,0,none⟩ = some (.string (⟨#[]⟩ : ByteArray)) := (qae BK260.out 0).trans rfl;have hcz30_1 : w29.cell? ⟨gb260,1,none⟩ = some (.int .i64 0) := (qae BK260.out 1).trans rfl;have hcz30_2 : w29.cell? ⟨gb260,2,none⟩ = some (.string (⟨#[]⟩ : ByteArray)) := (qae BK260.out 2).trans rfl;have hfz30_0 := qad BK260.out 0;have hfz30_1 := qad BK260.out 1;have hfz30_2 := qad BK260.out 2))
  refine bodyPost_ret (results_ct rfl _ _ gb260 27 #[.string (⟨#[]⟩ : ByteArray),.int .i64 0,.string (⟨#[]⟩ : ByteArray)] (0,0) _ rfl (by (with_reducible repeat (first|refine qah ?_ _|refine qai ?_|refine qag ?_ _));refine blk_put (cs := #[.string (⟨#[]⟩ : ByteArray),.int .i64 0,.string (⟨#[]⟩ : ByteArray)]) ?_ 2 _ rfl;(with_reducible repeat (first|refine qah ?_ _|refine qai ?_|refine qag ?_ _));refine blk_put (cs := #[.string (⟨#[]⟩ : ByteArray),.int .i64 0,.string (⟨#[]⟩ : ByteArray)]) ?_ 1 _ rfl;(with_reducible repeat (first|refine qah ?_ _|refine qai ?_|refine qag ?_ _));refine blk_put (cs := #[.string (⟨#[]⟩ : ByteArray),.int .i64 0,.string (⟨#[]⟩ : ByteArray)]) ?_ 0 _ rfl;(with_reducible repeat (first|refine qah ?_ _|refine qai ?_|refine qag ?_ _));exact BK260.out) Tryz.underlying27 rfl (by kernel_rfl)) rfl ?_
  exact ⟨by first|rfl|(simp [qaj,qak]<;>rfl)|(simp [*,qaj,qak]<;>rfl),by repeat (first|(with_reducible first|exact HB.out|apply qab|apply qaa|apply qac|refine qaf ?_ GE260.out)|exact HB.out)⟩
def slices_IndexFunc_string_string_142.l0 : Nat → List ByteArray → Int → Int → Option (Int)
 | 0,_,_,_ => none
 | k + 1,x0,x7,x8 => if x8 < x7 then (if 0 ≤ x8 then (if x8 < (x0.length : Int) then ((depends_Parse_1.f (rdOf ByteArray.empty x0 x8)).bind fun t276 => (if t276 = true then (some x8) else (slices_IndexFunc_string_string_142.l0 k x0 x7 (wrap64 (x8 + 1))))) else (none)) else (none)) else (some (-1))
def slices_IndexFunc_string_string_142.f (k : Nat) (l0 : List ByteArray) (a1 : Nat) : Option (Int) := slices_IndexFunc_string_string_142.l0 k l0 (l0.length : Int) 0
theorem slices_IndexFunc_string_string_142.mono_l : ∀ k,(∀ y0 y1 y2,LeO (slices_IndexFunc_string_string_142.l0 k y0 y1 y2) (slices_IndexFunc_string_string_142.l0 (k + 1) y0 y1 y2))
 | 0 => fun _ _ _ r h => by simp [slices_IndexFunc_string_string_142.l0] at h
 | k + 1 => by
  have ih0 := slices_IndexFunc_string_string_142.mono_l k
  ·intro y0 y1 y2
   unfold slices_IndexFunc_string_string_142.l0
   repeat' first
   | (with_reducible exact ih0 _ _ _)
   | (with_reducible exact LeO.refl _)
   | (with_reducible exact LeO.none _)
   | (with_reducible refine LeO.ite ?_ ?_)
   | (with_reducible refine LeO.bind ?_ (fun _ => ?_))
   | exact ih0 _ _ _
   | exact LeO.none _
   | refine LeO.ite ?_ ?_
   | refine LeO.bind ?_ (fun _ => ?_)
theorem slices_IndexFunc_string_string_142.mono : ∀ a0 a1 k,LeO (slices_IndexFunc_string_string_142.f k a0 a1) (slices_IndexFunc_string_string_142.f (k + 1) a0 a1) := by
 intro a0 a1 k
 have ih0 := slices_IndexFunc_string_string_142.mono_l k
 unfold slices_IndexFunc_string_string_142.f
 repeat' first
   | (with_reducible exact ih0 _ _ _)
   | (with_reducible exact LeO.refl _)
   | (with_reducible exact LeO.none _)
   | (with_reducible refine LeO.ite ?_ ?_)
   | (with_reducible refine LeO.bind ?_ (fun _ => ?_))
   | exact ih0 _ _ _
   | exact LeO.none _
   | refine LeO.ite ?_ ?_
   | refine LeO.bind ?_ (fun _ => ?_)
theorem slices_IndexFunc_string_string_142.calls (k : Nat) (A0 : Option Addr) (c0 : Nat) (l0 : List ByteArray) (a1 : Nat) (r : Int) (w : World) (hG : GL w) (hr0 : Kd.C Kd.string w A0 l0.length l0) (hc0 : l0.length ≤ c0) (h : slices_IndexFunc_string_string_142.f k l0 a1 = some r) :
  Calls Tryz.prog 202 #[.slice A0 l0.length c0,.func (.func 142) #[] #[]] w fun e w' => e = .returned (.int .i64 r) ∧ Drawn0 w w' := by
 have HR0 := Aside0.mk hr0
 have HC0 := Aside0.mk hc0
 clear hr0 hc0
 have H : (slices_IndexFunc_string_string_142.l0 k l0 (l0.length : Int) 0) = some r := h
 clear h
 have H' := Aside0.mk H
 clear H
 go_enter Tryz.func202,Tryz.ntmps202
 go_wp2
 go_loopg [8] k (fun kq v8 w' => ∃ (x8_1 : Int),v8 = .int .i64 x8_1 ∧ Aside0 (slices_IndexFunc_string_string_142.l0 kq l0 (l0.length : Int) x8_1 = some r) ∧ Aside0 (kq ≤ k) ∧ Drawn0 w w')
 case atStart => exact ⟨(0),(by first|rfl|(simp;done)|(simp [*];done)|(simp [qam];done)),H',⟨Nat.le_refl _⟩,by repeat (first|exact Drawn0.refl _|apply Drawn0.step)⟩
 case round =>
  clear H'
  try clear p2
  obtain ⟨x8_1,rfl,HA,HK1,⟨m1,rfl⟩⟩ := hrel
  cases gk with
  | zero => exact absurd HA.out (by simp [slices_IndexFunc_string_string_142.l0])
  | succ k1 =>
   have H := HA.out
   clear HA
   simp only [slices_IndexFunc_string_string_142.l0] at H
   by_cases c3 : x8_1 < (l0.length : Int)
   ·rw [if_pos c3] at H
    have c3b0 : decide (x8_1 < (l0.length : Int)) = true := decide_eq_true c3
    clear c3
    by_cases c4 : 0 ≤ x8_1
    ·rw [if_pos c4] at H
     have c4b0 : decide (0 ≤ x8_1) = true := decide_eq_true c4
     clear c4
     by_cases c5 : x8_1 < (l0.length : Int)
     ·rw [if_pos c5] at H
      have c5b0 : decide (x8_1 < (l0.length : Int)) = true := decide_eq_true c5
      clear c5
      replace H := Option.bind_eq_some_iff.mp H
      obtain ⟨t276,A60,H⟩ := H
      replace H : (if t276 = true then (some x8_1) else (slices_IndexFunc_string_string_142.l0 k1 l0 (l0.length : Int) (wrap64 (x8_1 + 1)))) = some r := H
      have A6 := Aside0.mk A60
      clear A60
      by_cases c7 : t276 = true
      ·subst c7
       have H1 : (some x8_1) = some r := by rw [if_pos rfl] at H;exact H
       clear H
       have H := H1
       clear H1
       obtain rfl := Option.some.inj H
       have p275 : 0 ≤ (x8_1 : Int) := of_decide_eq_true (by assumption)
       have q275 : x8_1 < (l0.length : Int) := of_decide_eq_true (by assumption)
       obtain ⟨ad275,e275,hx275_0⟩ := Kd.at_string HR0.out x8_1 p275 q275
       cases e275
       replace p275 := eq_true p275
       replace q275 := eq_true q275
       go_wp2_with (first|(go_at_call 142;(with_reducible refine (depends_Parse_1.calls (rdOf ByteArray.empty l0 x8_1) true _ (by first|exact hG|(repeat (first|exact hG|apply GL.drewN|apply GL.drew)))  A6.out).mono ?_);rintro e w' ⟨rfl,⟨nd,rfl⟩⟩))
       go_ret
       exact ⟨by first|rfl|(simp;done)|(simp [*];done)|(simp [qam];done),by repeat (first|exact Drawn0.refl _|apply Drawn0.step)⟩
      ·replace c7 := Bool.eq_false_iff.mpr c7
       subst c7
       have H1 : (slices_IndexFunc_string_string_142.l0 k1 l0 (l0.length : Int) (wrap64 (x8_1 + 1))) = some r := by rw [if_neg (show ¬ (false = true) by decide)] at H;exact H
       clear H
       have H := H1
       clear H1
       have H' := Aside0.mk H
       clear H
       have p275 : 0 ≤ (x8_1 : Int) := of_decide_eq_true (by assumption)
       have q275 : x8_1 < (l0.length : Int) := of_decide_eq_true (by assumption)
       obtain ⟨ad275,e275,hx275_0⟩ := Kd.at_string HR0.out x8_1 p275 q275
       cases e275
       replace p275 := eq_true p275
       replace q275 := eq_true q275
       go_wp2_with (first|(go_at_call 142;(with_reducible refine (depends_Parse_1.calls (rdOf ByteArray.empty l0 x8_1) false _ (by first|exact hG|(repeat (first|exact hG|apply GL.drewN|apply GL.drew)))  A6.out).mono ?_);rintro e w' ⟨rfl,⟨nd,rfl⟩⟩))
       go_roundg k1
       case measure => have := HK1.out;omega
       case rel => exact ⟨(wrap64 (x8_1 + 1)),(by first|rfl|(simp;done)|(simp [*];done)|(simp [qam];done)),H',⟨by have := HK1.out;omega⟩,by repeat (first|exact Drawn0.refl _|apply Drawn0.step)⟩
     ·rw [if_neg c5] at H
      exact absurd H (by simp)
    ·rw [if_neg c4] at H
     exact absurd H (by simp)
   ·rw [if_neg c3] at H
    have c3b0 : decide (x8_1 < (l0.length : Int)) = false := decide_eq_false c3
    clear c3
    obtain rfl := Option.some.inj H
    go_wp2
    go_ret
    exact ⟨by first|rfl|(simp;done)|(simp [*];done)|(simp [qam];done),by repeat (first|exact Drawn0.refl _|apply Drawn0.step)⟩
def slices_ContainsFunc_string_string_142.f (k : Nat) (l0 : List ByteArray) (a1 : Nat) : Option (Bool) := (slices_IndexFunc_string_string_142.f k l0 a1).bind fun t277 => (some (decide (t277 ≥ 0)))
theorem slices_ContainsFunc_string_string_142.mono : ∀ a0 a1 k,LeO (slices_ContainsFunc_string_string_142.f k a0 a1) (slices_ContainsFunc_string_string_142.f (k + 1) a0 a1) := by
 intro a0 a1 k
 unfold slices_ContainsFunc_string_string_142.f
 repeat' first
   | (with_reducible exact slices_IndexFunc_string_string_142.mono _ _ _)
   | (with_reducible exact LeO.refl _)
   | (with_reducible exact LeO.none _)
   | (with_reducible refine LeO.ite ?_ ?_)
   | (with_reducible refine LeO.bind ?_ (fun _ => ?_))
   | exact slices_IndexFunc_string_string_142.mono _ _ _
   | exact LeO.none _
   | refine LeO.ite ?_ ?_
   | refine LeO.bind ?_ (fun _ => ?_)
theorem slices_ContainsFunc_string_string_142.calls (k : Nat) (A0 : Option Addr) (c0 : Nat) (l0 : List ByteArray) (a1 : Nat) (r : Bool) (w : World) (hG : GL w) (hr0 : Kd.C Kd.string w A0 l0.length l0) (hc0 : l0.length ≤ c0) (h : slices_ContainsFunc_string_string_142.f k l0 a1 = some r) :
  Calls Tryz.prog 141 #[.slice A0 l0.length c0,.func (.func 142) #[] #[]] w fun e w' => e = .returned (.bool r) ∧ Drawn0 w w' := by
 have HR0 := Aside0.mk hr0
 have HC0 := Aside0.mk hc0
 clear hr0 hc0
 have H : ((slices_IndexFunc_string_string_142.f k l0 a1).bind fun t277 => (some (decide (t277 ≥ 0)))) = some r := h
 clear h
 replace H := Option.bind_eq_some_iff.mp H
 obtain ⟨t277,A30,H⟩ := H
 replace H : (some (decide (t277 ≥ 0))) = some r := H
 have A3 := Aside0.mk A30
 clear A30
 obtain rfl := Option.some.inj H
 go_enter Tryz.func141,Tryz.ntmps141
 go_wp2_with (first|((with_reducible refine qal (f := 202) rfl ?_);refine goesL_ (some 7) rfl rfl Tryz.func202 (by kernel_rfl) rfl #[.slice A0 l0.length c0,.func (.func 142) #[] #[]] rfl (by first|rfl|(simp only [List.map_toArray,List.map_cons,List.map_nil,List.length_drop,List.length_take];rfl)|simp only [List.map_toArray,List.map_cons,List.map_nil]) ?_;(with_reducible refine (slices_IndexFunc_string_string_142.calls k _ _ l0 a1 t277 _ (by first|exact hG|(repeat (first|exact hG|apply GL.drewN|apply GL.drew)))  ?side1 ?side2 A3.out).mono ?_);(case side1 => repeat (first|exact HR0.out|(with_reducible refine Kd.C_alloc ?_ _)|(with_reducible refine Kd.C_drewN ?_ _)|(with_reducible refine Kd.C_drew ?_)));(case side2 => exact HC0.out);rintro e w' ⟨rfl,⟨nd,rfl⟩⟩;refine ⟨_,rfl,?_⟩))
 go_ret
 exact ⟨by first|rfl|(simp;done)|(simp [*];done)|(simp [qam];done),by repeat (first|exact Drawn0.refl _|apply Drawn0.step)⟩
end Go.Proofs.YtooomjcdlfdnmaaGreatDoor.PA
