
import Derived.Test.YtjbbgekkombpnaaGreatDoorPAx0
import Derived.Test.YtjbbgekkombpnaaGreatDoorPAx7
import Derived.Test.YtjbbgekkombpnaaGreatDoorPAx8
import Derived.Test.YtjbbgekkombpnaaGreatDoorPAx11
import Derived.Test.YtjbbgekkombpnaaGreatDoorPAx18
import Derived.Test.YtjbbgekkombpnaaGreatDoorPAx12
import Derived.Test.YtjbbgekkombpnaaGreatDoorPAx15
import Derived.Test.YtjbbgekkombpnaaGreatDoorPAx19
noncomputable section
namespace Go.Proofs.YtjbbgekkombpnaaGreatDoor.PA
open Go.RowKit Go.Proofs.YtjbbgekkombpnaaGreatDoorW.PrintWords Go.Proofs.YtjbbgekkombpnaaGreatDoorW.PrintLast Go.Proofs.YtjbbgekkombpnaaGreatDoorW.PrintMore
attribute [local go_sem] max2_int min2_int max_two min_two max_three min_three max_four min_four
set_option maxHeartbeats 8000000
set_option maxRecDepth 100000
set_option linter.unusedVariables false
set_option linter.unusedSimpArgs false
def depends_Join.l0 : Nat → List (List (S39)) → List (S39) → Int → Int → Option (ByteArray)
 | 0,_,_,_,_ => none
 | k + 1,x3,x6,x7,x8 => if x8 < x7 then (if 0 ≤ x8 then (if x8 < (x6.length : Int) then (if x3.length < 5864062014805 then (depends_Join.l0 k (x3 ++ [(([(⟨(rd_T39 x6 x8).f0,(rd_T39 x6 x8).f1,(rd_T39 x6 x8).f2⟩ : S39)] : List (S39)))]) x6 x7 (wrap64 (x8 + 1))) else (none)) else (none)) else (none)) else ((depends_Print.f k x3).bind fun t402 => (some t402))
def depends_Join.f (k : Nat) (l0 : List (S39)) : Option (ByteArray) := depends_Join.l0 k ([] : List (List (S39))) l0 (l0.length : Int) 0
theorem depends_Join.mono_l : ∀ k,(∀ y0 y1 y2 y3,LeO (depends_Join.l0 k y0 y1 y2 y3) (depends_Join.l0 (k + 1) y0 y1 y2 y3))
 | 0 => fun _ _ _ _ r h => by simp [depends_Join.l0] at h
 | k + 1 => by
  have ih0 := depends_Join.mono_l k
  ·intro y0 y1 y2 y3
   unfold depends_Join.l0
   repeat' first
   | (with_reducible exact ih0 _ _ _ _)
   | (with_reducible exact depends_Print.mono _ _)
   | (with_reducible exact LeO.refl _)
   | (with_reducible exact LeO.none _)
   | (with_reducible refine LeO.ite ?_ ?_)
   | (with_reducible refine LeO.bind ?_ (fun _ => ?_))
   | exact ih0 _ _ _ _
   | exact depends_Print.mono _ _
   | exact LeO.none _
   | refine LeO.ite ?_ ?_
   | refine LeO.bind ?_ (fun _ => ?_)
theorem depends_Join.mono : ∀ a0 k,LeO (depends_Join.f k a0) (depends_Join.f (k + 1) a0) := by
 intro a0 k
 have ih0 := depends_Join.mono_l k
 unfold depends_Join.f
 repeat' first
   | (with_reducible exact ih0 _ _ _ _)
   | (with_reducible exact depends_Print.mono _ _)
   | (with_reducible exact LeO.refl _)
   | (with_reducible exact LeO.none _)
   | (with_reducible refine LeO.ite ?_ ?_)
   | (with_reducible refine LeO.bind ?_ (fun _ => ?_))
   | exact ih0 _ _ _ _
   | exact depends_Print.mono _ _
   | exact LeO.none _
   | refine LeO.ite ?_ ?_
   | refine LeO.bind ?_ (fun _ => ?_)
theorem depends_Join.calls (k : Nat) (A0 : Option Addr) (c0 : Nat) (l0 : List (S39)) (r : ByteArray) (w : World) (hG : GL w) (hr0 : Kd.C k39 w A0 l0.length l0) (hc0 : l0.length ≤ c0) (h : depends_Join.f k l0 = some r) :
  Calls Tryz.prog 26 #[.slice A0 l0.length c0] w fun e w' => e = .returned (.string r) ∧ Below w.heap.size w w' := by
 have hu39 := Tryz.underlying39
 have HR0 := Aside0.mk hr0
 have HC0 := Aside0.mk hc0
 clear hr0 hc0
 have HB := Aside0.mk (Below.refl w.heap.size w)
 have H : (depends_Join.l0 k ([] : List (List (S39))) l0 (l0.length : Int) 0) = some r := h
 clear h
 have H' := Aside0.mk H
 clear H
 go_enter Tryz.func26,Tryz.ntmps26
 go_wp2
 go_loopg [3,8] k (fun kq v3 v8 w' => ∃ (x3_1 : List (List (S39))) (x8_1 : Int),v8 = .int .i64 x8_1 ∧ Aside0 (depends_Join.l0 kq x3_1 l0 (l0.length : Int) x8_1 = some r) ∧ Aside0 (kq ≤ k) ∧ Aside0 (Kd.S (Kd.slice 39 k39) 48 w' w.heap.size (fun _ => True) v3 x3_1) ∧ Aside0 (Below w.heap.size w w'))
 case atStart => exact ⟨(([] : List (List (S39)))),(0),(by first|rfl|(simp;done)|(simp [*];done)|(simp [qaj];done)),H',⟨Nat.le_refl _⟩,⟨by first|exact Kd.S_nil _ _ _ _ _|exact Kd.N_nil _ _ _ _ _|exact Kd.V_nil _ _ _ _ _|exact Kd.Q_nil _ _ _ _ _|exact Kd.R_nil _ _ _ _ _⟩,⟨by repeat (with_reducible first|exact HB.out|apply qab|apply qaa|apply qac)⟩⟩
 case round =>
  clear H'
  obtain ⟨x3_1,x8_1,rfl,HA,HK1,HO_3,HB⟩ := hrel
  cases gk with
  | zero => exact absurd HA.out (by simp [depends_Join.l0])
  | succ k1 =>
   have H := HA.out
   clear HA
   simp only [depends_Join.l0] at H
   by_cases c2 : x8_1 < (l0.length : Int)
   ·rw [if_pos c2] at H
    have c2b0 : decide (x8_1 < (l0.length : Int)) = true := decide_eq_true c2
    clear c2
    by_cases c3 : 0 ≤ x8_1
    ·rw [if_pos c3] at H
     have c3b0 : decide (0 ≤ x8_1) = true := decide_eq_true c3
     clear c3
     by_cases c4 : x8_1 < (l0.length : Int)
     ·rw [if_pos c4] at H
      have c4b0 : decide (x8_1 < (l0.length : Int)) = true := decide_eq_true c4
      clear c4
      obtain ⟨y396,hy396⟩ : ∃ y_ : List (S39),y_ = (([(⟨(rd_T39 l0 x8_1).f0,(rd_T39 l0 x8_1).f1,(rd_T39 l0 x8_1).f2⟩ : S39)] : List (S39))) := ⟨_,rfl⟩
      replace H : (if x3_1.length < 5864062014805 then (depends_Join.l0 k1 (x3_1 ++ [y396]) l0 (l0.length : Int) (wrap64 (x8_1 + 1))) else (none)) = some r := by first|(rw [hy396];with_reducible exact H)|(have H2_ := (Option.bind_some _ _).symm.trans H;rw [hy396];with_reducible exact H2_)|(have H2_ := (Option.bind_some _ _).symm.trans H;with_reducible exact H2_) | with_reducible exact H|(rw [hy396];exact H)|exact H
      have Ny396 := Aside0.mk hy396
      clear hy396
      by_cases c5 : x3_1.length < 5864062014805
      ·rw [if_pos c5] at H
       have LMc5 := Aside0.mk c5
       clear c5
       obtain ⟨y399,hy399⟩ : ∃ y_ : List (List (S39)),y_ = (x3_1 ++ [y396]) := ⟨_,rfl⟩
       replace H : (depends_Join.l0 k1 y399 l0 (l0.length : Int) (wrap64 (x8_1 + 1))) = some r := by first|(rw [hy399];with_reducible exact H)|(have H2_ := (Option.bind_some _ _).symm.trans H;rw [hy399];with_reducible exact H2_)|(have H2_ := (Option.bind_some _ _).symm.trans H;with_reducible exact H2_) | with_reducible exact H|(rw [hy399];exact H)|exact H
       have Ny399 := Aside0.mk hy399
       clear hy399
       have H' := Aside0.mk H
       clear H
       have p394 : 0 ≤ (x8_1 : Int) := of_decide_eq_true (by assumption)
       have q394 : x8_1 < (l0.length : Int) := of_decide_eq_true (by assumption)
       obtain ⟨ad394,e394,hx394_0,hx394_1,hx394_2⟩ := at_T39 HR0.out x8_1 p394 q394
       cases e394
       replace hx394_0 := (HB.out.cell (World.block_lt_of_cell? w _ hx394_0)).trans hx394_0
       replace hx394_1 := (HB.out.cell (World.block_lt_of_cell? w _ hx394_1)).trans hx394_1
       replace hx394_2 := (HB.out.cell (World.block_lt_of_cell? w _ hx394_2)).trans hx394_2
       replace p394 := eq_true p394
       replace q394 := eq_true q394
       go_wp2_with (first|((with_reducible refine gate_dst (N := 5) rfl ?_);refine box_event ?hg (N := 5) ?hd (cs := #[.string (⟨#[]⟩ : ByteArray),.int .i64 0,.string (⟨#[]⟩ : ByteArray)]) (t := 39) ?hr ?_;(case hd => rfl);(case hg => rfl);(case hr => first|(go_simp;done)|(go_simp;rfl));intro gb395 hg w6 hbox hb;have n0_ := Aside0.mk (Kd.S_below (Kd.S_elderB (by (with_reducible repeat (first|apply Kd.S_alloc|apply Kd.S_drewN|apply Kd.S_drew));exact HO_3.out) gb395 (Nat.le_of_eq hg.symm)) hb);have n1_ := Aside0.mk (qan (by repeat (with_reducible first|exact HB.out|apply qab|apply qaa|apply qac)) hb);have n2_ := Aside0.mk (hbox);have n3_ := Aside0.mk ((by rw [hg];exact (qao (by repeat (with_reducible first|exact HB.out|apply qab|apply qaa|apply qac))) : w.heap.size ≤ gb395));have n4_ := Aside0.mk ((by rw [hg];exact (qao (by repeat (with_reducible first|exact HB.out|apply qab|apply qaa|apply qac))) : w.heap.size ≤ gb395));clear HO_3;clear HB;have HO_3 := n0_;have HB := n1_;have BK395 := n2_;have GW395 := n3_;have GE395 := n4_;clear n0_ n1_ n2_ n3_ n4_;clear hb hbox hg;have hcz7_0 : w6.cell? ⟨gb395,0,none⟩ = some (.string (⟨#[]⟩ : ByteArray)) := (qaf BK395.out 0).trans rfl;have hcz7_1 : w6.cell? ⟨gb395,1,none⟩ = some (.int .i64 0) := (qaf BK395.out 1).trans rfl;have hcz7_2 : w6.cell? ⟨gb395,2,none⟩ = some (.string (⟨#[]⟩ : ByteArray)) := (qaf BK395.out 2).trans rfl;have hfz7_0 := qad BK395.out 0;have hfz7_1 := qad BK395.out 1;have hfz7_2 := qad BK395.out 2)|((with_reducible refine gate_dst (N := 14) rfl ?_);refine Kd.R_lit k39 _ 39 ?hg (N := 14) ?hd (xs := ([(⟨(rd_T39 l0 x8_1).f0,(rd_T39 l0 x8_1).f1,(rd_T39 l0 x8_1).f2⟩ : S39)] : List (S39))) (inner := [.string ((rd_T39 l0 x8_1).f0),.int .i64 ((rd_T39 l0 x8_1).f1),.string ((rd_T39 l0 x8_1).f2)]) (ok := fun _ => True) (okp := fun _ => True) ?hr ?hp (fun _ hk => hk) trivial (Below.refl _ _) (Nat.le_refl _) (by simp) ?_;(case hd => rfl);(case hg => rfl);(case hr => first|(go_simp;done)|(go_simp;rfl));(case hp => exact (Reps.c3 (show Kd.M k39 _ _ _ (⟨(rd_T39 l0 x8_1).f0,(rd_T39 l0 x8_1).f1,(rd_T39 l0 x8_1).f2⟩ : S39) [.string ((rd_T39 l0 x8_1).f0),.int .i64 ((rd_T39 l0 x8_1).f1),.string ((rd_T39 l0 x8_1).f2)] from (k39_mkM _ _ _ (⟨(rd_T39 l0 x8_1).f0,(rd_T39 l0 x8_1).f1,(rd_T39 l0 x8_1).f2⟩ : S39) )) (Reps.none _ _)));intro v397 w8 ho9 hb hg_ hnew_;clear hg_ hnew_;(first|rw [← Ny396.out] at ho9|(simp only [Int.reduceToNat] at ho9;rw [← Ny396.out] at ho9));have n0_ := Aside0.mk (Kd.S_elder' (by (with_reducible repeat (first|apply Kd.S_alloc|apply Kd.S_drewN|apply Kd.S_drew));exact (Kd.S_mono (Kd.S_far (p := ⟨gb395,2,none⟩) (Kd.S_far (p := ⟨gb395,1,none⟩) (Kd.S_far (p := ⟨gb395,0,none⟩) (Kd.S_mono HO_3.out (fun k_ hk => (⟨hk,hk.2⟩ : _ ∧ k_ ≠ gb395))) (fun _ hk => hk.2) (.string ((rd_T39 l0 x8_1).f0))) (fun _ hk => hk.2) (.int .i64 ((rd_T39 l0 x8_1).f1))) (fun _ hk => hk.2) (.string ((rd_T39 l0 x8_1).f2))) (fun _ h_ => h_.1))) (Kd.R_base ho9) hb);have n1_ := Aside0.mk (Kd.R_lower (Kd.R_newB ho9 (g := gb395) (o := .cells #[.string ((rd_T39 l0 x8_1).f0),.int .i64 ((rd_T39 l0 x8_1).f1),.string ((rd_T39 l0 x8_1).f2)] 39 (0,0)) (by (with_reducible repeat (first|refine qah ?_ _|refine qai ?_|refine qag ?_ _));refine blk_put (cs := #[.string ((rd_T39 l0 x8_1).f0),.int .i64 ((rd_T39 l0 x8_1).f1),.string (⟨#[]⟩ : ByteArray)]) ?_ 2 _ rfl;(with_reducible repeat (first|refine qah ?_ _|refine qai ?_|refine qag ?_ _));refine blk_put (cs := #[.string ((rd_T39 l0 x8_1).f0),.int .i64 0,.string (⟨#[]⟩ : ByteArray)]) ?_ 1 _ rfl;(with_reducible repeat (first|refine qah ?_ _|refine qai ?_|refine qag ?_ _));refine blk_put (cs := #[.string (⟨#[]⟩ : ByteArray),.int .i64 0,.string (⟨#[]⟩ : ByteArray)]) ?_ 0 _ rfl;(with_reducible repeat (first|refine qah ?_ _|refine qai ?_|refine qag ?_ _));exact BK395.out)) (qao (by repeat (first|(with_reducible first|exact HB.out|apply qab|apply qaa|apply qac|refine qae ?_ GE395.out)|exact HB.out))));have n2_ := Aside0.mk (qap (g := gb395) (o := .cells #[.string ((rd_T39 l0 x8_1).f0),.int .i64 ((rd_T39 l0 x8_1).f1),.string ((rd_T39 l0 x8_1).f2)] 39 (0,0)) (by (with_reducible repeat (first|refine qah ?_ _|refine qai ?_|refine qag ?_ _));refine blk_put (cs := #[.string ((rd_T39 l0 x8_1).f0),.int .i64 ((rd_T39 l0 x8_1).f1),.string (⟨#[]⟩ : ByteArray)]) ?_ 2 _ rfl;(with_reducible repeat (first|refine qah ?_ _|refine qai ?_|refine qag ?_ _));refine blk_put (cs := #[.string ((rd_T39 l0 x8_1).f0),.int .i64 0,.string (⟨#[]⟩ : ByteArray)]) ?_ 1 _ rfl;(with_reducible repeat (first|refine qah ?_ _|refine qai ?_|refine qag ?_ _));refine blk_put (cs := #[.string (⟨#[]⟩ : ByteArray),.int .i64 0,.string (⟨#[]⟩ : ByteArray)]) ?_ 0 _ rfl;(with_reducible repeat (first|refine qah ?_ _|refine qai ?_|refine qag ?_ _));exact BK395.out) hb);have n3_ := Aside0.mk (qan (by repeat (first|(with_reducible first|exact HB.out|apply qab|apply qaa|apply qac|refine qae ?_ GE395.out)|exact HB.out)) hb);clear HO_3;clear BK395;clear HB;have HO_3 := n0_;have HO398 := n1_;have BK395 := n2_;have HB := n3_;clear n0_ n1_ n2_ n3_;clear hb ho9;obtain ⟨Ao11,co11,eo11⟩ := Kd.R_slice HO398.out;subst eo11)|((with_reducible refine gate_builtin (b := .append) (xs := #[.tmp 12,.tmp 15]) rfl ?_);at_builtin;refine Kd.S_append (Kd.slice 39 k39) (w0 := w) w.heap.size rfl (.tmp 12) (.tmp 15) 23 48 (.slice none 0 0) 24 rfl Tryz.underlying23 info48 rfl (by decide) (by omega) u3 x3_1 y396 [.slice Ao11 y396.length co11] (fun k_ => k_ ≠ gb395) (fun k_ => some k_ = (.slice Ao11 y396.length co11 : Value).ownBlock) rfl rfl ?aP (fun k_ hk_ => ((Kd.R_mono (ok' := fun k_ => ((fun k_ => k_ ≠ gb395)) k_ ∧ some k_ ≠ (u3 : Value).ownBlock) (Kd.R_apart' (HO398.out) (Kd.S_typed HO_3.out) (by decide)) (fun k_ hk => ⟨hk.1.2,hk.2⟩))).1 k_ hk_.symm) ?aF ?aO ?aB ?aS ?aL ?_;(case aP => exact Kd.M_row (Kd.R_mono (Kd.R_tight rfl (Kd.R_mono (ok' := fun k_ => ((fun k_ => k_ ≠ gb395)) k_ ∧ some k_ ≠ (u3 : Value).ownBlock) (Kd.R_apart' (HO398.out) (Kd.S_typed HO_3.out) (by decide)) (fun k_ hk => ⟨hk.1.2,hk.2⟩))) (fun _ h_ => h_)));(case aB => exact (by repeat (first|(with_reducible first|exact HB.out|apply qab|apply qaa|apply qac|refine qae ?_ GE395.out)|exact HB.out)));(case aF => exact (fun k_ hk => Kd.freshB (g := gb395) (o := .cells #[.string ((rd_T39 l0 x8_1).f0),.int .i64 ((rd_T39 l0 x8_1).f1),.string ((rd_T39 l0 x8_1).f2)] 39 (0,0)) (by (with_reducible repeat (first|refine qah ?_ _|refine qai ?_|refine qag ?_ _));exact BK395.out) k_ hk));(case aO => exact (by (with_reducible repeat (first|apply Kd.S_alloc|apply Kd.S_drewN|apply Kd.S_drew));exact Kd.S_mono HO_3.out (fun k_ hk => ⟨hk.1.2,fun e_ => hk.2 e_⟩)));(case aS => exact (qao (by repeat (first|(with_reducible first|exact HB.out|apply qab|apply qaa|apply qac|refine qae ?_ GE395.out)|exact HB.out))));(case aL => have := LMc5.out;omega);intro v400 w10 ho hb hg hat;rw [← Ny399.out] at ho;have n0_ := Aside0.mk (blk_grown (g := gb395) (o := .cells #[.string ((rd_T39 l0 x8_1).f0),.int .i64 ((rd_T39 l0 x8_1).f1),.string ((rd_T39 l0 x8_1).f2)] 39 (0,0)) (by (with_reducible repeat (first|refine qah ?_ _|refine qai ?_|refine qag ?_ _));exact BK395.out) hg (Kd.S_ne HO_3.out BK395.out (by decide)));have n1_ := Aside0.mk (hb);have n2_ := Aside0.mk (ho);clear BK395;clear HB;clear HO_3;clear HO398;have BK395 := n0_;have HB := n1_;have HO401 := n2_;clear n0_ n1_ n2_;clear ho hb hg hat))
       go_roundg k1
       case measure => have := HK1.out;omega
       case rel => exact ⟨(y399),(wrap64 (x8_1 + 1)),(by first|rfl|(simp;done)|(simp [*];done)|(simp [qaj];done)),H',⟨by have := HK1.out;omega⟩,⟨by (with_reducible repeat (first|apply Kd.S_alloc|apply Kd.S_drewN|apply Kd.S_drew));exact Kd.S_mono HO401.out (fun _ hk => trivial)⟩,⟨by repeat (first|(with_reducible first|exact HB.out|apply qab|apply qaa|apply qac|refine qae ?_ GE395.out)|exact HB.out)⟩⟩
      ·rw [if_neg c5] at H
       exact absurd H (by simp)
     ·rw [if_neg c4] at H
      exact absurd H (by simp)
    ·rw [if_neg c3] at H
     exact absurd H (by simp)
   ·rw [if_neg c2] at H
    have c2b0 : decide (x8_1 < (l0.length : Int)) = false := decide_eq_false c2
    clear c2
    replace H := Option.bind_eq_some_iff.mp H
    obtain ⟨t402,A120,H⟩ := H
    replace H : (some t402) = some r := H
    have A12 := Aside0.mk A120
    clear A120
    obtain rfl := Option.some.inj H
    obtain ⟨Ao13,co13,eo13⟩ := Kd.S_slice HO_3.out
    subst eo13
    go_wp2_with (first|((with_reducible refine qak (f := 18) rfl ?_);refine goesL_ (some 19) rfl rfl Tryz.func18 (by kernel_rfl) rfl #[.slice Ao13 x3_1.length co13] rfl (by first|rfl|(simp only [List.map_toArray,List.map_cons,List.map_nil,List.length_drop,List.length_take];rfl)|simp only [List.map_toArray,List.map_cons,List.map_nil]) ?_;(with_reducible refine (depends_Print.calls k1 _ _ x3_1 t402 _ (by first|exact hG|exact GL.below hG (by repeat (with_reducible first|exact HB.out|apply qab|apply qaa|apply qac)))  ?side1 ?side2 A12.out).mono ?_);(case side1 => repeat (first|exact (Kd.S_reads' HO_3.out).2.2|(with_reducible refine Kd.C_alloc ?_ _)|(with_reducible refine Kd.C_drewN ?_ _)|(with_reducible refine Kd.C_drew ?_)));(case side2 => exact (Kd.S_reads' HO_3.out).2.1);rintro e w14 ⟨rfl,hb⟩;refine ⟨_,rfl,?_⟩;have n0_ := Aside0.mk (Kd.S_below (by (with_reducible repeat (first|apply Kd.S_alloc|apply Kd.S_drewN|apply Kd.S_drew));exact HO_3.out) hb);have n1_ := Aside0.mk (qan (by repeat (with_reducible first|exact HB.out|apply qab|apply qaa|apply qac)) hb);clear HO_3;clear HB;have HO_3 := n0_;have HB := n1_;clear n0_ n1_;(try clear hb);(try clear hb2);(try clear hk);(try clear hi)))
    go_ret
    exact ⟨by first|rfl|(simp [qal,qam]<;>rfl)|(simp [*,qal,qam]<;>rfl),by repeat (with_reducible first|exact HB.out|apply qab|apply qaa|apply qac)⟩
end Go.Proofs.YtjbbgekkombpnaaGreatDoor.PA
