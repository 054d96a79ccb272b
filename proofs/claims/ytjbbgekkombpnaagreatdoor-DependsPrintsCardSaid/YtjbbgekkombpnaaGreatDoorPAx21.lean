
import Derived.Test.YtjbbgekkombpnaaGreatDoorPAx0
import Derived.Test.YtjbbgekkombpnaaGreatDoorPAx7
import Derived.Test.YtjbbgekkombpnaaGreatDoorPAx8
import Derived.Test.YtjbbgekkombpnaaGreatDoorPAx11
import Derived.Test.YtjbbgekkombpnaaGreatDoorPAx18
import Derived.Test.YtjbbgekkombpnaaGreatDoorPAx20
noncomputable section
namespace Go.Proofs.YtjbbgekkombpnaaGreatDoor.PA
open Go.RowKit Go.Proofs.YtjbbgekkombpnaaGreatDoorW.PrintWords Go.Proofs.YtjbbgekkombpnaaGreatDoorW.PrintLast Go.Proofs.YtjbbgekkombpnaaGreatDoorW.PrintMore
attribute [local go_sem] max2_int min2_int max_two min_two max_three min_three max_four min_four
set_option maxHeartbeats 8000000
set_option maxRecDepth 100000
set_option linter.unusedVariables false
set_option linter.unusedSimpArgs false
def depends_Join.l0 : Nat → List (List (S39)) → List (S39) → Int → Int → Option (ByteArray)
 | 0,_,_,_,_ => none
 | k + 1,x3,x6,x7,x8 => if x8 < x7 then (if 0 ≤ x8 then (if x8 < (x6.length : Int) then (if x3.length < 5864062014805 then (depends_Join.l0 k (x3 ++ [(([(⟨(rd_T39 x6 x8).f0,(rd_T39 x6 x8).f1,(rd_T39 x6 x8).f2⟩ : S39)] : List (S39)))]) x6 x7 (wrap64 (x8 + 1))) else (none)) else (none)) else (none)) else ((depends_Print.f k x3).bind fun t402 => (some t402))
def depends_Join.f (k : Nat) (l0 : List (S39)) : Option (ByteArray) := depends_Join.l0 k ([] : List (List (S39))) l0 (l0.length : Int) 0
theorem depends_Join.mono_l : ∀ k,(∀ y0 y1 y2 y3,LeO (depends_Join.l0 k y0 y1 y2 y3) (depends_Join.l0 (k + 1) y0 y1 y2 y3))
 | 0 => fun _ _ _ _ r h => by simp [depends_Join.l0] at h
 | k + 1 => by
  have ih0 := depends_Join.mono_l k
  ·intro y0 y1 y2 y3
   unfold depends_Join.l0
   repeat' first
   | (with_reducible exact ih0 _ _ _ _)
   | (with_reducible exact depends_Print.mono _ _)
   | (with_reducible exact LeO.refl _)
   | (with_reducible exact LeO.none _)
   | (with_reducible refine LeO.ite ?_ ?_)
   | (with_reducible refine LeO.bind ?_ (fun _ => ?_))
   | exact ih0 _ _ _ _
   | exact depends_Print.mono _ _
   | exact LeO.none _
   | refine LeO.ite ?_ ?_
   | refine LeO.bind ?_ (fun _ => ?_)
theorem depends_Join.mono : ∀ a0 k,LeO (depends_Join.f k a0) (depends_Join.f (k + 1) a0) := by
 intro a0 k
 have ih0 := depends_Join.mono_l k
 unfold depends_Join.f
 repeat' first
   | (with_reducible exact ih0 _ _ _ _)
   | (with_reducible exact depends_Print.mono _ _)
   | (with_reducible exact LeO.refl _)
   | (with_reducible exact LeO.none _)
   | (with_reducible refine LeO.ite ?_ ?_)
   | (with_reducible refine LeO.bind ?_ (fun _ => ?_))
   | exact ih0 _ _ _ _
   | exact depends_Print.mono _ _
   | exact LeO.none _
   | refine LeO.ite ?_ ?_
   | refine LeO.bind ?_ (fun _ => ?_)
theorem depends_Join.calls (k : Nat) (A0 : Option Addr) (c0 : Nat) (l0 : List (S39)) (r : ByteArray) (w : World) (hG : GL w) (hr0 : Kd.C k39 w A0 l0.length l0) (hc0 : l0.length ≤ c0) (h : depends_Join.f k l0 = some r) :
  Calls Tryz.prog 26 #[.slice A0 l0.length c0] w fun e w' => e = .returned (.string r) ∧ Below w.heap.size w w' := by
 have hu39 := Tryz.underlying39
 have HR0 := Aside0.mk hr0
 have HC0 := Aside0.mk hc0
 clear hr0 hc0
 have HB := Aside0.mk (Below.refl w.heap.size w)
 have H : (depends_Join.l0 k ([] : List (List (S39))) l0 (l0.length : Int) 0) = some r := h
 clear h
 have H' := Aside0.mk H
 clear H
 go_enter Tryz.func26,Tryz.ntmps26
 go_wp2
 go_loopg [3,8] k (fun kq v3 v8 w' => ∃ (x3_1 : List (List (S39))) (x8_1 : Int),v8 = .int .i64 x8_1 ∧ Aside0 (depends_Join.l0 kq x3_1 l0 (l0.length : Int) x8_1 = some r) ∧ Aside0 (kq ≤ k) ∧ Aside0 (Kd.S (Kd.slice 39 k39) 48 w' w.heap.size (fun _ => True) v3 x3_1) ∧ Aside0 (Below w.heap.size w w'))
 case atStart => exact ⟨(([] : List (List (S39)))),(0),(by first|rfl|(simp;done)|(simp [*];done)|(simp [qaj];done)),H',⟨Nat.le_refl _⟩,⟨by first|exact Kd.S_nil _ _ _ _ _|exact Kd.N_nil _ _ _ _ _|exact Kd.V_nil _ _ _ _ _|exact Kd.Q_nil _ _ _ _ _|exact Kd.R_nil _ _ _ _ _⟩,⟨by repeat (with_reducible first|exact HB.out|apply qab|apply qaa|apply qac)⟩⟩
 case round =>
  clear H'
  obtain ⟨x3_1,x8_1,rfl,HA,HK1,HO_3,HB⟩ := hrel
  cases gk with
  | zero => exact absurd HA.out (by simp [depends_Join.l0])
  | succ k1 =>
   have H := HA.out
   clear HA
   simp only [depends_Join.l0] at H
   by_cases c2 : x8_1 < (l0.length : Int)
   ·rw [if_pos c2] at H
    have c2b0 : decide (x8_1 < (l0.length : Int)) = true := decide_eq_true c2
    clear c2
    by_cases c3 : 0 ≤ x8_1
    ·rw [if_pos c3] at H
     have c3b0 : decide (0 ≤ x8_1) = true := decide_eq_true c3
     clear c3
     by_cases c4 : x8_1 < (l0.length : Int)
     ·rw [if_pos c4] at H
      have c4b0 : decide (x8_1 < (l0.length : Int)) = true := decide_eq_true c4
      clear c4
      obtain ⟨y396,hy396⟩ : ∃ y_ : List (S39),y_ = (([(⟨(rd_T39 l0 x8_1).f0,(rd_T39 l0 x8_1).f1,(rd_T39 l0 x8_1).f2⟩ : S39)] : List (S39))) := ⟨_,rfl⟩
      replace H : (if x3_1.length < 5864062014805 then (depends_Join.l0 k1 (x3_1 ++ [y396]) l0 (l0.length : Int) (wrap64 (x8_1 + 1))) else (none)) = some r := by first|(rw [hy396];with_reducible exact H)|(have H2_ := (Option.bind_some _ _).symm.trans H;rw [hy396];with_reducible exact H2_)|(have H2_ := (Option.bind_some _ _).symm.trans H;with_reducible exact H2_) | with_reducible exact H|(rw [hy396];exact H)|exact H
      have Ny396 := Aside0.mk hy396
      clear hy396
      by_cases c5 : x3_1.length < 5864062014805
      ·rw [if_pos c5] at H
       have LMc5 := Aside0.mk c5
       clear c5
       obtain ⟨y399,hy399⟩ : ∃ y_ : List (List (S39)),y_ = (x3_1 ++ [y396]) := ⟨_,rfl⟩
       replace H : (depends_Join.l0 k1 y399 l0 (l0.length : Int) (wrap64 (x8_1 + 1))) = some r := by first|(rw [hy399];with_reducible exact H)|(have H2_ := (Option.bind_some _ _).symm.trans H;rw [hy399];with_reducible exact H2_)|(have H2_ := (Option.bind_some _ _).symm.trans H;with_reducible exact H2_) | with_reducible exact H|(rw [hy399];exact H)|exact H
       have Ny399 := Aside0.mk hy399
       clear hy399
       have H' := Aside0.mk H
       clear H
       have p394 : 0 ≤ (x8_1 : Int) := of_decide_eq_true (by assumption)
       have q394 : x8_1 < (l0.length : Int) := of_decide_eq_true (by assumption)
       obtain ⟨ad394,e394,hx394_0,hx394_1,hx394_2⟩ := at_T39 HR0.out x8_1 p394 q394
       cases e394
       replace hx394_0 := (HB.out.cell (World.block_lt_of_cell? w _ hx394_0)).trans hx394_0
       replace hx394_1 := (HB.out.cell (World.block_lt_of_cell? w _ hx394_1)).trans hx394_1
       replace hx394_2 := (HB.out.cell (World.block_lt_of_cell? w _ hx394_2)).trans hx394_2
       replace p394 := eq_true p394
       replace q394 := eq_true q394
       go_wp2_with (first|((with_reducible refine qaq (N := 5) rfl ?_);refine box_event ?hg (N := 5) ?hd (cs := #[.string (⟨#[]⟩ : ByteArray),.int .i64 0,.string (⟨#[]⟩ : ByteArray)]) (t := 39) ?hr ?_;(case hd => rfl);(case hg => rfl);(case hr => first|(go_simp;done)|(go_simp;rfl));intro gb395 hg w6 hbox hb;have n0_ := Aside0.mk (Kd.S_below (Kd.S_elderB (by (with_reducible repeat (first|apply Kd.S_alloc|apply Kd.S_drewN|apply Kd.S_drew));exact HO_3.out) gb395 (Nat.le_of_eq hg.symm)) hb);have n1_ := Aside0.mk (qan (by repeat (with_reducible first|exact HB.out|apply qab|apply qaa|apply qac)) hb);have n2_ := Aside0.mk (hbox);have n3_ := Aside0.mk ((by rw [hg];exact (qao (by repeat (with_reducible first|exact HB.out|apply qab|apply qaa|apply qac))) : w.heap.size ≤ gb395));have n4_ := Aside0.mk ((by rw [hg];exact (qao (by repeat (with_reducible first|exact HB.out|apply qab|apply qaa|apply qac))) : w.heap.size ≤ gb395));clear HO_3;clear HB;have HO_3 := n0_;have HB := n1_;have BK395 := n2_;have GW395 := n3_;have GE395 := n4_;clear n0_ n1_ n2_ n3_ n4_;clear hb hbox hg;have hcz7_0 : w6.cell? ⟨gb395,0,none⟩ = some (.string (⟨#[]⟩ : ByteArray)) := (qaf BK395.out 0).trans rfl;have hcz7_1 : w6.cell? ⟨gb395,1,none⟩ = some (.int .i64 0) := (qaf BK395.out 1).trans rfl;have hcz7_2 : w6.cell? ⟨gb395,2,none⟩ = some (.string (⟨#[]⟩ : ByteArray)) := (qaf BK395.out 2).trans rfl;have hfz7_0 := qad BK395.out 0;have hfz7_1 := qad BK395.out 1;have hfz7_2 := qad BK395.out 2)|((with_reducible refine qaq (N := 14) rfl ?_);refine Kd.R_lit k39 _ 39 ?hg (N := 14) ?hd (xs := ([(⟨(rd_T39 l0 x8_1).f0,(rd_T39 l0 x8_1).f1,(rd_T39 l0 x8_1).f2⟩ : S39)] : List (S39))) (inner := [.string ((rd_T39 l0 x8_1).f0),.int .i64 ((rd_T39 l0 x8_1).f1),.string ((rd_T39 l0 x8_1).f2)]) (ok := fun _ => True) (okp := fun _ => True) ?hr ?hp (fun _ hk => hk) trivial (Below.refl _ _) (Nat.le_refl _) (by simp) ?_;(case hd => rfl);(case hg => rfl);(case hr => first|(go_simp;done)|(go_simp;rfl));(case hp => exact (Reps.c3 (show Kd.M k39 _ _ _ (⟨(rd_T39 l0 x8_1).f0,(rd_T39 l0 x8_1).f1,(rd_T39 l0 x8_1).f2⟩ : S39) [.string ((rd_T39 l0 x8_1).f0),.int .i64 ((rd_T39 l0 x8_1).f1),.string ((rd_T39 l0 x8_1).f2)] from (k39_mkM _ _ _ (⟨(rd_T39 l0 x8_1).f0,(rd_T39 l0 x8_1).f1,(rd_T39 l0 x8_1).f2⟩ : S39) )) (Reps.none _ _)));intro v397 w8 ho9 hb hg_ hnew_;clear hg_ hnew_;(first|rw [← Ny396.out] at ho9|(simp only [Int.reduceToNat] at ho9;rw [← Ny396.out] at ho9));have n0_ := Aside0.mk (Kd.S_elder' (by (with_reducible repeat (first|apply Kd.S_alloc|apply Kd.S_drewN|apply Kd.S_drew));exact (Kd.S_mono (Kd.S_far (p := ⟨gb395,2,none⟩) (Kd.S_far (p := ⟨gb395,1,none⟩) (Kd.S_far (p := ⟨gb395,0,none⟩) (Kd.S_mono HO_3.out (fun k_ hk => (⟨hk,hk.2⟩ : _ ∧ k_ ≠ gb395))) (fun _ hk => hk.2) (.string ((rd_T39 l0 x8_1).f0))) (fun _ hk => hk.2) (.int .i64 ((rd_T39 l0 x8_1).f1))) (fun _ hk => hk.2) (.string ((rd_T39 l0 x8_1).f2))) (fun _ h_ => h_.1))) (Kd.R_base ho9) hb);have n1_ := Aside0.mk (Kd.R_lower (Kd.R_newB ho9 (g := gb395) (o := .cells #[.string ((rd_T39 l0 x8_1).f0),.int .i64 ((rd_T39 l0 x8_1).f1),.string ((rd_T39 l0 x8_1).f2)] 39 (0,0)) (by (with_reducible repeat (first|refine qah ?_ _|refine qai ?_|refine qag ?_ _));refine blk_put (cs := #[.string ((rd_T39 l0 x8_1).f0),.int .i64 ((rd_T39 l0 x8_1).f1),.string (⟨#[]⟩ : ByteArray)]) ?_ 2 _ rfl;(with_reducible repeat (first|refine qah ?_ _|refine qai ?_|refine qag ?_ _));refine blk_put (cs := #[.string ((rd_T39 l0 x8_1).f0),.int .i64 0,.string (⟨#[]⟩ : ByteArray)]) ?_ 1 _ rfl;(with_reducible repeat (first|refine qah ?_ _|refine qai ?_|refine qag ?_ _));refine blk_put (cs := #[.string (⟨#[]⟩ : ByteArray),.int .i64 0,.string (⟨#[]⟩ : ByteArray)]) ?_ 0 _ rfl;(with_reducible repeat (first|refine qah ?_ _|refine qai ?_|refine qag ?_ _));exact BK395.out)) (qao (by repeat (first|(with_reducible first|exact HB.out|apply qab|apply qaa|apply qac|refine qae ?_ GE395.out)|exact HB.out))));have n2_ := Aside0.mk (qap (g := gb395) (o := .cells #[.string ((rd_T39 l0 x8_1).f0),.int .i64 ((rd_T39 l0 x8_1).f1),.string ((rd_T39 l0 x8_1).f2)] 39 (0,0)) (by (with_reducible repeat (first|refine qah ?_ _|refine qai ?_|refine qag ?_ _));refine blk_put (cs := #[.string ((rd_T39 l0 x8_1).f0),.int .i64 ((rd_T39 l0 x8_1).f1),.string (⟨#[]⟩ : ByteArray)]) ?_ 2 _ rfl;(with_reducible repeat (first|refine qah ?_ _|refine qai ?_|refine qag ?_ _));refine blk_put (cs := #[.string ((rd_T39 l0 x8_1).f0),.int .i64 0,.string (⟨#[]⟩ : ByteArray)]) ?_ 1 _ rfl;(with_reducible repeat (first|refine qah ?_ _|refine qai ?_|refine qag ?_ _));refine blk_put (cs := #[.string (⟨#[]⟩ : ByteArray),.int .i64 0,.string (⟨#[]⟩ : ByteArray)]) ?_ 0 _ rfl;(with_reducible repeat (first|refine qah ?_ _|refine qai ?_|refine qag ?_ _));exact BK395.out) hb);have n3_ := Aside0.mk (qan (by repeat (first|(with_reducible first|exact HB.out|apply qab|apply qaa|apply qac|refine qae ?_ GE395.out)|exact HB.out)) hb);clear HO_3;clear BK395;clear HB;have HO_3 := n0_;have HO398 := n1_;have BK395 := n2_;have HB := n3_;clear n0_ n1_ n2_ n3_;clear hb ho9;obtain ⟨Ao11,co11,eo11⟩ := Kd.R_slice HO398.out;subst eo11)|((with_reducible refine gate_builtin (b := .append) (xs := #[.tmp 12,.tmp 15]) rfl ?_);at_builtin;refine Kd.S_append (Kd.slice 39 k39) (w0 := w) w.heap.size rfl (.tmp 12) (.tmp 15) 23 48 (.slice none 0 0) 24 rfl Tryz.underlying23 info48 rfl (by decide) (by omega) u3 x3_1 y396 [.slice Ao11 y396.length co11] (fun k_ => k_ ≠ gb395) (fun k_ => some k_ = (.slice Ao11 y396.length co11 : Value).ownBlock) rfl rfl ?aP (fun k_ hk_ => ((Kd.R_mono (ok' := fun k_ => ((fun k_ => k_ ≠ gb395)) k_ ∧ some k_ ≠ (u3 : Value).ownBlock) (Kd.R_apart' (HO398.out) (Kd.S_typed HO_3.out) (by decide)) (fun k_ hk => ⟨hk.1.2,hk.2⟩))).1 k_ hk_.symm) ?aF ?aO ?aB ?aS ?aL ?_;(case aP => exact Kd.M_row (Kd.R_mono (Kd.R_tight rfl (Kd.R_mono (ok' := fun k_ => ((fun k_ => k_ ≠ gb395)) k_ ∧ some k_ ≠ (u3 : Value).ownBlock) (Kd.R_apart' (HO398.out) (Kd.S_typed HO_3.out) (by decide)) (fun k_ hk => ⟨hk.1.2,hk.2⟩))) (fun _ h_ => h_)));(case aB => exact (by repeat (first|(with_reducible first|exact HB.out|apply qab|apply qaa|apply qac|refine qae ?_ GE395.out)|exact HB.out)));(case aF => exact (fun k_ hk => Kd.freshB (g := gb395) (o := .cells #[.string ((rd_T39 l0 x8_1).f0),.int .i64 ((rd_T39 l0 x8_1).f1),.string ((rd_T39 l0 x8_1).f2)] 39 (0,0)) (by (with_reducible repeat (first|refine qah ?_ _|refine qai ?_|refine qag ?_ _));exact BK395.out) k_ hk));(case aO => exact (by (with_reducible repeat (first|apply Kd.S_alloc|apply Kd.S_drewN|apply Kd.S_drew));exact Kd.S_mono HO_3.out (fun k_ hk => ⟨hk.1.2,fun e_ => hk.2 e_⟩)));(case aS => exact (qao (by repeat (first|(with_reducible first|exact HB.out|apply qab|apply qaa|apply qac|refine qae ?_ GE395.out)|exact HB.out))));(case aL => have := LMc5.out;omega);intro v400 w10 ho hb hg hat;rw [← Ny399.out] at ho;have n0_ := Aside0.mk (blk_grown (g := gb395) (o := .cells #[.string ((rd_T39 l0 x8_1).f0),.int .i64 ((rd_T39 l0 x8_1).f1),.string ((rd_T39 l0 x8_1).f2)] 39 (0,0)) (by (with_reducible repeat (first|refine qah ?_ _|refine qai ?_|refine qag ?_ _));exact BK395.out) hg (Kd.S_ne HO_3.out BK395.out (by decide)));have n1_ := Aside0.mk (hb);have n2_ := Aside0.mk (ho);clear BK395;clear HB;clear HO_3;clear HO398;have BK395 := n0_;have HB := n1_;have HO401 := n2_;clear n0_ n1_ n2_;clear ho hb hg hat))
       go_roundg k1
       case measure => have := HK1.out;omega
       case rel => exact ⟨(y399),(wrap64 (x8_1 + 1)),(by first|rfl|(simp;done)|(simp [*];done)|(simp [qaj];done)),H',⟨by have := HK1.out;omega⟩,⟨by (with_reducible repeat (first|apply Kd.S_alloc|apply Kd.S_drewN|apply Kd.S_drew));exact Kd.S_mono HO401.out (fun _ hk => trivial)⟩,⟨by repeat (first|(with_reducible first|exact HB.out|apply qab|apply qaa|apply qac|refine qae ?_ GE395.out)|exact HB.out)⟩⟩
      ·rw [if_neg c5] at H
       exact absurd H (by simp)
     ·rw [if_neg c4] at H
      exact absurd H (by simp)
    ·rw [if_neg c3] at H
     exact absurd H (by simp)
   ·rw [if_neg c2] at H
    have c2b0 : decide (x8_1 < (l0.length : Int)) = false := decide_eq_false c2
    clear c2
    replace H := Option.bind_eq_some_iff.mp H
    obtain ⟨t402,A120,H⟩ := H
    replace H : (some t402) = some r := H
    have A12 := Aside0.mk A120
    clear A120
    obtain rfl := Option.some.inj H
    obtain ⟨Ao13,co13,eo13⟩ := Kd.S_slice HO_3.out
    subst eo13
    go_wp2_with (first|((with_reducible refine qam (f := 18) rfl ?_);refine goesL_ (some 19) rfl rfl Tryz.func18 (by kernel_rfl) rfl #[.slice Ao13 x3_1.length co13] rfl (by first|rfl|(simp only [List.map_toArray,List.map_cons,List.map_nil,List.length_drop,List.length_take];rfl)|simp only [List.map_toArray,List.map_cons,List.map_nil]) ?_;(with_reducible refine (depends_Print.calls k1 _ _ x3_1 t402 _ (by first|exact hG|exact GL.below hG (by repeat (with_reducible first|exact HB.out|apply qab|apply qaa|apply qac)))  ?side1 ?side2 A12.out).mono ?_);(case side1 => repeat (first|exact (Kd.S_reads' HO_3.out).2.2|(with_reducible refine Kd.C_alloc ?_ _)|(with_reducible refine Kd.C_drewN ?_ _)|(with_reducible refine Kd.C_drew ?_)));(case side2 => exact (Kd.S_reads' HO_3.out).2.1);rintro e w14 ⟨rfl,hb⟩;refine ⟨_,rfl,?_⟩;have n0_ := Aside0.mk (Kd.S_below (by (with_reducible repeat (first|apply Kd.S_alloc|apply Kd.S_drewN|apply Kd.S_drew));exact HO_3.out) hb);have n1_ := Aside0.mk (qan (by repeat (with_reducible first|exact HB.out|apply qab|apply qaa|apply qac)) hb);clear HO_3;clear HB;have HO_3 := n0_;have HB := n1_;clear n0_ n1_;(try clear hb);(try clear hb2);(try clear hk);(try clear hi)))
    go_ret
    exact ⟨by first|rfl|(simp [qak,qal]<;>rfl)|(simp [*,qak,qal]<;>rfl),by repeat (with_reducible first|exact HB.out|apply qab|apply qaa|apply qac)⟩
def keelsonref4_Join.l0 : Nat → List (S39) → List (List (S39)) → Int → Option (ByteArray)
 | 0,_,_,_ => none
 | k + 1,x0,x3,x4 => if x4 < (x0.length : Int) then (if 0 ≤ x4 then (if x3.length < 5864062014805 then (keelsonref4_Join.l0 k x0 (x3 ++ [(([(⟨(rd_T39 x0 x4).f0,(rd_T39 x0 x4).f1,(rd_T39 x0 x4).f2⟩ : S39)] : List (S39)))]) (wrap64 (x4 + 1))) else (none)) else (none)) else ((keelsonref4_Print.f k x3).bind fun t410 => (some t410))
def keelsonref4_Join.f (k : Nat) (l0 : List (S39)) : Option (ByteArray) := keelsonref4_Join.l0 k l0 ([] : List (List (S39))) 0
theorem keelsonref4_Join.mono_l : ∀ k,(∀ y0 y1 y2,LeO (keelsonref4_Join.l0 k y0 y1 y2) (keelsonref4_Join.l0 (k + 1) y0 y1 y2))
 | 0 => fun _ _ _ r h => by simp [keelsonref4_Join.l0] at h
 | k + 1 => by
  have ih0 := keelsonref4_Join.mono_l k
  ·intro y0 y1 y2
   unfold keelsonref4_Join.l0
   repeat' first
   | (with_reducible exact ih0 _ _ _)
   | (with_reducible exact keelsonref4_Print.mono _ _)
   | (with_reducible exact LeO.refl _)
   | (with_reducible exact LeO.none _)
   | (with_reducible refine LeO.ite ?_ ?_)
   | (with_reducible refine LeO.bind ?_ (fun _ => ?_))
   | exact ih0 _ _ _
   | exact keelsonref4_Print.mono _ _
   | exact LeO.none _
   | refine LeO.ite ?_ ?_
   | refine LeO.bind ?_ (fun _ => ?_)
theorem keelsonref4_Join.mono : ∀ a0 k,LeO (keelsonref4_Join.f k a0) (keelsonref4_Join.f (k + 1) a0) := by
 intro a0 k
 have ih0 := keelsonref4_Join.mono_l k
 unfold keelsonref4_Join.f
 repeat' first
   | (with_reducible exact ih0 _ _ _)
   | (with_reducible exact keelsonref4_Print.mono _ _)
   | (with_reducible exact LeO.refl _)
   | (with_reducible exact LeO.none _)
   | (with_reducible refine LeO.ite ?_ ?_)
   | (with_reducible refine LeO.bind ?_ (fun _ => ?_))
   | exact ih0 _ _ _
   | exact keelsonref4_Print.mono _ _
   | exact LeO.none _
   | refine LeO.ite ?_ ?_
   | refine LeO.bind ?_ (fun _ => ?_)
theorem keelsonref4_Join.calls (k : Nat) (A0 : Option Addr) (c0 : Nat) (l0 : List (S39)) (r : ByteArray) (w : World) (hG : GL w) (hr0 : Kd.C k39 w A0 l0.length l0) (hc0 : l0.length ≤ c0) (h : keelsonref4_Join.f k l0 = some r) :
  Calls Tryz.prog 27 #[.slice A0 l0.length c0] w fun e w' => e = .returned (.string r) ∧ Below w.heap.size w w' := by
 have hu39 := Tryz.underlying39
 have HR0 := Aside0.mk hr0
 have HC0 := Aside0.mk hc0
 clear hr0 hc0
 have HB := Aside0.mk (Below.refl w.heap.size w)
 have H : (keelsonref4_Join.l0 k l0 ([] : List (List (S39))) 0) = some r := h
 clear h
 have H' := Aside0.mk H
 clear H
 go_enter Tryz.func27,Tryz.ntmps27
 go_wp2
 go_loopg [3,4] k (fun kq v3 v4 w' => ∃ (x3_1 : List (List (S39))) (x4_1 : Int),v4 = .int .i64 x4_1 ∧ Aside0 (keelsonref4_Join.l0 kq l0 x3_1 x4_1 = some r) ∧ Aside0 (kq ≤ k) ∧ Aside0 (Kd.S (Kd.slice 39 k39) 48 w' w.heap.size (fun _ => True) v3 x3_1) ∧ Aside0 (Below w.heap.size w w'))
 case atStart => exact ⟨(([] : List (List (S39)))),(0),(by first|rfl|(simp;done)|(simp [*];done)|(simp [qaj];done)),H',⟨Nat.le_refl _⟩,⟨by first|exact Kd.S_nil _ _ _ _ _|exact Kd.N_nil _ _ _ _ _|exact Kd.V_nil _ _ _ _ _|exact Kd.Q_nil _ _ _ _ _|exact Kd.R_nil _ _ _ _ _⟩,⟨by repeat (with_reducible first|exact HB.out|apply qab|apply qaa|apply qac)⟩⟩
 case round =>
  clear H'
  obtain ⟨x3_1,x4_1,rfl,HA,HK1,HO_3,HB⟩ := hrel
  cases gk with
  | zero => exact absurd HA.out (by simp [keelsonref4_Join.l0])
  | succ k1 =>
   have H := HA.out
   clear HA
   simp only [keelsonref4_Join.l0] at H
   by_cases c2 : x4_1 < (l0.length : Int)
   ·rw [if_pos c2] at H
    have c2b0 : decide (x4_1 < (l0.length : Int)) = true := decide_eq_true c2
    clear c2
    by_cases c3 : 0 ≤ x4_1
    ·rw [if_pos c3] at H
     have c3b0 : decide (0 ≤ x4_1) = true := decide_eq_true c3
     clear c3
     obtain ⟨y404,hy404⟩ : ∃ y_ : List (S39),y_ = (([(⟨(rd_T39 l0 x4_1).f0,(rd_T39 l0 x4_1).f1,(rd_T39 l0 x4_1).f2⟩ : S39)] : List (S39))) := ⟨_,rfl⟩
     replace H : (if x3_1.length < 5864062014805 then (keelsonref4_Join.l0 k1 l0 (x3_1 ++ [y404]) (wrap64 (x4_1 + 1))) else (none)) = some r := by first|(rw [hy404];with_reducible exact H)|(have H2_ := (Option.bind_some _ _).symm.trans H;rw [hy404];with_reducible exact H2_)|(have H2_ := (Option.bind_some _ _).symm.trans H;with_reducible exact H2_) | with_reducible exact H|(rw [hy404];exact H)|exact H
     have Ny404 := Aside0.mk hy404
     clear hy404
     by_cases c4 : x3_1.length < 5864062014805
     ·rw [if_pos c4] at H
      have LMc4 := Aside0.mk c4
      clear c4
      obtain ⟨y407,hy407⟩ : ∃ y_ : List (List (S39)),y_ = (x3_1 ++ [y404]) := ⟨_,rfl⟩
      replace H : (keelsonref4_Join.l0 k1 l0 y407 (wrap64 (x4_1 + 1))) = some r := by first|(rw [hy407];with_reducible exact H)|(have H2_ := (Option.bind_some _ _).symm.trans H;rw [hy407];with_reducible exact H2_)|(have H2_ := (Option.bind_some _ _).symm.trans H;with_reducible exact H2_) | with_reducible exact H|(rw [hy407];exact H)|exact H
      have Ny407 := Aside0.mk hy407
      clear hy407
      have H' := Aside0.mk H
      clear H
      have p403 : 0 ≤ (x4_1 : Int) := of_decide_eq_true (by assumption)
      have q403 : x4_1 < (l0.length : Int) := of_decide_eq_true (by assumption)
      obtain ⟨ad403,e403,hx403_0,hx403_1,hx403_2⟩ := at_T39 HR0.out x4_1 p403 q403
      cases e403
      replace hx403_0 := (HB.out.cell (World.block_lt_of_cell? w _ hx403_0)).trans hx403_0
      replace hx403_1 := (HB.out.cell (World.block_lt_of_cell? w _ hx403_1)).trans hx403_1
      replace hx403_2 := (HB.out.cell (World.block_lt_of_cell? w _ hx403_2)).trans hx403_2
      replace p403 := eq_true p403
      replace q403 := eq_true q403
      go_wp2_with (first|((with_reducible refine qaq (N := 16) rfl ?_);refine Kd.R_lit k39 _ 39 ?hg (N := 16) ?hd (xs := ([(⟨(rd_T39 l0 x4_1).f0,(rd_T39 l0 x4_1).f1,(rd_T39 l0 x4_1).f2⟩ : S39)] : List (S39))) (inner := [.string ((rd_T39 l0 x4_1).f0),.int .i64 ((rd_T39 l0 x4_1).f1),.string ((rd_T39 l0 x4_1).f2)]) (ok := fun _ => True) (okp := fun _ => True) ?hr ?hp (fun _ hk => hk) trivial (Below.refl _ _) (Nat.le_refl _) (by simp) ?_;(case hd => rfl);(case hg => rfl);(case hr => first|(go_simp;done)|(go_simp;rfl));(case hp => exact (Reps.c3 (show Kd.M k39 _ _ _ (⟨(rd_T39 l0 x4_1).f0,(rd_T39 l0 x4_1).f1,(rd_T39 l0 x4_1).f2⟩ : S39) [.string ((rd_T39 l0 x4_1).f0),.int .i64 ((rd_T39 l0 x4_1).f1),.string ((rd_T39 l0 x4_1).f2)] from (k39_mkM _ _ _ (⟨(rd_T39 l0 x4_1).f0,(rd_T39 l0 x4_1).f1,(rd_T39 l0 x4_1).f2⟩ : S39) )) (Reps.none _ _)));intro v405 w5 ho6 hb hg_ hnew_;clear hg_ hnew_;(first|rw [← Ny404.out] at ho6|(simp only [Int.reduceToNat] at ho6;rw [← Ny404.out] at ho6));have n0_ := Aside0.mk (Kd.S_elder' (by (with_reducible repeat (first|apply Kd.S_alloc|apply Kd.S_drewN|apply Kd.S_drew));exact HO_3.out) (Kd.R_base ho6) hb);have n1_ := Aside0.mk (Kd.R_lower ho6 (qao (by repeat (with_reducible first|exact HB.out|apply qab|apply qaa|apply qac))));have n2_ := Aside0.mk (qan (by repeat (with_reducible first|exact HB.out|apply qab|apply qaa|apply qac)) hb);clear HO_3;clear HB;have HO_3 := n0_;have HO406 := n1_;have HB := n2_;clear n0_ n1_ n2_;clear hb ho6;obtain ⟨Ao8,co8,eo8⟩ := Kd.R_slice HO406.out;subst eo8)|((with_reducible refine gate_builtin (b := .append) (xs := #[.tmp 11,.tmp 17]) rfl ?_);at_builtin;refine Kd.S_append (Kd.slice 39 k39) (w0 := w) w.heap.size rfl (.tmp 11) (.tmp 17) 23 48 (.slice none 0 0) 24 rfl Tryz.underlying23 info48 rfl (by decide) (by omega) u3 x3_1 y404 [.slice Ao8 y404.length co8] (fun _ => True) (fun k_ => some k_ = (.slice Ao8 y404.length co8 : Value).ownBlock) rfl rfl ?aP (fun k_ hk_ => ((Kd.R_mono (ok' := fun k_ => ((fun _ => True)) k_ ∧ some k_ ≠ (u3 : Value).ownBlock) (Kd.R_apart' (HO406.out) (Kd.S_typed HO_3.out) (by decide)) (fun k_ hk => ⟨trivial,hk.2⟩))).1 k_ hk_.symm) ?aF ?aO ?aB ?aS ?aL ?_;(case aP => exact Kd.M_row (Kd.R_mono (Kd.R_tight rfl (Kd.R_mono (ok' := fun k_ => ((fun _ => True)) k_ ∧ some k_ ≠ (u3 : Value).ownBlock) (Kd.R_apart' (HO406.out) (Kd.S_typed HO_3.out) (by decide)) (fun k_ hk => ⟨trivial,hk.2⟩))) (fun _ h_ => h_)));(case aB => exact (by repeat (with_reducible first|exact HB.out|apply qab|apply qaa|apply qac)));(case aF => exact (fun _ _ => trivial));(case aO => exact (by (with_reducible repeat (first|apply Kd.S_alloc|apply Kd.S_drewN|apply Kd.S_drew));exact Kd.S_mono HO_3.out (fun k_ hk => ⟨trivial,fun e_ => hk.2 e_⟩)));(case aS => exact (qao (by repeat (with_reducible first|exact HB.out|apply qab|apply qaa|apply qac))));(case aL => have := LMc4.out;omega);intro v408 w7 ho hb hg hat;rw [← Ny407.out] at ho;have n0_ := Aside0.mk (hb);have n1_ := Aside0.mk (ho);clear HB;clear HO_3;clear HO406;have HB := n0_;have HO409 := n1_;clear n0_ n1_;clear ho hb hg hat))
      go_roundg k1
      case measure => have := HK1.out;omega
      case rel => exact ⟨(y407),(wrap64 (x4_1 + 1)),(by first|rfl|(simp;done)|(simp [*];done)|(simp [qaj];done)),H',⟨by have := HK1.out;omega⟩,⟨by (with_reducible repeat (first|apply Kd.S_alloc|apply Kd.S_drewN|apply Kd.S_drew));exact HO409.out⟩,⟨by repeat (with_reducible first|exact HB.out|apply qab|apply qaa|apply qac)⟩⟩
     ·rw [if_neg c4] at H
      exact absurd H (by simp)
    ·rw [if_neg c3] at H
     exact absurd H (by simp)
   ·rw [if_neg c2] at H
    have c2b0 : decide (x4_1 < (l0.length : Int)) = false := decide_eq_false c2
    clear c2
    replace H := Option.bind_eq_some_iff.mp H
    obtain ⟨t410,A90,H⟩ := H
    replace H : (some t410) = some r := H
    have A9 := Aside0.mk A90
    clear A90
    obtain rfl := Option.some.inj H
    obtain ⟨Ao10,co10,eo10⟩ := Kd.S_slice HO_3.out
    subst eo10
    go_wp2_with (first|((with_reducible refine qam (f := 25) rfl ?_);refine goesL_ (some 20) rfl rfl Tryz.func25 (by kernel_rfl) rfl #[.slice Ao10 x3_1.length co10] rfl (by first|rfl|(simp only [List.map_toArray,List.map_cons,List.map_nil,List.length_drop,List.length_take];rfl)|simp only [List.map_toArray,List.map_cons,List.map_nil]) ?_;(with_reducible refine (keelsonref4_Print.calls k1 _ _ x3_1 t410 _ (by first|exact hG|exact GL.below hG (by repeat (with_reducible first|exact HB.out|apply qab|apply qaa|apply qac)))  ?side1 ?side2 A9.out).mono ?_);(case side1 => repeat (first|exact (Kd.S_reads' HO_3.out).2.2|(with_reducible refine Kd.C_alloc ?_ _)|(with_reducible refine Kd.C_drewN ?_ _)|(with_reducible refine Kd.C_drew ?_)));(case side2 => exact (Kd.S_reads' HO_3.out).2.1);rintro e w11 ⟨rfl,hb⟩;refine ⟨_,rfl,?_⟩;have n0_ := Aside0.mk (Kd.S_below (by (with_reducible repeat (first|apply Kd.S_alloc|apply Kd.S_drewN|apply Kd.S_drew));exact HO_3.out) hb);have n1_ := Aside0.mk (qan (by repeat (with_reducible first|exact HB.out|apply qab|apply qaa|apply qac)) hb);clear HO_3;clear HB;have HO_3 := n0_;have HB := n1_;clear n0_ n1_;(try clear hb);(try clear hb2);(try clear hk);(try clear hi)))
    go_ret
    exact ⟨by first|rfl|(simp [qak,qal]<;>rfl)|(simp [*,qak,qal]<;>rfl),by repeat (with_reducible first|exact HB.out|apply qab|apply qaa|apply qac)⟩
def keelsonlaw4_DependsPrints.j0 : Nat → List (List (S39)) → List (S39) → Bool → Bool → Option (Bool)
 | 0,_,_,_,_ => none
 | k + 1,x0,x1,x5,x22 => if x22 = true then (some x5) else ((depends_Right.f k x0).bind fun t414 => ((keelsonref4_Right.f k x0).bind fun t415 => (if (t414 == t415) = true then ((depends_Print.f k x0).bind fun t416 => ((keelsonref4_Print.f k x0).bind fun t417 => (if t416.toList = t417.toList then ((depends_Join.f k x1).bind fun t418 => ((keelsonref4_Join.f k x1).bind fun t419 => (some (t418.toList == t419.toList)))) else (some false)))) else (some false))))
def keelsonlaw4_DependsPrints.f (k : Nat) (l0 : List (List (S39))) (l1 : List (S39)) : Option (Bool) := (keelsonlaw4_shown.f k).bind fun t411 => ((keelsonlaw4_small.f k l0).bind fun t412 => ((keelsonlaw4_light.f k l1).bind fun t413 => (if t411 = true then (if t412 = true then (keelsonlaw4_DependsPrints.j0 k l0 l1 t411 (!t413)) else (keelsonlaw4_DependsPrints.j0 k l0 l1 t411 true)) else (keelsonlaw4_DependsPrints.j0 k l0 l1 t411 true))))
theorem keelsonlaw4_DependsPrints.mono_l : ∀ k,(∀ y0 y1 y2 y3,LeO (keelsonlaw4_DependsPrints.j0 k y0 y1 y2 y3) (keelsonlaw4_DependsPrints.j0 (k + 1) y0 y1 y2 y3))
 | 0 => fun _ _ _ _ r h => by simp [keelsonlaw4_DependsPrints.j0] at h
 | k + 1 => by
  have ih0 := keelsonlaw4_DependsPrints.mono_l k
  ·intro y0 y1 y2 y3
   unfold keelsonlaw4_DependsPrints.j0
   repeat' first
   | (with_reducible exact ih0 _ _ _ _)
   | (with_reducible exact depends_Join.mono _ _)
   | (with_reducible exact depends_Print.mono _ _)
   | (with_reducible exact depends_Right.mono _ _)
   | (with_reducible exact keelsonlaw4_light.mono _ _)
   | (with_reducible exact keelsonlaw4_shown.mono _)
   | (with_reducible exact keelsonlaw4_small.mono _ _)
   | (with_reducible exact keelsonref4_Join.mono _ _)
   | (with_reducible exact keelsonref4_Print.mono _ _)
   | (with_reducible exact keelsonref4_Right.mono _ _)
   | (with_reducible exact LeO.refl _)
   | (with_reducible exact LeO.none _)
   | (with_reducible refine LeO.ite ?_ ?_)
   | (with_reducible refine LeO.bind ?_ (fun _ => ?_))
   | exact ih0 _ _ _ _
   | exact depends_Join.mono _ _
   | exact depends_Print.mono _ _
   | exact depends_Right.mono _ _
   | exact keelsonlaw4_light.mono _ _
   | exact keelsonlaw4_shown.mono _
   | exact keelsonlaw4_small.mono _ _
   | exact keelsonref4_Join.mono _ _
   | exact keelsonref4_Print.mono _ _
   | exact keelsonref4_Right.mono _ _
   | exact LeO.none _
   | refine LeO.ite ?_ ?_
   | refine LeO.bind ?_ (fun _ => ?_)
theorem keelsonlaw4_DependsPrints.mono : ∀ a0 a1 k,LeO (keelsonlaw4_DependsPrints.f k a0 a1) (keelsonlaw4_DependsPrints.f (k + 1) a0 a1) := by
 intro a0 a1 k
 have ih0 := keelsonlaw4_DependsPrints.mono_l k
 unfold keelsonlaw4_DependsPrints.f
 repeat' first
   | (with_reducible exact ih0 _ _ _ _)
   | (with_reducible exact depends_Join.mono _ _)
   | (with_reducible exact depends_Print.mono _ _)
   | (with_reducible exact depends_Right.mono _ _)
   | (with_reducible exact keelsonlaw4_light.mono _ _)
   | (with_reducible exact keelsonlaw4_shown.mono _)
   | (with_reducible exact keelsonlaw4_small.mono _ _)
   | (with_reducible exact keelsonref4_Join.mono _ _)
   | (with_reducible exact keelsonref4_Print.mono _ _)
   | (with_reducible exact keelsonref4_Right.mono _ _)
   | (with_reducible exact LeO.refl _)
   | (with_reducible exact LeO.none _)
   | (with_reducible refine LeO.ite ?_ ?_)
   | (with_reducible refine LeO.bind ?_ (fun _ => ?_))
   | exact ih0 _ _ _ _
   | exact depends_Join.mono _ _
   | exact depends_Print.mono _ _
   | exact depends_Right.mono _ _
   | exact keelsonlaw4_light.mono _ _
   | exact keelsonlaw4_shown.mono _
   | exact keelsonlaw4_small.mono _ _
   | exact keelsonref4_Join.mono _ _
   | exact keelsonref4_Print.mono _ _
   | exact keelsonref4_Right.mono _ _
   | exact LeO.none _
   | refine LeO.ite ?_ ?_
   | refine LeO.bind ?_ (fun _ => ?_)
theorem keelsonlaw4_DependsPrints.calls (k : Nat) (A0 : Option Addr) (c0 : Nat) (l0 : List (List (S39))) (A1 : Option Addr) (c1 : Nat) (l1 : List (S39)) (r : Bool) (w : World) (hG : GL w) (hr0 : Kd.C (Kd.slice 39 k39) w A0 l0.length l0) (hc0 : l0.length ≤ c0) (hr1 : Kd.C k39 w A1 l1.length l1) (hc1 : l1.length ≤ c1) (h : keelsonlaw4_DependsPrints.f k l0 l1 = some r) :
  Calls Tryz.prog 7 #[.slice A0 l0.length c0,.slice A1 l1.length c1] w fun e w' => e = .returned (.bool r) ∧ Below w.heap.size w w' := by
 have HR0 := Aside0.mk hr0
 have HC0 := Aside0.mk hc0
 clear hr0 hc0
 have HR1 := Aside0.mk hr1
 have HC1 := Aside0.mk hc1
 clear hr1 hc1
 have HB := Aside0.mk (Below.refl w.heap.size w)
 have H : ((keelsonlaw4_shown.f k).bind fun t411 => ((keelsonlaw4_small.f k l0).bind fun t412 => ((keelsonlaw4_light.f k l1).bind fun t413 => (if t411 = true then (if t412 = true then (keelsonlaw4_DependsPrints.j0 k l0 l1 t411 (!t413)) else (keelsonlaw4_DependsPrints.j0 k l0 l1 t411 true)) else (keelsonlaw4_DependsPrints.j0 k l0 l1 t411 true))))) = some r := h
 clear h
 replace H := Option.bind_eq_some_iff.mp H
 obtain ⟨t411,A30,H⟩ := H
 replace H : ((keelsonlaw4_small.f k l0).bind fun t412 => ((keelsonlaw4_light.f k l1).bind fun t413 => (if t411 = true then (if t412 = true then (keelsonlaw4_DependsPrints.j0 k l0 l1 t411 (!t413)) else (keelsonlaw4_DependsPrints.j0 k l0 l1 t411 true)) else (keelsonlaw4_DependsPrints.j0 k l0 l1 t411 true)))) = some r := H
 have A3 := Aside0.mk A30
 clear A30
 replace H := Option.bind_eq_some_iff.mp H
 obtain ⟨t412,A40,H⟩ := H
 replace H : ((keelsonlaw4_light.f k l1).bind fun t413 => (if t411 = true then (if t412 = true then (keelsonlaw4_DependsPrints.j0 k l0 l1 t411 (!t413)) else (keelsonlaw4_DependsPrints.j0 k l0 l1 t411 true)) else (keelsonlaw4_DependsPrints.j0 k l0 l1 t411 true))) = some r := H
 have A4 := Aside0.mk A40
 clear A40
 replace H := Option.bind_eq_some_iff.mp H
 obtain ⟨t413,A50,H⟩ := H
 replace H : (if t411 = true then (if t412 = true then (keelsonlaw4_DependsPrints.j0 k l0 l1 t411 (!t413)) else (keelsonlaw4_DependsPrints.j0 k l0 l1 t411 true)) else (keelsonlaw4_DependsPrints.j0 k l0 l1 t411 true)) = some r := H
 have A5 := Aside0.mk A50
 clear A50
 have HC6 := Aside0.mk H
 clear H
 go_enter Tryz.func7,Tryz.ntmps7
 go_upto_region 4 with (first|((with_reducible refine qam (f := 9) rfl ?_);refine goesL_ (some 8) rfl rfl Tryz.func9 (by kernel_rfl) rfl #[] rfl (by first|rfl|(simp only [List.map_toArray,List.map_cons,List.map_nil,List.length_drop,List.length_take];rfl)|simp only [List.map_toArray,List.map_cons,List.map_nil]) ?_;(with_reducible refine (keelsonlaw4_shown.calls k  t411 _ (by first|exact hG|exact GL.below hG (by repeat (with_reducible first|exact HB.out|apply qab|apply qaa|apply qac)))  A3.out).mono ?_);rintro e w7 ⟨rfl,hb⟩;refine ⟨_,rfl,?_⟩;have n0_ := Aside0.mk (qan (by repeat (with_reducible first|exact HB.out|apply qab|apply qaa|apply qac)) hb);clear HB;have HB := n0_;clear n0_;(try clear hb);(try clear hb2);(try clear hk);(try clear hi))|((with_reducible refine qam (f := 16) rfl ?_);refine goesL_ (some 10) rfl rfl Tryz.func16 (by kernel_rfl) rfl #[.slice A0 l0.length c0] rfl (by first|rfl|(simp only [List.map_toArray,List.map_cons,List.map_nil,List.length_drop,List.length_take];rfl)|simp only [List.map_toArray,List.map_cons,List.map_nil]) ?_;(with_reducible refine (keelsonlaw4_small.calls k _ _ l0 t412 _ (by first|exact hG|exact GL.below hG (by repeat (with_reducible first|exact HB.out|apply qab|apply qaa|apply qac)))  ?side1 ?side2 A4.out).mono ?_);(case side1 => repeat (first|exact (Kd.C_below HR0.out HB.out)|(with_reducible refine Kd.C_alloc ?_ _)|(with_reducible refine Kd.C_drewN ?_ _)|(with_reducible refine Kd.C_drew ?_)));(case side2 => exact HC0.out);rintro e w' ⟨rfl,⟨nd,rfl⟩⟩;refine ⟨_,rfl,?_⟩)|((with_reducible refine qam (f := 19) rfl ?_);refine goesL_ (some 12) rfl rfl Tryz.func19 (by kernel_rfl) rfl #[.slice A1 l1.length c1] rfl (by first|rfl|(simp only [List.map_toArray,List.map_cons,List.map_nil,List.length_drop,List.length_take];rfl)|simp only [List.map_toArray,List.map_cons,List.map_nil]) ?_;(with_reducible refine (keelsonlaw4_light.calls k _ _ l1 t413 _ (by first|exact hG|exact GL.below hG (by repeat (with_reducible first|exact HB.out|apply qab|apply qaa|apply qac)))  ?side1 ?side2 A5.out).mono ?_);(case side1 => repeat (first|exact (Kd.C_below HR1.out (by repeat (with_reducible first|exact HB.out|apply qab|apply qaa|apply qac)))|(with_reducible refine Kd.C_alloc ?_ _)|(with_reducible refine Kd.C_drewN ?_ _)|(with_reducible refine Kd.C_drew ?_)));(case side2 => exact HC1.out);rintro e w' ⟨rfl,⟨nd,rfl⟩⟩;refine ⟨_,rfl,?_⟩))
 (try simp only [Act.put,List.setIfInBounds_toArray,List.set_cons_zero,List.set_cons_succ])
 go_cut [22] (fun v22 wc => ∃ (kq : Nat) (x22_5 : Bool),v22 = .bool x22_5 ∧ Aside0 (keelsonlaw4_DependsPrints.j0 kq l0 l1 t411 x22_5 = some r) ∧ Aside0 (kq ≤ k) ∧ Aside0 (Below w.heap.size w wc))
 case first =>
  have H := HC6.out
  clear HC6
  by_cases c8 : t411 = true
  ·subst c8
   have H1 : (if t412 = true then (keelsonlaw4_DependsPrints.j0 k l0 l1 true (!t413)) else (keelsonlaw4_DependsPrints.j0 k l0 l1 true true)) = some r := by rw [if_pos rfl] at H;exact H
   clear H
   have H := H1
   clear H1
   by_cases c9 : t412 = true
   ·subst c9
    have H1 : (keelsonlaw4_DependsPrints.j0 k l0 l1 true (!t413)) = some r := by rw [if_pos rfl] at H;exact H
    clear H
    have H := H1
    clear H1
    have H' := Aside0.mk H
    clear H
    go_wp2
    go_meet
    case rel => exact ⟨_,(!t413),(by first|rfl|(simp;done)|(simp [*];done)|(simp [qaj];done)),H',⟨by first|omega|exact Nat.le_refl _⟩,⟨by repeat (with_reducible first|exact HB.out|apply qab|apply qaa|apply qac)⟩⟩
   ·replace c9 := Bool.eq_false_iff.mpr c9
    subst c9
    have H1 : (keelsonlaw4_DependsPrints.j0 k l0 l1 true true) = some r := by rw [if_neg (show ¬ (false = true) by decide)] at H;exact H
    clear H
    have H := H1
    clear H1
    have H' := Aside0.mk H
    clear H
    go_wp2
    go_meet
    case rel => exact ⟨_,(true),(by first|rfl|(simp;done)|(simp [*];done)|(simp [qaj];done)),H',⟨by first|omega|exact Nat.le_refl _⟩,⟨by repeat (with_reducible first|exact HB.out|apply qab|apply qaa|apply qac)⟩⟩
  ·replace c8 := Bool.eq_false_iff.mpr c8
   subst c8
   have H1 : (keelsonlaw4_DependsPrints.j0 k l0 l1 false true) = some r := by rw [if_neg (show ¬ (false = true) by decide)] at H;exact H
   clear H
   have H := H1
   clear H1
   have H' := Aside0.mk H
   clear H
   go_wp2
   go_meet
   case rel => exact ⟨_,(true),(by first|rfl|(simp;done)|(simp [*];done)|(simp [qaj];done)),H',⟨by first|omega|exact Nat.le_refl _⟩,⟨by repeat (with_reducible first|exact HB.out|apply qab|apply qaa|apply qac)⟩⟩
 case rest =>
  clear HC6
  try clear c1
  try clear p2
  try clear c7
  try clear c8
  try clear c9
  obtain ⟨kq,x22_5,rfl,HA,HJ5,HB⟩ := hcut
  cases kq with
  | zero => exact absurd HA.out (by simp [keelsonlaw4_DependsPrints.j0])
  | succ kj5 =>
   have H := HA.out
   clear HA
   simp only [keelsonlaw4_DependsPrints.j0] at H
   by_cases c10 : x22_5 = true
   ·subst c10
    have H1 : (some t411) = some r := by rw [if_pos rfl] at H;exact H
    clear H
    have H := H1
    clear H1
    obtain rfl := Option.some.inj H
    go_wp2
    go_ret
    exact ⟨by first|rfl|(simp [qak,qal]<;>rfl)|(simp [*,qak,qal]<;>rfl),by repeat (with_reducible first|exact HB.out|apply qab|apply qaa|apply qac)⟩
   ·replace c10 := Bool.eq_false_iff.mpr c10
    subst c10
    have H1 : ((depends_Right.f kj5 l0).bind fun t414 => ((keelsonref4_Right.f kj5 l0).bind fun t415 => (if (t414 == t415) = true then ((depends_Print.f kj5 l0).bind fun t416 => ((keelsonref4_Print.f kj5 l0).bind fun t417 => (if t416.toList = t417.toList then ((depends_Join.f kj5 l1).bind fun t418 => ((keelsonref4_Join.f kj5 l1).bind fun t419 => (some (t418.toList == t419.toList)))) else (some false)))) else (some false)))) = some r := by rw [if_neg (show ¬ (false = true) by decide)] at H;exact H
    clear H
    have H := H1
    clear H1
    replace H := Option.bind_eq_some_iff.mp H
    obtain ⟨t414,A110,H⟩ := H
    replace H : ((keelsonref4_Right.f kj5 l0).bind fun t415 => (if (t414 == t415) = true then ((depends_Print.f kj5 l0).bind fun t416 => ((keelsonref4_Print.f kj5 l0).bind fun t417 => (if t416.toList = t417.toList then ((depends_Join.f kj5 l1).bind fun t418 => ((keelsonref4_Join.f kj5 l1).bind fun t419 => (some (t418.toList == t419.toList)))) else (some false)))) else (some false))) = some r := H
    have A11 := Aside0.mk A110
    clear A110
    replace H := Option.bind_eq_some_iff.mp H
    obtain ⟨t415,A120,H⟩ := H
    replace H : (if (t414 == t415) = true then ((depends_Print.f kj5 l0).bind fun t416 => ((keelsonref4_Print.f kj5 l0).bind fun t417 => (if t416.toList = t417.toList then ((depends_Join.f kj5 l1).bind fun t418 => ((keelsonref4_Join.f kj5 l1).bind fun t419 => (some (t418.toList == t419.toList)))) else (some false)))) else (some false)) = some r := H
    have A12 := Aside0.mk A120
    clear A120
    by_cases c13 : (t414 == t415) = true
    ·rw [if_pos c13] at H
     have c13b0 : (t414 == t415) = true := c13
     (try (have c13b1 : decide (t414 = t415) = true := by simpa using c13))
     (try (have c13b2 : (t414 == t415) = true := by simpa using c13))
     clear c13
     replace H := Option.bind_eq_some_iff.mp H
     obtain ⟨t416,A140,H⟩ := H
     replace H : ((keelsonref4_Print.f kj5 l0).bind fun t417 => (if t416.toList = t417.toList then ((depends_Join.f kj5 l1).bind fun t418 => ((keelsonref4_Join.f kj5 l1).bind fun t419 => (some (t418.toList == t419.toList)))) else (some false))) = some r := H
     have A14 := Aside0.mk A140
     clear A140
     replace H := Option.bind_eq_some_iff.mp H
     obtain ⟨t417,A150,H⟩ := H
     replace H : (if t416.toList = t417.toList then ((depends_Join.f kj5 l1).bind fun t418 => ((keelsonref4_Join.f kj5 l1).bind fun t419 => (some (t418.toList == t419.toList)))) else (some false)) = some r := H
     have A15 := Aside0.mk A150
     clear A150
     by_cases c16 : t416.toList = t417.toList
     ·rw [if_pos c16] at H
      have c16b0 : (t416.toList == t417.toList) = true := beq_iff_eq.mpr c16
      have c16b1 : (t416.toList != t417.toList) = false := bne_eq_false_iff_eq.mpr c16
      clear c16
      replace H := Option.bind_eq_some_iff.mp H
      obtain ⟨t418,A170,H⟩ := H
      replace H : ((keelsonref4_Join.f kj5 l1).bind fun t419 => (some (t418.toList == t419.toList))) = some r := H
      have A17 := Aside0.mk A170
      clear A170
      replace H := Option.bind_eq_some_iff.mp H
      obtain ⟨t419,A180,H⟩ := H
      replace H : (some (t418.toList == t419.toList)) = some r := H
      have A18 := Aside0.mk A180
      clear A180
      obtain rfl := Option.some.inj H
      go_wp2_with (first|((with_reducible refine qam (f := 17) rfl ?_);refine goesL_ (some 25) rfl rfl Tryz.func17 (by kernel_rfl) rfl #[.slice A0 l0.length c0] rfl (by first|rfl|(simp only [List.map_toArray,List.map_cons,List.map_nil,List.length_drop,List.length_take];rfl)|simp only [List.map_toArray,List.map_cons,List.map_nil]) ?_;(with_reducible refine (depends_Right.calls kj5 _ _ l0 t414 _ (by first|exact hG|exact GL.below hG (by repeat (with_reducible first|exact HB.out|apply qab|apply qaa|apply qac)))  ?side1 ?side2 A11.out).mono ?_);(case side1 => repeat (first|exact (Kd.C_below HR0.out HB.out)|(with_reducible refine Kd.C_alloc ?_ _)|(with_reducible refine Kd.C_drewN ?_ _)|(with_reducible refine Kd.C_drew ?_)));(case side2 => exact HC0.out);rintro e w19 ⟨rfl,hb⟩;refine ⟨_,rfl,?_⟩;have n0_ := Aside0.mk (qan (by repeat (with_reducible first|exact HB.out|apply qab|apply qaa|apply qac)) hb);clear HB;have HB := n0_;clear n0_;(try clear hb);(try clear hb2);(try clear hk);(try clear hi))|((with_reducible refine qam (f := 24) rfl ?_);refine goesL_ (some 27) rfl rfl Tryz.func24 (by kernel_rfl) rfl #[.slice A0 l0.length c0] rfl (by first|rfl|(simp only [List.map_toArray,List.map_cons,List.map_nil,List.length_drop,List.length_take];rfl)|simp only [List.map_toArray,List.map_cons,List.map_nil]) ?_;(with_reducible refine (keelsonref4_Right.calls kj5 _ _ l0 t415 _ (by first|exact hG|exact GL.below hG (by repeat (with_reducible first|exact HB.out|apply qab|apply qaa|apply qac)))  ?side1 ?side2 A12.out).mono ?_);(case side1 => repeat (first|exact (Kd.C_below HR0.out HB.out)|(with_reducible refine Kd.C_alloc ?_ _)|(with_reducible refine Kd.C_drewN ?_ _)|(with_reducible refine Kd.C_drew ?_)));(case side2 => exact HC0.out);rintro e w20 ⟨rfl,hb⟩;refine ⟨_,rfl,?_⟩;have n0_ := Aside0.mk (qan (by repeat (with_reducible first|exact HB.out|apply qab|apply qaa|apply qac)) hb);clear HB;have HB := n0_;clear n0_;(try clear hb);(try clear hb2);(try clear hk);(try clear hi))|(go_at_call 18;(with_reducible refine (depends_Print.calls kj5 _ _ l0 t416 _ (by first|exact hG|exact GL.below hG (by repeat (with_reducible first|exact HB.out|apply qab|apply qaa|apply qac)))  ?side1 ?side2 A14.out).mono ?_);(case side1 => repeat (first|exact (Kd.C_below HR0.out HB.out)|(with_reducible refine Kd.C_alloc ?_ _)|(with_reducible refine Kd.C_drewN ?_ _)|(with_reducible refine Kd.C_drew ?_)));(case side2 => exact HC0.out);rintro e w21 ⟨rfl,hb⟩;have n0_ := Aside0.mk (qan (by repeat (with_reducible first|exact HB.out|apply qab|apply qaa|apply qac)) hb);clear HB;have HB := n0_;clear n0_;(try clear hb);(try clear hb2);(try clear hk);(try clear hi))|(go_at_call 25;(with_reducible refine (keelsonref4_Print.calls kj5 _ _ l0 t417 _ (by first|exact hG|exact GL.below hG (by repeat (with_reducible first|exact HB.out|apply qab|apply qaa|apply qac)))  ?side1 ?side2 A15.out).mono ?_);(case side1 => repeat (first|exact (Kd.C_below HR0.out HB.out)|(with_reducible refine Kd.C_alloc ?_ _)|(with_reducible refine Kd.C_drewN ?_ _)|(with_reducible refine Kd.C_drew ?_)));(case side2 => exact HC0.out);rintro e w22 ⟨rfl,hb⟩;have n0_ := Aside0.mk (qan (by repeat (with_reducible first|exact HB.out|apply qab|apply qaa|apply qac)) hb);clear HB;have HB := n0_;clear n0_;(try clear hb);(try clear hb2);(try clear hk);(try clear hi))|(go_at_call 26;(with_reducible refine (depends_Join.calls kj5 _ _ l1 t418 _ (by first|exact hG|exact GL.below hG (by repeat (with_reducible first|exact HB.out|apply qab|apply qaa|apply qac)))  ?side1 ?side2 A17.out).mono ?_);(case side1 => repeat (first|exact (Kd.C_below HR1.out HB.out)|(with_reducible refine Kd.C_alloc ?_ _)|(with_reducible refine Kd.C_drewN ?_ _)|(with_reducible refine Kd.C_drew ?_)));(case side2 => exact HC1.out);rintro e w23 ⟨rfl,hb⟩;have n0_ := Aside0.mk (qan (by repeat (with_reducible first|exact HB.out|apply qab|apply qaa|apply qac)) hb);clear HB;have HB := n0_;clear n0_;(try clear hb);(try clear hb2);(try clear hk);(try clear hi))|(go_at_call 27;(with_reducible refine (keelsonref4_Join.calls kj5 _ _ l1 t419 _ (by first|exact hG|exact GL.below hG (by repeat (with_reducible first|exact HB.out|apply qab|apply qaa|apply qac)))  ?side1 ?side2 A18.out).mono ?_);(case side1 => repeat (first|exact (Kd.C_below HR1.out HB.out)|(with_reducible refine Kd.C_alloc ?_ _)|(with_reducible refine Kd.C_drewN ?_ _)|(with_reducible refine Kd.C_drew ?_)));(case side2 => exact HC1.out);rintro e w24 ⟨rfl,hb⟩;have n0_ := Aside0.mk (qan (by repeat (with_reducible first|exact HB.out|apply qab|apply qaa|apply qac)) hb);clear HB;have HB := n0_;clear n0_;(try clear hb);(try clear hb2);(try clear hk);(try clear hi)))
      go_ret
      exact ⟨by first|rfl|(simp [qak,qal]<;>rfl)|(simp [*,qak,qal]<;>rfl),by repeat (with_reducible first|exact HB.out|apply qab|apply qaa|apply qac)⟩
     ·rw [if_neg c16] at H
      have c16b0 : (t416.toList == t417.toList) = false := beq_eq_false_iff_ne.mpr c16
      have c16b1 : (t416.toList != t417.toList) = true := bne_iff_ne.mpr c16
      obtain rfl := Option.some.inj H
      go_wp2_with (first|((with_reducible refine qam (f := 17) rfl ?_);refine goesL_ (some 25) rfl rfl Tryz.func17 (by kernel_rfl) rfl #[.slice A0 l0.length c0] rfl (by first|rfl|(simp only [List.map_toArray,List.map_cons,List.map_nil,List.length_drop,List.length_take];rfl)|simp only [List.map_toArray,List.map_cons,List.map_nil]) ?_;(with_reducible refine (depends_Right.calls kj5 _ _ l0 t414 _ (by first|exact hG|exact GL.below hG (by repeat (with_reducible first|exact HB.out|apply qab|apply qaa|apply qac)))  ?side1 ?side2 A11.out).mono ?_);(case side1 => repeat (first|exact (Kd.C_below HR0.out HB.out)|(with_reducible refine Kd.C_alloc ?_ _)|(with_reducible refine Kd.C_drewN ?_ _)|(with_reducible refine Kd.C_drew ?_)));(case side2 => exact HC0.out);rintro e w25 ⟨rfl,hb⟩;refine ⟨_,rfl,?_⟩;have n0_ := Aside0.mk (qan (by repeat (with_reducible first|exact HB.out|apply qab|apply qaa|apply qac)) hb);clear HB;have HB := n0_;clear n0_;(try clear hb);(try clear hb2);(try clear hk);(try clear hi))|((with_reducible refine qam (f := 24) rfl ?_);refine goesL_ (some 27) rfl rfl Tryz.func24 (by kernel_rfl) rfl #[.slice A0 l0.length c0] rfl (by first|rfl|(simp only [List.map_toArray,List.map_cons,List.map_nil,List.length_drop,List.length_take];rfl)|simp only [List.map_toArray,List.map_cons,List.map_nil]) ?_;(with_reducible refine (keelsonref4_Right.calls kj5 _ _ l0 t415 _ (by first|exact hG|exact GL.below hG (by repeat (with_reducible first|exact HB.out|apply qab|apply qaa|apply qac)))  ?side1 ?side2 A12.out).mono ?_);(case side1 => repeat (first|exact (Kd.C_below HR0.out HB.out)|(with_reducible refine Kd.C_alloc ?_ _)|(with_reducible refine Kd.C_drewN ?_ _)|(with_reducible refine Kd.C_drew ?_)));(case side2 => exact HC0.out);rintro e w26 ⟨rfl,hb⟩;refine ⟨_,rfl,?_⟩;have n0_ := Aside0.mk (qan (by repeat (with_reducible first|exact HB.out|apply qab|apply qaa|apply qac)) hb);clear HB;have HB := n0_;clear n0_;(try clear hb);(try clear hb2);(try clear hk);(try clear hi))|(go_at_call 18;(with_reducible refine (depends_Print.calls kj5 _ _ l0 t416 _ (by first|exact hG|exact GL.below hG (by repeat (with_reducible first|exact HB.out|apply qab|apply qaa|apply qac)))  ?side1 ?side2 A14.out).mono ?_);(case side1 => repeat (first|exact (Kd.C_below HR0.out HB.out)|(with_reducible refine Kd.C_alloc ?_ _)|(with_reducible refine Kd.C_drewN ?_ _)|(with_reducible refine Kd.C_drew ?_)));(case side2 => exact HC0.out);rintro e w27 ⟨rfl,hb⟩;have n0_ := Aside0.mk (qan (by repeat (with_reducible first|exact HB.out|apply qab|apply qaa|apply qac)) hb);clear HB;have HB := n0_;clear n0_;(try clear hb);(try clear hb2);(try clear hk);(try clear hi))|(go_at_call 25;(with_reducible refine (keelsonref4_Print.calls kj5 _ _ l0 t417 _ (by first|exact hG|exact GL.below hG (by repeat (with_reducible first|exact HB.out|apply qab|apply qaa|apply qac)))  ?side1 ?side2 A15.out).mono ?_);(case side1 => repeat (first|exact (Kd.C_below HR0.out HB.out)|(with_reducible refine Kd.C_alloc ?_ _)|(with_reducible refine Kd.C_drewN ?_ _)|(with_reducible refine Kd.C_drew ?_)));(case side2 => exact HC0.out);rintro e w28 ⟨rfl,hb⟩;have n0_ := Aside0.mk (qan (by repeat (with_reducible first|exact HB.out|apply qab|apply qaa|apply qac)) hb);clear HB;have HB := n0_;clear n0_;(try clear hb);(try clear hb2);(try clear hk);(try clear hi)))
      go_ret
      exact ⟨by first|rfl|(simp [qak,qal]<;>rfl)|(simp [*,qak,qal]<;>rfl),by repeat (with_reducible first|exact HB.out|apply qab|apply qaa|apply qac)⟩
    ·rw [if_neg c13] at H
     have c13b0 : (t414 == t415) = false := by simpa using c13
     (try (have c13b1 : decide (t414 = t415) = false := by simpa using c13))
     (try (have c13b2 : (t414 == t415) = false := by simpa using c13))
     (try (have c13b3 : ¬ (t414 = t415) := by simpa using c13))
     clear c13
     obtain rfl := Option.some.inj H
     go_wp2_with (first|((with_reducible refine qam (f := 17) rfl ?_);refine goesL_ (some 25) rfl rfl Tryz.func17 (by kernel_rfl) rfl #[.slice A0 l0.length c0] rfl (by first|rfl|(simp only [List.map_toArray,List.map_cons,List.map_nil,List.length_drop,List.length_take];rfl)|simp only [List.map_toArray,List.map_cons,List.map_nil]) ?_;(with_reducible refine (depends_Right.calls kj5 _ _ l0 t414 _ (by first|exact hG|exact GL.below hG (by repeat (with_reducible first|exact HB.out|apply qab|apply qaa|apply qac)))  ?side1 ?side2 A11.out).mono ?_);(case side1 => repeat (first|exact (Kd.C_below HR0.out HB.out)|(with_reducible refine Kd.C_alloc ?_ _)|(with_reducible refine Kd.C_drewN ?_ _)|(with_reducible refine Kd.C_drew ?_)));(case side2 => exact HC0.out);rintro e w29 ⟨rfl,hb⟩;refine ⟨_,rfl,?_⟩;have n0_ := Aside0.mk (qan (by repeat (with_reducible first|exact HB.out|apply qab|apply qaa|apply qac)) hb);clear HB;have HB := n0_;clear n0_;(try clear hb);(try clear hb2);(try clear hk);(try clear hi))|((with_reducible refine qam (f := 24) rfl ?_);refine goesL_ (some 27) rfl rfl Tryz.func24 (by kernel_rfl) rfl #[.slice A0 l0.length c0] rfl (by first|rfl|(simp only [List.map_toArray,List.map_cons,List.map_nil,List.length_drop,List.length_take];rfl)|simp only [List.map_toArray,List.map_cons,List.map_nil]) ?_;(with_reducible refine (keelsonref4_Right.calls kj5 _ _ l0 t415 _ (by first|exact hG|exact GL.below hG (by repeat (with_reducible first|exact HB.out|apply qab|apply qaa|apply qac)))  ?side1 ?side2 A12.out).mono ?_);(case side1 => repeat (first|exact (Kd.C_below HR0.out HB.out)|(with_reducible refine Kd.C_alloc ?_ _)|(with_reducible refine Kd.C_drewN ?_ _)|(with_reducible refine Kd.C_drew ?_)));(case side2 => exact HC0.out);rintro e w30 ⟨rfl,hb⟩;refine ⟨_,rfl,?_⟩;have n0_ := Aside0.mk (qan (by repeat (with_reducible first|exact HB.out|apply qab|apply qaa|apply qac)) hb);clear HB;have HB := n0_;clear n0_;(try clear hb);(try clear hb2);(try clear hk);(try clear hi)))
     go_ret
     exact ⟨by first|rfl|(simp [qak,qal]<;>rfl)|(simp [*,qak,qal]<;>rfl),by repeat (with_reducible first|exact HB.out|apply qab|apply qaa|apply qac)⟩
end Go.Proofs.YtjbbgekkombpnaaGreatDoor.PA
