
import Derived.Test.YtjbbgekkombpnaaGreatDoorPAx0
import Derived.Test.YtjbbgekkombpnaaGreatDoorPAx6
import Derived.Test.YtjbbgekkombpnaaGreatDoorPAx7
import Derived.Test.YtjbbgekkombpnaaGreatDoorPAx11
import Derived.Test.YtjbbgekkombpnaaGreatDoorPAx17
noncomputable section
namespace Go.Proofs.YtjbbgekkombpnaaGreatDoor.PA
open Go.RowKit Go.Proofs.YtjbbgekkombpnaaGreatDoorW.PrintWords Go.Proofs.YtjbbgekkombpnaaGreatDoorW.PrintLast Go.Proofs.YtjbbgekkombpnaaGreatDoorW.PrintMore
attribute [local go_sem] max2_int min2_int max_two min_two max_three min_three max_four min_four
set_option maxHeartbeats 8000000
set_option maxRecDepth 100000
set_option linter.unusedVariables false
set_option linter.unusedSimpArgs false
def keelsonref4_Atoms.l0 : Nat → List (List (S39)) → List (S39) → Int → Option ((List (S39)) × Int)
 | 0,_,_,_ => none
 | k + 1,x4,x6,x7 => if x7 < (x4.length : Int) then (if 0 ≤ x7 then (if ((rd_L4 x4 x7).length : Int) = 1 then (if 0 < ((rd_L4 x4 x7).length : Int) then (if x6.length < 3518437208883 then (keelsonref4_Atoms.l0 k x4 (x6 ++ [(⟨(rd_T39 (rd_L4 x4 x7) 0).f0,(rd_T39 (rd_L4 x4 x7) 0).f1,(rd_T39 (rd_L4 x4 x7) 0).f2⟩ : S39)]) (wrap64 (x7 + 1))) else (none)) else (none)) else (some (([] : List (S39)),5))) else (none)) else (some (x6,0))
def keelsonref4_Atoms.f (k : Nat) (a0 : ByteArray) : Option ((List (S39)) × Int) := (keelsonref4_Parse.f k a0).bind fun bt321 => (if bt321.2 = 0 then (keelsonref4_Atoms.l0 k bt321.1 ([] : List (S39)) 0) else (some (([] : List (S39)),bt321.2)))
theorem keelsonref4_Atoms.mono_l : ∀ k,(∀ y0 y1 y2,LeO (keelsonref4_Atoms.l0 k y0 y1 y2) (keelsonref4_Atoms.l0 (k + 1) y0 y1 y2))
 | 0 => fun _ _ _ r h => by simp [keelsonref4_Atoms.l0] at h
 | k + 1 => by
  have ih0 := keelsonref4_Atoms.mono_l k
  ·intro y0 y1 y2
   unfold keelsonref4_Atoms.l0
   repeat' first
   | (with_reducible exact ih0 _ _ _)
   | (with_reducible exact keelsonref4_Parse.mono _ _)
   | (with_reducible exact LeO.refl _)
   | (with_reducible exact LeO.none _)
   | (with_reducible refine LeO.ite ?_ ?_)
   | (with_reducible refine LeO.bind ?_ (fun _ => ?_))
   | exact ih0 _ _ _
   | exact keelsonref4_Parse.mono _ _
   | exact LeO.none _
   | refine LeO.ite ?_ ?_
   | refine LeO.bind ?_ (fun _ => ?_)
theorem keelsonref4_Atoms.mono : ∀ a0 k,LeO (keelsonref4_Atoms.f k a0) (keelsonref4_Atoms.f (k + 1) a0) := by
 intro a0 k
 have ih0 := keelsonref4_Atoms.mono_l k
 unfold keelsonref4_Atoms.f
 repeat' first
   | (with_reducible exact ih0 _ _ _)
   | (with_reducible exact keelsonref4_Parse.mono _ _)
   | (with_reducible exact LeO.refl _)
   | (with_reducible exact LeO.none _)
   | (with_reducible refine LeO.ite ?_ ?_)
   | (with_reducible refine LeO.bind ?_ (fun _ => ?_))
   | exact ih0 _ _ _
   | exact keelsonref4_Parse.mono _ _
   | exact LeO.none _
   | refine LeO.ite ?_ ?_
   | refine LeO.bind ?_ (fun _ => ?_)
theorem keelsonref4_Atoms.calls (k : Nat) (a0 : ByteArray) (r1 : List (S39)) (r2 : Int) (w : World) (hG : GL w) (h : keelsonref4_Atoms.f k a0 = some (r1,r2)) :
  Calls Tryz.prog 13 #[.string a0] w fun e w' => ∃ v0_ : Value,e = .returned (.tuple #[v0_,.int .i64 r2]) ∧ Kd.R k39 39 w' w.heap.size (fun _ => True) v0_ r1 ∧ Below w.heap.size w w' := by
 have hu39 := Tryz.underlying39
 have HB := Aside0.mk (Below.refl w.heap.size w)
 have H : ((keelsonref4_Parse.f k a0).bind fun bt321 => (if bt321.2 = 0 then (keelsonref4_Atoms.l0 k bt321.1 ([] : List (S39)) 0) else (some (([] : List (S39)),bt321.2)))) = some (r1,r2) := h
 clear h
 replace H := Option.bind_eq_some_iff.mp H
 obtain ⟨⟨t321,t322⟩,A20,H⟩ := H
 replace H : (if t322 = 0 then (keelsonref4_Atoms.l0 k t321 ([] : List (S39)) 0) else (some (([] : List (S39)),t322))) = some (r1,r2) := H
 have A2 := Aside0.mk A20
 clear A20
 by_cases c3 : t322 = 0
 ·rw [if_pos c3] at H
  have c3b0 : (t322 == 0) = true := beq_iff_eq.mpr c3
  have c3b1 : (t322 != 0) = false := bne_eq_false_iff_eq.mpr c3
  clear c3
  have H' := Aside0.mk H
  clear H
  go_enter Tryz.func13,Tryz.ntmps13
  go_wp2_with (first|((with_reducible refine qak (f := 11) rfl ?_);refine goesL_ (some 10) rfl rfl Tryz.func11 (by kernel_rfl) rfl #[.string a0] rfl (by first|rfl|(simp only [List.map_toArray,List.map_cons,List.map_nil,List.length_drop,List.length_take];rfl)|simp only [List.map_toArray,List.map_cons,List.map_nil]) ?_;(with_reducible refine (keelsonref4_Parse.calls k a0 t321 t322 _ (by first|exact hG|exact GL.below hG (by repeat (with_reducible first|exact HB.out|apply qab|apply qaa|apply qac)))  A2.out).mono ?_);rintro e w4 ⟨v323,rfl,ho0,hb⟩;refine ⟨_,rfl,?_⟩;have n0_ := Aside0.mk (Kd.S_lower ho0 (qao (by repeat (with_reducible first|exact HB.out|apply qab|apply qaa|apply qac))));have n1_ := Aside0.mk (qan (by repeat (with_reducible first|exact HB.out|apply qab|apply qaa|apply qac)) hb);clear HB;have HO324 := n0_;have HB := n1_;clear n0_ n1_;(try clear hb);(try clear hb2);(try clear hk);(try clear hi);(try clear ho0)))
  go_loopg [6,7] k (fun kq v6 v7 w' => ∃ (x6_1 : List (S39)) (x7_1 : Int),v7 = .int .i64 x7_1 ∧ Aside0 (keelsonref4_Atoms.l0 kq t321 x6_1 x7_1 = some (r1,r2)) ∧ Aside0 (kq ≤ k) ∧ Aside0 (Kd.S (Kd.slice 39 k39) 48 w' w.heap.size (fun k_ => some k_ ≠ (v6 : Value).ownBlock) v323 t321) ∧ Aside0 (Kd.R k39 39 w' w.heap.size (fun _ => True) v6 x6_1) ∧ Aside0 (Below w.heap.size w w'))
  case atStart => exact ⟨(([] : List (S39))),(0),(by first|rfl|(simp;done)|(simp [*];done)|(simp [qaj];done)),H',⟨Nat.le_refl _⟩,⟨by (with_reducible repeat (first|apply Kd.S_alloc|apply Kd.S_drewN|apply Kd.S_drew));exact Kd.S_mono HO324.out (fun _ hk => (by simp [Value.ownBlock]))⟩,⟨by first|exact Kd.R_nil _ _ _ _ _|exact Kd.N_nil _ _ _ _ _|exact Kd.V_nil _ _ _ _ _|exact Kd.Q_nil _ _ _ _ _|exact Kd.S_nil _ _ _ _ _⟩,⟨by repeat (with_reducible first|exact HB.out|apply qab|apply qaa|apply qac)⟩⟩
  case round =>
   clear H'
   try clear c1
   try clear p2
   try clear c3
   try clear c3b0
   try clear c3b1
   obtain ⟨x6_1,x7_1,rfl,HA,HK1,HO_4,HO_6,HB⟩ := hrel
   cases gk with
   | zero => exact absurd HA.out (by simp [keelsonref4_Atoms.l0])
   | succ k1 =>
    have H := HA.out
    clear HA
    simp only [keelsonref4_Atoms.l0] at H
    by_cases c5 : x7_1 < (t321.length : Int)
    ·rw [if_pos c5] at H
     have c5b0 : decide (x7_1 < (t321.length : Int)) = true := decide_eq_true c5
     clear c5
     by_cases c6 : 0 ≤ x7_1
     ·rw [if_pos c6] at H
      have c6b0 : decide (0 ≤ x7_1) = true := decide_eq_true c6
      clear c6
      by_cases c7 : ((rd_L4 t321 x7_1).length : Int) = 1
      ·rw [if_pos c7] at H
       have c7b0 : (((rd_L4 t321 x7_1).length : Int) == 1) = true := beq_iff_eq.mpr c7
       have c7b1 : (((rd_L4 t321 x7_1).length : Int) != 1) = false := bne_eq_false_iff_eq.mpr c7
       clear c7
       by_cases c8 : 0 < ((rd_L4 t321 x7_1).length : Int)
       ·rw [if_pos c8] at H
        have c8b0 : decide (0 < ((rd_L4 t321 x7_1).length : Int)) = true := decide_eq_true c8
        have c8b1 : decide (0 < (rd_L4 t321 x7_1).length) = true := decide_eq_true (by omega)
        clear c8
        by_cases c9 : x6_1.length < 3518437208883
        ·rw [if_pos c9] at H
         have LMc9 := Aside0.mk c9
         clear c9
         obtain ⟨y328,hy328⟩ : ∃ y_ : List (S39),y_ = (x6_1 ++ [(⟨(rd_T39 (rd_L4 t321 x7_1) 0).f0,(rd_T39 (rd_L4 t321 x7_1) 0).f1,(rd_T39 (rd_L4 t321 x7_1) 0).f2⟩ : S39)]) := ⟨_,rfl⟩
         replace H : (keelsonref4_Atoms.l0 k1 t321 y328 (wrap64 (x7_1 + 1))) = some (r1,r2) := by first|(rw [hy328];with_reducible exact H)|(have H2_ := (Option.bind_some _ _).symm.trans H;rw [hy328];with_reducible exact H2_)|(have H2_ := (Option.bind_some _ _).symm.trans H;with_reducible exact H2_) | with_reducible exact H|(rw [hy328];exact H)|exact H
         have Ny328 := Aside0.mk hy328
         clear hy328
         have H' := Aside0.mk H
         clear H
         obtain ⟨Ao10,co10,eo10⟩ := Kd.S_slice HO_4.out
         subst eo10
         have p325 : 0 ≤ (x7_1 : Int) := of_decide_eq_true (by assumption)
         have q325 : x7_1 < (t321.length : Int) := of_decide_eq_true (by assumption)
         obtain ⟨ad325,A325_0,c325_0,e325,hx325_0,hl325_0,hi325_0⟩ := at_L4 (Kd.S_reads' HO_4.out).2.2 x7_1 p325 q325
         cases e325
         obtain ⟨ce325,hce325,hMe325,hcc325⟩ := Kd.S_get HO_4.out [] x7_1 p325 (by first|exact q325|exact of_decide_eq_true (by assumption)|(have e_ := (Kd.S_reads' HO_4.out).1;omega))
         obtain ⟨ve325_0,rfl,ge325_0⟩ := hMe325
         have hv325_0 := hcc325 0 _ rfl
         rw [Nat.add_zero,show ((Kd.slice 39 k39)).sz = 1 from rfl,Nat.mul_one] at hv325_0
         replace hv325_0 := Option.some.inj (hv325_0.symm.trans hx325_0)
         rw [hv325_0] at ge325_0
         have HL325_0 := Aside0.mk (show Kd.R k39 39 _ _ _ _ (rd_L4 t321 x7_1) from ge325_0)
         clear hv325_0 ge325_0
         clear hcc325 hce325
         have HR325_0 := Aside0.mk hi325_0
         have HC325_0 := Aside0.mk hl325_0
         clear hi325_0 hl325_0
         replace p325 := eq_true p325
         replace q325 := eq_true q325
         have p326 : 0 ≤ (x7_1 : Int) := of_decide_eq_true (by assumption)
         have q326 : x7_1 < (t321.length : Int) := of_decide_eq_true (by assumption)
         obtain ⟨ad326,A326_0,c326_0,e326,hx326_0,hl326_0,hi326_0⟩ := at_L4 (Kd.S_reads' HO_4.out).2.2 x7_1 p326 q326
         obtain rfl : ad325 = ad326 := (by injection e326)
         obtain ⟨ce326,hce326,hMe326,hcc326⟩ := Kd.S_get HO_4.out [] x7_1 p326 (by first|exact q326|exact of_decide_eq_true (by assumption)|(have e_ := (Kd.S_reads' HO_4.out).1;omega))
         obtain ⟨ve326_0,rfl,ge326_0⟩ := hMe326
         have hv326_0 := hcc326 0 _ rfl
         rw [Nat.add_zero,show ((Kd.slice 39 k39)).sz = 1 from rfl,Nat.mul_one] at hv326_0
         replace hv326_0 := Option.some.inj (hv326_0.symm.trans hx326_0)
         rw [hv326_0] at ge326_0
         have HL326_0 := Aside0.mk (show Kd.R k39 39 _ _ _ _ (rd_L4 t321 x7_1) from ge326_0)
         clear hv326_0 ge326_0
         clear hcc326 hce326
         have HR326_0 := Aside0.mk hi326_0
         have HC326_0 := Aside0.mk hl326_0
         clear hi326_0 hl326_0
         replace p326 := eq_true p326
         replace q326 := eq_true q326
         have ea_ := Option.some.inj (hx325_0.symm.trans hx326_0)
         injection ea_ with ea_ en_ ec_
         subst ea_
         subst ec_
         clear en_
         have p327 : 0 ≤ (0 : Int) := (by omega)
         have q327 : 0 < ((rd_L4 t321 x7_1).length : Int) := of_decide_eq_true (by assumption)
         obtain ⟨ad327,e327,hx327_0,hx327_1,hx327_2⟩ := at_T39 (by repeat (first|(with_reducible exact HR326_0.out)|(with_reducible refine Kd.C_alloc ?_ _)|(with_reducible refine Kd.C_drewN ?_ _)|(with_reducible refine Kd.C_drew ?_)|exact HR326_0.out)) 0 p327 q327
         cases e327
         have qi327 : (0 < (rd_L4 t321 x7_1).length) = True := eq_true (by omega)
         (try rw [show ((0 : Int)).toNat = 0 from rfl] at hx327_0)
         (try rw [show 0 * 3 = 0 from rfl] at hx327_0)
         (try rw [Addr.add_zero'] at hx327_0)
         (try rw [show ((0 : Int)).toNat = 0 from rfl] at hx327_1)
         (try rw [show 0 * 3 = 0 from rfl] at hx327_1)
         (try rw [Addr.add_zero'] at hx327_1)
         (try rw [show ((0 : Int)).toNat = 0 from rfl] at hx327_2)
         (try rw [show 0 * 3 = 0 from rfl] at hx327_2)
         (try rw [Addr.add_zero'] at hx327_2)
         replace p327 := eq_true p327
         replace q327 := eq_true q327
         go_wp2_with (first|((with_reducible refine gate_builtin (b := .append) (xs := #[.tmp 28,.tmp 35]) rfl ?_);at_builtin;refine Kd.R_append k39 (w0 := w) w.heap.size rfl (.tmp 28) (.tmp 35) 27 39 (.agg #[(.string ⟨#[]⟩),(.int .i64 0),(.string ⟨#[]⟩)]) 40 rfl Tryz.underlying27 info39 rfl (by decide) (by omega) u6 x6_1 (⟨(rd_T39 (rd_L4 t321 x7_1) 0).f0,(rd_T39 (rd_L4 t321 x7_1) 0).f1,(rd_T39 (rd_L4 t321 x7_1) 0).f2⟩ : S39) [.string ((rd_T39 (rd_L4 t321 x7_1) 0).f0),.int .i64 ((rd_T39 (rd_L4 t321 x7_1) 0).f1),.string ((rd_T39 (rd_L4 t321 x7_1) 0).f2)] (fun _ => True) (fun _ => False) rfl rfl ?aP (fun _ hk => hk.elim) ?aF ?aO ?aB ?aS ?aL ?_;(case aP => exact k39_mkM _ _ _ (⟨(rd_T39 (rd_L4 t321 x7_1) 0).f0,(rd_T39 (rd_L4 t321 x7_1) 0).f1,(rd_T39 (rd_L4 t321 x7_1) 0).f2⟩ : S39));(case aB => exact (by repeat (with_reducible first|exact HB.out|apply qab|apply qaa|apply qac)));(case aF => exact (fun _ _ => trivial));(case aO => exact (by (with_reducible repeat (first|apply Kd.R_alloc|apply Kd.R_drewN|apply Kd.R_drew));exact HO_6.out));(case aS => exact (qao (by repeat (with_reducible first|exact HB.out|apply qab|apply qaa|apply qac))));(case aL => have := LMc9.out;omega);intro v329 w11 ho hb hg hat;rw [← Ny328.out] at ho;have n0_ := Aside0.mk (Kd.S_after (ok := (fun _ => True)) (by (with_reducible repeat (first|apply Kd.S_alloc|apply Kd.S_drewN|apply Kd.S_drew));exact Kd.S_mono HO_4.out (fun _ hk => ⟨trivial,hk⟩)) hg hat);have n1_ := Aside0.mk (Kd.R_after (ok := (fun k_ => some k_ ≠ (.slice (some ad325) t321.length co10 : Value).ownBlock)) (by (with_reducible repeat (first|apply Kd.R_alloc|apply Kd.R_drewN|apply Kd.R_drew));exact Kd.R_mono HL325_0.out (fun _ hk => ⟨hk.2,hk.1⟩)) hg hat);have n2_ := Aside0.mk (Kd.R_after (ok := (fun k_ => some k_ ≠ (.slice (some ad325) t321.length co10 : Value).ownBlock)) (by (with_reducible repeat (first|apply Kd.R_alloc|apply Kd.R_drewN|apply Kd.R_drew));exact Kd.R_mono HL326_0.out (fun _ hk => ⟨hk.2,hk.1⟩)) hg hat);have n3_ := Aside0.mk (hb);have n4_ := Aside0.mk (ho);clear HO_4;clear HL325_0;clear HL326_0;clear HB;clear HO_6;have HO_4 := n0_;have HL325_0 := n1_;have HL326_0 := n2_;have HB := n3_;have HO330 := n4_;clear n0_ n1_ n2_ n3_ n4_;clear ho hb hg hat))
         go_roundg k1
         case measure => have := HK1.out;omega
         case rel => exact ⟨(y328),(wrap64 (x7_1 + 1)),(by first|rfl|(simp;done)|(simp [*];done)|(simp [qaj];done)),H',⟨by have := HK1.out;omega⟩,⟨by (with_reducible repeat (first|apply Kd.S_alloc|apply Kd.S_drewN|apply Kd.S_drew));exact Kd.S_mono HO_4.out (fun _ hk => hk.2)⟩,⟨by (with_reducible repeat (first|apply Kd.R_alloc|apply Kd.R_drewN|apply Kd.R_drew));exact HO330.out⟩,⟨by repeat (with_reducible first|exact HB.out|apply qab|apply qaa|apply qac)⟩⟩
        ·rw [if_neg c9] at H
         exact absurd H (by simp)
       ·rw [if_neg c8] at H
        exact absurd H (by simp)
      ·rw [if_neg c7] at H
       have c7b0 : (((rd_L4 t321 x7_1).length : Int) == 1) = false := beq_eq_false_iff_ne.mpr c7
       have c7b1 : (((rd_L4 t321 x7_1).length : Int) != 1) = true := bne_iff_ne.mpr c7
       simp only [Option.some.injEq,Prod.mk.injEq] at H
       obtain ⟨rfl,rfl⟩ := H
       obtain ⟨Ao12,co12,eo12⟩ := Kd.S_slice HO_4.out
       subst eo12
       have p325 : 0 ≤ (x7_1 : Int) := of_decide_eq_true (by assumption)
       have q325 : x7_1 < (t321.length : Int) := of_decide_eq_true (by assumption)
       obtain ⟨ad325,A325_0,c325_0,e325,hx325_0,hl325_0,hi325_0⟩ := at_L4 (Kd.S_reads' HO_4.out).2.2 x7_1 p325 q325
       cases e325
       obtain ⟨ce325,hce325,hMe325,hcc325⟩ := Kd.S_get HO_4.out [] x7_1 p325 (by first|exact q325|exact of_decide_eq_true (by assumption)|(have e_ := (Kd.S_reads' HO_4.out).1;omega))
       obtain ⟨ve325_0,rfl,ge325_0⟩ := hMe325
       have hv325_0 := hcc325 0 _ rfl
       rw [Nat.add_zero,show ((Kd.slice 39 k39)).sz = 1 from rfl,Nat.mul_one] at hv325_0
       replace hv325_0 := Option.some.inj (hv325_0.symm.trans hx325_0)
       rw [hv325_0] at ge325_0
       have HL325_0 := Aside0.mk (show Kd.R k39 39 _ _ _ _ (rd_L4 t321 x7_1) from ge325_0)
       clear hv325_0 ge325_0
       clear hcc325 hce325
       have HR325_0 := Aside0.mk hi325_0
       have HC325_0 := Aside0.mk hl325_0
       clear hi325_0 hl325_0
       replace p325 := eq_true p325
       replace q325 := eq_true q325
       go_wp2
       go_ret2
       exact ⟨_,by first|rfl|(simp [qal,qam]<;>rfl)|(simp [*,qal,qam]<;>rfl),by first|exact Kd.R_nil _ _ _ _ _|exact Kd.N_nil _ _ _ _ _|exact Kd.V_nil _ _ _ _ _|exact Kd.Q_nil _ _ _ _ _|exact Kd.S_nil _ _ _ _ _,by repeat (with_reducible first|exact HB.out|apply qab|apply qaa|apply qac)⟩
     ·rw [if_neg c6] at H
      exact absurd H (by simp)
    ·rw [if_neg c5] at H
     have c5b0 : decide (x7_1 < (t321.length : Int)) = false := decide_eq_false c5
     clear c5
     simp only [Option.some.injEq,Prod.mk.injEq] at H
     obtain ⟨rfl,rfl⟩ := H
     obtain ⟨Ao13,co13,eo13⟩ := Kd.S_slice HO_4.out
     subst eo13
     go_wp2
     go_ret2
     exact ⟨_,by first|rfl|(simp [qal,qam]<;>rfl)|(simp [*,qal,qam]<;>rfl),by (with_reducible repeat (first|apply Kd.R_alloc|apply Kd.R_drewN|apply Kd.R_drew));exact HO_6.out,by repeat (with_reducible first|exact HB.out|apply qab|apply qaa|apply qac)⟩
 ·rw [if_neg c3] at H
  have c3b0 : (t322 == 0) = false := beq_eq_false_iff_ne.mpr c3
  have c3b1 : (t322 != 0) = true := bne_iff_ne.mpr c3
  simp only [Option.some.injEq,Prod.mk.injEq] at H
  obtain ⟨rfl,rfl⟩ := H
  go_enter Tryz.func13,Tryz.ntmps13
  go_wp2_with (first|((with_reducible refine qak (f := 11) rfl ?_);refine goesL_ (some 10) rfl rfl Tryz.func11 (by kernel_rfl) rfl #[.string a0] rfl (by first|rfl|(simp only [List.map_toArray,List.map_cons,List.map_nil,List.length_drop,List.length_take];rfl)|simp only [List.map_toArray,List.map_cons,List.map_nil]) ?_;(with_reducible refine (keelsonref4_Parse.calls k a0 t321 t322 _ (by first|exact hG|exact GL.below hG (by repeat (with_reducible first|exact HB.out|apply qab|apply qaa|apply qac)))  A2.out).mono ?_);rintro e w14 ⟨v323,rfl,ho0,hb⟩;refine ⟨_,rfl,?_⟩;have n0_ := Aside0.mk (Kd.S_lower ho0 (qao (by repeat (with_reducible first|exact HB.out|apply qab|apply qaa|apply qac))));have n1_ := Aside0.mk (qan (by repeat (with_reducible first|exact HB.out|apply qab|apply qaa|apply qac)) hb);clear HB;have HO324 := n0_;have HB := n1_;clear n0_ n1_;(try clear hb);(try clear hb2);(try clear hk);(try clear hi);(try clear ho0)))
  go_ret2
  exact ⟨_,by first|rfl|(simp [qal,qam]<;>rfl)|(simp [*,qal,qam]<;>rfl),by first|exact Kd.R_nil _ _ _ _ _|exact Kd.N_nil _ _ _ _ _|exact Kd.V_nil _ _ _ _ _|exact Kd.Q_nil _ _ _ _ _|exact Kd.S_nil _ _ _ _ _,by repeat (with_reducible first|exact HB.out|apply qab|apply qaa|apply qac)⟩
def keelsonlaw4_DependsParses.j0 : Nat → ByteArray → Bool → Bool → Option (Bool)
 | 0,_,_,_ => none
 | k + 1,x0,x3,x19 => if x19 = true then (some x3) else ((depends_Parse.f k x0).bind fun bt332 => ((keelsonref4_Parse.f k x0).bind fun bt336 => ((depends_Atoms.f k x0).bind fun bt340 => ((keelsonref4_Atoms.f k x0).bind fun bt344 => ((keelsonlaw4_same.f k bt332.1 bt336.1).bind fun t348 => (if t348 = true then (if bt332.2 = bt336.2 then ((keelsonlaw4_sameAtoms.f k bt340.1 bt344.1).bind fun t349 => (if t349 = true then (some (bt340.2 == bt344.2)) else (some false))) else (some false)) else (some false)))))))
def keelsonlaw4_DependsParses.f (k : Nat) (a0 : ByteArray) : Option (Bool) := (keelsonlaw4_shown.f k).bind fun t331 => (if t331 = true then (keelsonlaw4_DependsParses.j0 k a0 t331 (decide ((a0.size : Int) > 1000))) else (keelsonlaw4_DependsParses.j0 k a0 t331 true))
theorem keelsonlaw4_DependsParses.mono_l : ∀ k,(∀ y0 y1 y2,LeO (keelsonlaw4_DependsParses.j0 k y0 y1 y2) (keelsonlaw4_DependsParses.j0 (k + 1) y0 y1 y2))
 | 0 => fun _ _ _ r h => by simp [keelsonlaw4_DependsParses.j0] at h
 | k + 1 => by
  have ih0 := keelsonlaw4_DependsParses.mono_l k
  ·intro y0 y1 y2
   unfold keelsonlaw4_DependsParses.j0
   repeat' first
   | (with_reducible exact ih0 _ _ _)
   | (with_reducible exact depends_Atoms.mono _ _)
   | (with_reducible exact depends_Parse.mono _ _)
   | (with_reducible exact keelsonlaw4_same.mono _ _ _)
   | (with_reducible exact keelsonlaw4_sameAtoms.mono _ _ _)
   | (with_reducible exact keelsonlaw4_shown.mono _)
   | (with_reducible exact keelsonref4_Atoms.mono _ _)
   | (with_reducible exact keelsonref4_Parse.mono _ _)
   | (with_reducible exact LeO.refl _)
   | (with_reducible exact LeO.none _)
   | (with_reducible refine LeO.ite ?_ ?_)
   | (with_reducible refine LeO.bind ?_ (fun _ => ?_))
   | exact ih0 _ _ _
   | exact depends_Atoms.mono _ _
   | exact depends_Parse.mono _ _
   | exact keelsonlaw4_same.mono _ _ _
   | exact keelsonlaw4_sameAtoms.mono _ _ _
   | exact keelsonlaw4_shown.mono _
   | exact keelsonref4_Atoms.mono _ _
   | exact keelsonref4_Parse.mono _ _
   | exact LeO.none _
   | refine LeO.ite ?_ ?_
   | refine LeO.bind ?_ (fun _ => ?_)
theorem keelsonlaw4_DependsParses.mono : ∀ a0 k,LeO (keelsonlaw4_DependsParses.f k a0) (keelsonlaw4_DependsParses.f (k + 1) a0) := by
 intro a0 k
 have ih0 := keelsonlaw4_DependsParses.mono_l k
 unfold keelsonlaw4_DependsParses.f
 repeat' first
   | (with_reducible exact ih0 _ _ _)
   | (with_reducible exact depends_Atoms.mono _ _)
   | (with_reducible exact depends_Parse.mono _ _)
   | (with_reducible exact keelsonlaw4_same.mono _ _ _)
   | (with_reducible exact keelsonlaw4_sameAtoms.mono _ _ _)
   | (with_reducible exact keelsonlaw4_shown.mono _)
   | (with_reducible exact keelsonref4_Atoms.mono _ _)
   | (with_reducible exact keelsonref4_Parse.mono _ _)
   | (with_reducible exact LeO.refl _)
   | (with_reducible exact LeO.none _)
   | (with_reducible refine LeO.ite ?_ ?_)
   | (with_reducible refine LeO.bind ?_ (fun _ => ?_))
   | exact ih0 _ _ _
   | exact depends_Atoms.mono _ _
   | exact depends_Parse.mono _ _
   | exact keelsonlaw4_same.mono _ _ _
   | exact keelsonlaw4_sameAtoms.mono _ _ _
   | exact keelsonlaw4_shown.mono _
   | exact keelsonref4_Atoms.mono _ _
   | exact keelsonref4_Parse.mono _ _
   | exact LeO.none _
   | refine LeO.ite ?_ ?_
   | refine LeO.bind ?_ (fun _ => ?_)
theorem keelsonlaw4_DependsParses.calls (k : Nat) (a0 : ByteArray) (r : Bool) (w : World) (hG : GL w) (h : keelsonlaw4_DependsParses.f k a0 = some r) :
  Calls Tryz.prog 3 #[.string a0] w fun e w' => e = .returned (.bool r) ∧ Below w.heap.size w w' := by
 have HB := Aside0.mk (Below.refl w.heap.size w)
 have H : ((keelsonlaw4_shown.f k).bind fun t331 => (if t331 = true then (keelsonlaw4_DependsParses.j0 k a0 t331 (decide ((a0.size : Int) > 1000))) else (keelsonlaw4_DependsParses.j0 k a0 t331 true))) = some r := h
 clear h
 replace H := Option.bind_eq_some_iff.mp H
 obtain ⟨t331,A20,H⟩ := H
 replace H : (if t331 = true then (keelsonlaw4_DependsParses.j0 k a0 t331 (decide ((a0.size : Int) > 1000))) else (keelsonlaw4_DependsParses.j0 k a0 t331 true)) = some r := H
 have A2 := Aside0.mk A20
 clear A20
 have HC3 := Aside0.mk H
 clear H
 go_enter Tryz.func3,Tryz.ntmps3
 go_upto_region 2 with (first|((with_reducible refine qak (f := 9) rfl ?_);refine goesL_ (some 12) rfl rfl Tryz.func9 (by kernel_rfl) rfl #[] rfl (by first|rfl|(simp only [List.map_toArray,List.map_cons,List.map_nil,List.length_drop,List.length_take];rfl)|simp only [List.map_toArray,List.map_cons,List.map_nil]) ?_;(with_reducible refine (keelsonlaw4_shown.calls k  t331 _ (by first|exact hG|exact GL.below hG (by repeat (with_reducible first|exact HB.out|apply qab|apply qaa|apply qac)))  A2.out).mono ?_);rintro e w4 ⟨rfl,hb⟩;refine ⟨_,rfl,?_⟩;have n0_ := Aside0.mk (qan (by repeat (with_reducible first|exact HB.out|apply qab|apply qaa|apply qac)) hb);clear HB;have HB := n0_;clear n0_;(try clear hb);(try clear hb2);(try clear hk);(try clear hi)))
 (try simp only [Act.put,List.setIfInBounds_toArray,List.set_cons_zero,List.set_cons_succ])
 go_cut [19] (fun v19 wc => ∃ (kq : Nat) (x19_2 : Bool),v19 = .bool x19_2 ∧ Aside0 (keelsonlaw4_DependsParses.j0 kq a0 t331 x19_2 = some r) ∧ Aside0 (kq ≤ k) ∧ Aside0 (Below w.heap.size w wc))
 case first =>
  have H := HC3.out
  clear HC3
  by_cases c5 : t331 = true
  ·subst c5
   have H1 : (keelsonlaw4_DependsParses.j0 k a0 true (decide ((a0.size : Int) > 1000))) = some r := by rw [if_pos rfl] at H;exact H
   clear H
   have H := H1
   clear H1
   have H' := Aside0.mk H
   clear H
   go_wp2
   go_meet
   case rel => exact ⟨_,(decide ((a0.size : Int) > 1000)),(by first|rfl|(simp;done)|(simp [*];done)|(simp [qaj];done)),H',⟨by first|omega|exact Nat.le_refl _⟩,⟨by repeat (with_reducible first|exact HB.out|apply qab|apply qaa|apply qac)⟩⟩
  ·replace c5 := Bool.eq_false_iff.mpr c5
   subst c5
   have H1 : (keelsonlaw4_DependsParses.j0 k a0 false true) = some r := by rw [if_neg (show ¬ (false = true) by decide)] at H;exact H
   clear H
   have H := H1
   clear H1
   have H' := Aside0.mk H
   clear H
   go_wp2
   go_meet
   case rel => exact ⟨_,(true),(by first|rfl|(simp;done)|(simp [*];done)|(simp [qaj];done)),H',⟨by first|omega|exact Nat.le_refl _⟩,⟨by repeat (with_reducible first|exact HB.out|apply qab|apply qaa|apply qac)⟩⟩
 case rest =>
  clear HC3
  try clear p2
  try clear c3
  try clear c5
  obtain ⟨kq,x19_2,rfl,HA,HJ2,HB⟩ := hcut
  cases kq with
  | zero => exact absurd HA.out (by simp [keelsonlaw4_DependsParses.j0])
  | succ kj2 =>
   have H := HA.out
   clear HA
   simp only [keelsonlaw4_DependsParses.j0] at H
   by_cases c6 : x19_2 = true
   ·subst c6
    have H1 : (some t331) = some r := by rw [if_pos rfl] at H;exact H
    clear H
    have H := H1
    clear H1
    obtain rfl := Option.some.inj H
    go_wp2
    go_ret
    exact ⟨by first|rfl|(simp [qal,qam]<;>rfl)|(simp [*,qal,qam]<;>rfl),by repeat (with_reducible first|exact HB.out|apply qab|apply qaa|apply qac)⟩
   ·replace c6 := Bool.eq_false_iff.mpr c6
    subst c6
    have H1 : ((depends_Parse.f kj2 a0).bind fun bt332 => ((keelsonref4_Parse.f kj2 a0).bind fun bt336 => ((depends_Atoms.f kj2 a0).bind fun bt340 => ((keelsonref4_Atoms.f kj2 a0).bind fun bt344 => ((keelsonlaw4_same.f kj2 bt332.1 bt336.1).bind fun t348 => (if t348 = true then (if bt332.2 = bt336.2 then ((keelsonlaw4_sameAtoms.f kj2 bt340.1 bt344.1).bind fun t349 => (if t349 = true then (some (bt340.2 == bt344.2)) else (some false))) else (some false)) else (some false))))))) = some r := by rw [if_neg (show ¬ (false = true) by decide)] at H;exact H
    clear H
    have H := H1
    clear H1
    replace H := Option.bind_eq_some_iff.mp H
    obtain ⟨⟨t332,t333⟩,A70,H⟩ := H
    replace H : ((keelsonref4_Parse.f kj2 a0).bind fun bt336 => ((depends_Atoms.f kj2 a0).bind fun bt340 => ((keelsonref4_Atoms.f kj2 a0).bind fun bt344 => ((keelsonlaw4_same.f kj2 t332 bt336.1).bind fun t348 => (if t348 = true then (if t333 = bt336.2 then ((keelsonlaw4_sameAtoms.f kj2 bt340.1 bt344.1).bind fun t349 => (if t349 = true then (some (bt340.2 == bt344.2)) else (some false))) else (some false)) else (some false)))))) = some r := H
    have A7 := Aside0.mk A70
    clear A70
    replace H := Option.bind_eq_some_iff.mp H
    obtain ⟨⟨t336,t337⟩,A80,H⟩ := H
    replace H : ((depends_Atoms.f kj2 a0).bind fun bt340 => ((keelsonref4_Atoms.f kj2 a0).bind fun bt344 => ((keelsonlaw4_same.f kj2 t332 t336).bind fun t348 => (if t348 = true then (if t333 = t337 then ((keelsonlaw4_sameAtoms.f kj2 bt340.1 bt344.1).bind fun t349 => (if t349 = true then (some (bt340.2 == bt344.2)) else (some false))) else (some false)) else (some false))))) = some r := H
    have A8 := Aside0.mk A80
    clear A80
    replace H := Option.bind_eq_some_iff.mp H
    obtain ⟨⟨t340,t341⟩,A90,H⟩ := H
    replace H : ((keelsonref4_Atoms.f kj2 a0).bind fun bt344 => ((keelsonlaw4_same.f kj2 t332 t336).bind fun t348 => (if t348 = true then (if t333 = t337 then ((keelsonlaw4_sameAtoms.f kj2 t340 bt344.1).bind fun t349 => (if t349 = true then (some (t341 == bt344.2)) else (some false))) else (some false)) else (some false)))) = some r := H
    have A9 := Aside0.mk A90
    clear A90
    replace H := Option.bind_eq_some_iff.mp H
    obtain ⟨⟨t344,t345⟩,A100,H⟩ := H
    replace H : ((keelsonlaw4_same.f kj2 t332 t336).bind fun t348 => (if t348 = true then (if t333 = t337 then ((keelsonlaw4_sameAtoms.f kj2 t340 t344).bind fun t349 => (if t349 = true then (some (t341 == t345)) else (some false))) else (some false)) else (some false))) = some r := H
    have A10 := Aside0.mk A100
    clear A100
    replace H := Option.bind_eq_some_iff.mp H
    obtain ⟨t348,A110,H⟩ := H
    replace H : (if t348 = true then (if t333 = t337 then ((keelsonlaw4_sameAtoms.f kj2 t340 t344).bind fun t349 => (if t349 = true then (some (t341 == t345)) else (some false))) else (some false)) else (some false)) = some r := H
    have A11 := Aside0.mk A110
    clear A110
    by_cases c12 : t348 = true
    ·subst c12
     have H1 : (if t333 = t337 then ((keelsonlaw4_sameAtoms.f kj2 t340 t344).bind fun t349 => (if t349 = true then (some (t341 == t345)) else (some false))) else (some false)) = some r := by rw [if_pos rfl] at H;exact H
     clear H
     have H := H1
     clear H1
     by_cases c13 : t333 = t337
     ·rw [if_pos c13] at H
      have c13b0 : (t333 == t337) = true := beq_iff_eq.mpr c13
      have c13b1 : (t333 != t337) = false := bne_eq_false_iff_eq.mpr c13
      clear c13
      replace H := Option.bind_eq_some_iff.mp H
      obtain ⟨t349,A140,H⟩ := H
      replace H : (if t349 = true then (some (t341 == t345)) else (some false)) = some r := H
      have A14 := Aside0.mk A140
      clear A140
      by_cases c15 : t349 = true
      ·subst c15
       have H1 : (some (t341 == t345)) = some r := by rw [if_pos rfl] at H;exact H
       clear H
       have H := H1
       clear H1
       obtain rfl := Option.some.inj H
       go_wp2_with (first|((with_reducible refine qak (f := 10) rfl ?_);refine goesL_ (some 23) rfl rfl Tryz.func10 (by kernel_rfl) rfl #[.string a0] rfl (by first|rfl|(simp only [List.map_toArray,List.map_cons,List.map_nil,List.length_drop,List.length_take];rfl)|simp only [List.map_toArray,List.map_cons,List.map_nil]) ?_;(with_reducible refine (depends_Parse.calls kj2 a0 t332 t333 _ (by first|exact hG|exact GL.below hG (by repeat (with_reducible first|exact HB.out|apply qab|apply qaa|apply qac)))  A7.out).mono ?_);rintro e w16 ⟨v334,rfl,ho0,hb⟩;refine ⟨_,rfl,?_⟩;have n0_ := Aside0.mk (Kd.S_lower ho0 (qao (by repeat (with_reducible first|exact HB.out|apply qab|apply qaa|apply qac))));have n1_ := Aside0.mk (qan (by repeat (with_reducible first|exact HB.out|apply qab|apply qaa|apply qac)) hb);clear HB;have HO335 := n0_;have HB := n1_;clear n0_ n1_;(try clear hb);(try clear hb2);(try clear hk);(try clear hi);(try clear ho0))|((with_reducible refine qak (f := 11) rfl ?_);refine goesL_ (some 28) rfl rfl Tryz.func11 (by kernel_rfl) rfl #[.string a0] rfl (by first|rfl|(simp only [List.map_toArray,List.map_cons,List.map_nil,List.length_drop,List.length_take];rfl)|simp only [List.map_toArray,List.map_cons,List.map_nil]) ?_;(with_reducible refine (keelsonref4_Parse.calls kj2 a0 t336 t337 _ (by first|exact hG|exact GL.below hG (by repeat (with_reducible first|exact HB.out|apply qab|apply qaa|apply qac)))  A8.out).mono ?_);rintro e w17 ⟨v338,rfl,ho0,hb⟩;refine ⟨_,rfl,?_⟩;have n0_ := Aside0.mk (Kd.S_elder' (by (with_reducible repeat (first|apply Kd.S_alloc|apply Kd.S_drewN|apply Kd.S_drew));exact HO335.out) (Kd.S_base ho0) hb);have n1_ := Aside0.mk (Kd.S_lower (Kd.S_new' ho0 (Kd.S_lt (by (with_reducible repeat (first|apply Kd.S_alloc|apply Kd.S_drewN|apply Kd.S_drew));exact HO335.out))) (qao (by repeat (with_reducible first|exact HB.out|apply qab|apply qaa|apply qac))));have n2_ := Aside0.mk (qan (by repeat (with_reducible first|exact HB.out|apply qab|apply qaa|apply qac)) hb);clear HO335;clear HB;have HO335 := n0_;have HO339 := n1_;have HB := n2_;clear n0_ n1_ n2_;(try clear hb);(try clear hb2);(try clear hk);(try clear hi);(try clear ho0))|((with_reducible refine qak (f := 12) rfl ?_);refine goesL_ (some 33) rfl rfl Tryz.func12 (by kernel_rfl) rfl #[.string a0] rfl (by first|rfl|(simp only [List.map_toArray,List.map_cons,List.map_nil,List.length_drop,List.length_take];rfl)|simp only [List.map_toArray,List.map_cons,List.map_nil]) ?_;(with_reducible refine (depends_Atoms.calls kj2 a0 t340 t341 _ (by first|exact hG|exact GL.below hG (by repeat (with_reducible first|exact HB.out|apply qab|apply qaa|apply qac)))  A9.out).mono ?_);rintro e w18 ⟨v342,rfl,ho0,hb⟩;refine ⟨_,rfl,?_⟩;have n0_ := Aside0.mk (Kd.S_elder' (by (with_reducible repeat (first|apply Kd.S_alloc|apply Kd.S_drewN|apply Kd.S_drew));exact HO335.out) (Kd.R_base ho0) hb);have n1_ := Aside0.mk (Kd.S_elder' (by (with_reducible repeat (first|apply Kd.S_alloc|apply Kd.S_drewN|apply Kd.S_drew));exact HO339.out) (Kd.R_base ho0) hb);have n2_ := Aside0.mk (Kd.R_lower ho0 (qao (by repeat (with_reducible first|exact HB.out|apply qab|apply qaa|apply qac))));have n3_ := Aside0.mk (qan (by repeat (with_reducible first|exact HB.out|apply qab|apply qaa|apply qac)) hb);clear HO335;clear HO339;clear HB;have HO335 := n0_;have HO339 := n1_;have HO343 := n2_;have HB := n3_;clear n0_ n1_ n2_ n3_;(try clear hb);(try clear hb2);(try clear hk);(try clear hi);(try clear ho0))|((with_reducible refine qak (f := 13) rfl ?_);refine goesL_ (some 38) rfl rfl Tryz.func13 (by kernel_rfl) rfl #[.string a0] rfl (by first|rfl|(simp only [List.map_toArray,List.map_cons,List.map_nil,List.length_drop,List.length_take];rfl)|simp only [List.map_toArray,List.map_cons,List.map_nil]) ?_;(with_reducible refine (keelsonref4_Atoms.calls kj2 a0 t344 t345 _ (by first|exact hG|exact GL.below hG (by repeat (with_reducible first|exact HB.out|apply qab|apply qaa|apply qac)))  A10.out).mono ?_);rintro e w19 ⟨v346,rfl,ho0,hb⟩;refine ⟨_,rfl,?_⟩;have n0_ := Aside0.mk (Kd.S_elder' (by (with_reducible repeat (first|apply Kd.S_alloc|apply Kd.S_drewN|apply Kd.S_drew));exact HO335.out) (Kd.R_base ho0) hb);have n1_ := Aside0.mk (Kd.S_elder' (by (with_reducible repeat (first|apply Kd.S_alloc|apply Kd.S_drewN|apply Kd.S_drew));exact HO339.out) (Kd.R_base ho0) hb);have n2_ := Aside0.mk (Kd.R_elder' (by (with_reducible repeat (first|apply Kd.R_alloc|apply Kd.R_drewN|apply Kd.R_drew));exact HO343.out) (Kd.R_base ho0) hb);have n3_ := Aside0.mk (Kd.R_lower (Kd.R_new' ho0 (Kd.R_lt (by (with_reducible repeat (first|apply Kd.R_alloc|apply Kd.R_drewN|apply Kd.R_drew));exact HO343.out))) (qao (by repeat (with_reducible first|exact HB.out|apply qab|apply qaa|apply qac))));have n4_ := Aside0.mk (qan (by repeat (with_reducible first|exact HB.out|apply qab|apply qaa|apply qac)) hb);clear HO335;clear HO339;clear HO343;clear HB;have HO335 := n0_;have HO339 := n1_;have HO343 := n2_;have HO347 := n3_;have HB := n4_;clear n0_ n1_ n2_ n3_ n4_;(try clear hb);(try clear hb2);(try clear hk);(try clear hi);(try clear ho0);obtain ⟨Ao20,co20,eo20⟩ := Kd.S_slice HO335.out;subst eo20;obtain ⟨Ao21,co21,eo21⟩ := Kd.S_slice HO339.out;subst eo21)|((with_reducible refine qak (f := 14) rfl ?_);refine goesL_ (some 43) rfl rfl Tryz.func14 (by kernel_rfl) rfl #[.slice Ao20 t332.length co20,.slice Ao21 t336.length co21] rfl (by first|rfl|(simp only [List.map_toArray,List.map_cons,List.map_nil,List.length_drop,List.length_take];rfl)|simp only [List.map_toArray,List.map_cons,List.map_nil]) ?_;(with_reducible refine (keelsonlaw4_same.calls kj2 _ _ t332 _ _ t336 true _ (by first|exact hG|exact GL.below hG (by repeat (with_reducible first|exact HB.out|apply qab|apply qaa|apply qac)))  ?side1 ?side2 ?side3 ?side4 A11.out).mono ?_);(case side1 => repeat (first|exact (Kd.S_reads' HO335.out).2.2|(with_reducible refine Kd.C_alloc ?_ _)|(with_reducible refine Kd.C_drewN ?_ _)|(with_reducible refine Kd.C_drew ?_)));(case side2 => exact (Kd.S_reads' HO335.out).2.1);(case side3 => repeat (first|exact (Kd.S_reads' HO339.out).2.2|(with_reducible refine Kd.C_alloc ?_ _)|(with_reducible refine Kd.C_drewN ?_ _)|(with_reducible refine Kd.C_drew ?_)));(case side4 => exact (Kd.S_reads' HO339.out).2.1);rintro e w' ⟨rfl,⟨nd,rfl⟩⟩;refine ⟨_,rfl,?_⟩;obtain ⟨Ao22,co22,eo22⟩ := Kd.R_slice HO343.out;subst eo22;obtain ⟨Ao23,co23,eo23⟩ := Kd.R_slice HO347.out;subst eo23)|(go_at_call 15;(with_reducible refine (keelsonlaw4_sameAtoms.calls kj2 _ _ t340 _ _ t344 true _ (by first|exact hG|exact GL.below hG (by repeat (with_reducible first|exact HB.out|apply qab|apply qaa|apply qac)))  ?side1 ?side2 ?side3 ?side4 A14.out).mono ?_);(case side1 => repeat (first|exact (Kd.R_reads' HO343.out).2.2|(with_reducible refine Kd.C_alloc ?_ _)|(with_reducible refine Kd.C_drewN ?_ _)|(with_reducible refine Kd.C_drew ?_)));(case side2 => exact (Kd.R_reads' HO343.out).2.1);(case side3 => repeat (first|exact (Kd.R_reads' HO347.out).2.2|(with_reducible refine Kd.C_alloc ?_ _)|(with_reducible refine Kd.C_drewN ?_ _)|(with_reducible refine Kd.C_drew ?_)));(case side4 => exact (Kd.R_reads' HO347.out).2.1);rintro e w' ⟨rfl,⟨nd,rfl⟩⟩))
       go_ret
       exact ⟨by first|rfl|(simp [qal,qam]<;>rfl)|(simp [*,qal,qam]<;>rfl),by repeat (with_reducible first|exact HB.out|apply qab|apply qaa|apply qac)⟩
      ·replace c15 := Bool.eq_false_iff.mpr c15
       subst c15
       have H1 : (some false) = some r := by rw [if_neg (show ¬ (false = true) by decide)] at H;exact H
       clear H
       have H := H1
       clear H1
       obtain rfl := Option.some.inj H
       go_wp2_with (first|((with_reducible refine qak (f := 10) rfl ?_);refine goesL_ (some 23) rfl rfl Tryz.func10 (by kernel_rfl) rfl #[.string a0] rfl (by first|rfl|(simp only [List.map_toArray,List.map_cons,List.map_nil,List.length_drop,List.length_take];rfl)|simp only [List.map_toArray,List.map_cons,List.map_nil]) ?_;(with_reducible refine (depends_Parse.calls kj2 a0 t332 t333 _ (by first|exact hG|exact GL.below hG (by repeat (with_reducible first|exact HB.out|apply qab|apply qaa|apply qac)))  A7.out).mono ?_);rintro e w24 ⟨v334,rfl,ho0,hb⟩;refine ⟨_,rfl,?_⟩;have n0_ := Aside0.mk (Kd.S_lower ho0 (qao (by repeat (with_reducible first|exact HB.out|apply qab|apply qaa|apply qac))));have n1_ := Aside0.mk (qan (by repeat (with_reducible first|exact HB.out|apply qab|apply qaa|apply qac)) hb);clear HB;have HO335 := n0_;have HB := n1_;clear n0_ n1_;(try clear hb);(try clear hb2);(try clear hk);(try clear hi);(try clear ho0))|((with_reducible refine qak (f := 11) rfl ?_);refine goesL_ (some 28) rfl rfl Tryz.func11 (by kernel_rfl) rfl #[.string a0] rfl (by first|rfl|(simp only [List.map_toArray,List.map_cons,List.map_nil,List.length_drop,List.length_take];rfl)|simp only [List.map_toArray,List.map_cons,List.map_nil]) ?_;(with_reducible refine (keelsonref4_Parse.calls kj2 a0 t336 t337 _ (by first|exact hG|exact GL.below hG (by repeat (with_reducible first|exact HB.out|apply qab|apply qaa|apply qac)))  A8.out).mono ?_);rintro e w25 ⟨v338,rfl,ho0,hb⟩;refine ⟨_,rfl,?_⟩;have n0_ := Aside0.mk (Kd.S_elder' (by (with_reducible repeat (first|apply Kd.S_alloc|apply Kd.S_drewN|apply Kd.S_drew));exact HO335.out) (Kd.S_base ho0) hb);have n1_ := Aside0.mk (Kd.S_lower (Kd.S_new' ho0 (Kd.S_lt (by (with_reducible repeat (first|apply Kd.S_alloc|apply Kd.S_drewN|apply Kd.S_drew));exact HO335.out))) (qao (by repeat (with_reducible first|exact HB.out|apply qab|apply qaa|apply qac))));have n2_ := Aside0.mk (qan (by repeat (with_reducible first|exact HB.out|apply qab|apply qaa|apply qac)) hb);clear HO335;clear HB;have HO335 := n0_;have HO339 := n1_;have HB := n2_;clear n0_ n1_ n2_;(try clear hb);(try clear hb2);(try clear hk);(try clear hi);(try clear ho0))|((with_reducible refine qak (f := 12) rfl ?_);refine goesL_ (some 33) rfl rfl Tryz.func12 (by kernel_rfl) rfl #[.string a0] rfl (by first|rfl|(simp only [List.map_toArray,List.map_cons,List.map_nil,List.length_drop,List.length_take];rfl)|simp only [List.map_toArray,List.map_cons,List.map_nil]) ?_;(with_reducible refine (depends_Atoms.calls kj2 a0 t340 t341 _ (by first|exact hG|exact GL.below hG (by repeat (with_reducible first|exact HB.out|apply qab|apply qaa|apply qac)))  A9.out).mono ?_);rintro e w26 ⟨v342,rfl,ho0,hb⟩;refine ⟨_,rfl,?_⟩;have n0_ := Aside0.mk (Kd.S_elder' (by (with_reducible repeat (first|apply Kd.S_alloc|apply Kd.S_drewN|apply Kd.S_drew));exact HO335.out) (Kd.R_base ho0) hb);have n1_ := Aside0.mk (Kd.S_elder' (by (with_reducible repeat (first|apply Kd.S_alloc|apply Kd.S_drewN|apply Kd.S_drew));exact HO339.out) (Kd.R_base ho0) hb);have n2_ := Aside0.mk (Kd.R_lower ho0 (qao (by repeat (with_reducible first|exact HB.out|apply qab|apply qaa|apply qac))));have n3_ := Aside0.mk (qan (by repeat (with_reducible first|exact HB.out|apply qab|apply qaa|apply qac)) hb);clear HO335;clear HO339;clear HB;have HO335 := n0_;have HO339 := n1_;have HO343 := n2_;have HB := n3_;clear n0_ n1_ n2_ n3_;(try clear hb);(try clear hb2);(try clear hk);(try clear hi);(try clear ho0))|((with_reducible refine qak (f := 13) rfl ?_);refine goesL_ (some 38) rfl rfl Tryz.func13 (by kernel_rfl) rfl #[.string a0] rfl (by first|rfl|(simp only [List.map_toArray,List.map_cons,List.map_nil,List.length_drop,List.length_take];rfl)|simp only [List.map_toArray,List.map_cons,List.map_nil]) ?_;(with_reducible refine (keelsonref4_Atoms.calls kj2 a0 t344 t345 _ (by first|exact hG|exact GL.below hG (by repeat (with_reducible first|exact HB.out|apply qab|apply qaa|apply qac)))  A10.out).mono ?_);rintro e w27 ⟨v346,rfl,ho0,hb⟩;refine ⟨_,rfl,?_⟩;have n0_ := Aside0.mk (Kd.S_elder' (by (with_reducible repeat (first|apply Kd.S_alloc|apply Kd.S_drewN|apply Kd.S_drew));exact HO335.out) (Kd.R_base ho0) hb);have n1_ := Aside0.mk (Kd.S_elder' (by (with_reducible repeat (first|apply Kd.S_alloc|apply Kd.S_drewN|apply Kd.S_drew));exact HO339.out) (Kd.R_base ho0) hb);have n2_ := Aside0.mk (Kd.R_elder' (by (with_reducible repeat (first|apply Kd.R_alloc|apply Kd.R_drewN|apply Kd.R_drew));exact HO343.out) (Kd.R_base ho0) hb);have n3_ := Aside0.mk (Kd.R_lower (Kd.R_new' ho0 (Kd.R_lt (by (with_reducible repeat (first|apply Kd.R_alloc|apply Kd.R_drewN|apply Kd.R_drew));exact HO343.out))) (qao (by repeat (with_reducible first|exact HB.out|apply qab|apply qaa|apply qac))));have n4_ := Aside0.mk (qan (by repeat (with_reducible first|exact HB.out|apply qab|apply qaa|apply qac)) hb);clear HO335;clear HO339;clear HO343;clear HB;have HO335 := n0_;have HO339 := n1_;have HO343 := n2_;have HO347 := n3_;have HB := n4_;clear n0_ n1_ n2_ n3_ n4_;(try clear hb);(try clear hb2);(try clear hk);(try clear hi);(try clear ho0);obtain ⟨Ao28,co28,eo28⟩ := Kd.S_slice HO335.out;subst eo28;obtain ⟨Ao29,co29,eo29⟩ := Kd.S_slice HO339.out;subst eo29)|((with_reducible refine qak (f := 14) rfl ?_);refine goesL_ (some 43) rfl rfl Tryz.func14 (by kernel_rfl) rfl #[.slice Ao28 t332.length co28,.slice Ao29 t336.length co29] rfl (by first|rfl|(simp only [List.map_toArray,List.map_cons,List.map_nil,List.length_drop,List.length_take];rfl)|simp only [List.map_toArray,List.map_cons,List.map_nil]) ?_;(with_reducible refine (keelsonlaw4_same.calls kj2 _ _ t332 _ _ t336 true _ (by first|exact hG|exact GL.below hG (by repeat (with_reducible first|exact HB.out|apply qab|apply qaa|apply qac)))  ?side1 ?side2 ?side3 ?side4 A11.out).mono ?_);(case side1 => repeat (first|exact (Kd.S_reads' HO335.out).2.2|(with_reducible refine Kd.C_alloc ?_ _)|(with_reducible refine Kd.C_drewN ?_ _)|(with_reducible refine Kd.C_drew ?_)));(case side2 => exact (Kd.S_reads' HO335.out).2.1);(case side3 => repeat (first|exact (Kd.S_reads' HO339.out).2.2|(with_reducible refine Kd.C_alloc ?_ _)|(with_reducible refine Kd.C_drewN ?_ _)|(with_reducible refine Kd.C_drew ?_)));(case side4 => exact (Kd.S_reads' HO339.out).2.1);rintro e w' ⟨rfl,⟨nd,rfl⟩⟩;refine ⟨_,rfl,?_⟩;obtain ⟨Ao30,co30,eo30⟩ := Kd.R_slice HO343.out;subst eo30;obtain ⟨Ao31,co31,eo31⟩ := Kd.R_slice HO347.out;subst eo31)|(go_at_call 15;(with_reducible refine (keelsonlaw4_sameAtoms.calls kj2 _ _ t340 _ _ t344 false _ (by first|exact hG|exact GL.below hG (by repeat (with_reducible first|exact HB.out|apply qab|apply qaa|apply qac)))  ?side1 ?side2 ?side3 ?side4 A14.out).mono ?_);(case side1 => repeat (first|exact (Kd.R_reads' HO343.out).2.2|(with_reducible refine Kd.C_alloc ?_ _)|(with_reducible refine Kd.C_drewN ?_ _)|(with_reducible refine Kd.C_drew ?_)));(case side2 => exact (Kd.R_reads' HO343.out).2.1);(case side3 => repeat (first|exact (Kd.R_reads' HO347.out).2.2|(with_reducible refine Kd.C_alloc ?_ _)|(with_reducible refine Kd.C_drewN ?_ _)|(with_reducible refine Kd.C_drew ?_)));(case side4 => exact (Kd.R_reads' HO347.out).2.1);rintro e w' ⟨rfl,⟨nd,rfl⟩⟩))
       go_ret
       exact ⟨by first|rfl|(simp [qal,qam]<;>rfl)|(simp [*,qal,qam]<;>rfl),by repeat (with_reducible first|exact HB.out|apply qab|apply qaa|apply qac)⟩
     ·rw [if_neg c13] at H
      have c13b0 : (t333 == t337) = false := beq_eq_false_iff_ne.mpr c13
      have c13b1 : (t333 != t337) = true := bne_iff_ne.mpr c13
      obtain rfl := Option.some.inj H
      go_wp2_with (first|((with_reducible refine qak (f := 10) rfl ?_);refine goesL_ (some 23) rfl rfl Tryz.func10 (by kernel_rfl) rfl #[.string a0] rfl (by first|rfl|(simp only [List.map_toArray,List.map_cons,List.map_nil,List.length_drop,List.length_take];rfl)|simp only [List.map_toArray,List.map_cons,List.map_nil]) ?_;(with_reducible refine (depends_Parse.calls kj2 a0 t332 t333 _ (by first|exact hG|exact GL.below hG (by repeat (with_reducible first|exact HB.out|apply qab|apply qaa|apply qac)))  A7.out).mono ?_);rintro e w32 ⟨v334,rfl,ho0,hb⟩;refine ⟨_,rfl,?_⟩;have n0_ := Aside0.mk (Kd.S_lower ho0 (qao (by repeat (with_reducible first|exact HB.out|apply qab|apply qaa|apply qac))));have n1_ := Aside0.mk (qan (by repeat (with_reducible first|exact HB.out|apply qab|apply qaa|apply qac)) hb);clear HB;have HO335 := n0_;have HB := n1_;clear n0_ n1_;(try clear hb);(try clear hb2);(try clear hk);(try clear hi);(try clear ho0))|((with_reducible refine qak (f := 11) rfl ?_);refine goesL_ (some 28) rfl rfl Tryz.func11 (by kernel_rfl) rfl #[.string a0] rfl (by first|rfl|(simp only [List.map_toArray,List.map_cons,List.map_nil,List.length_drop,List.length_take];rfl)|simp only [List.map_toArray,List.map_cons,List.map_nil]) ?_;(with_reducible refine (keelsonref4_Parse.calls kj2 a0 t336 t337 _ (by first|exact hG|exact GL.below hG (by repeat (with_reducible first|exact HB.out|apply qab|apply qaa|apply qac)))  A8.out).mono ?_);rintro e w33 ⟨v338,rfl,ho0,hb⟩;refine ⟨_,rfl,?_⟩;have n0_ := Aside0.mk (Kd.S_elder' (by (with_reducible repeat (first|apply Kd.S_alloc|apply Kd.S_drewN|apply Kd.S_drew));exact HO335.out) (Kd.S_base ho0) hb);have n1_ := Aside0.mk (Kd.S_lower (Kd.S_new' ho0 (Kd.S_lt (by (with_reducible repeat (first|apply Kd.S_alloc|apply Kd.S_drewN|apply Kd.S_drew));exact HO335.out))) (qao (by repeat (with_reducible first|exact HB.out|apply qab|apply qaa|apply qac))));have n2_ := Aside0.mk (qan (by repeat (with_reducible first|exact HB.out|apply qab|apply qaa|apply qac)) hb);clear HO335;clear HB;have HO335 := n0_;have HO339 := n1_;have HB := n2_;clear n0_ n1_ n2_;(try clear hb);(try clear hb2);(try clear hk);(try clear hi);(try clear ho0))|((with_reducible refine qak (f := 12) rfl ?_);refine goesL_ (some 33) rfl rfl Tryz.func12 (by kernel_rfl) rfl #[.string a0] rfl (by first|rfl|(simp only [List.map_toArray,List.map_cons,List.map_nil,List.length_drop,List.length_take];rfl)|simp only [List.map_toArray,List.map_cons,List.map_nil]) ?_;(with_reducible refine (depends_Atoms.calls kj2 a0 t340 t341 _ (by first|exact hG|exact GL.below hG (by repeat (with_reducible first|exact HB.out|apply qab|apply qaa|apply qac)))  A9.out).mono ?_);rintro e w34 ⟨v342,rfl,ho0,hb⟩;refine ⟨_,rfl,?_⟩;have n0_ := Aside0.mk (Kd.S_elder' (by (with_reducible repeat (first|apply Kd.S_alloc|apply Kd.S_drewN|apply Kd.S_drew));exact HO335.out) (Kd.R_base ho0) hb);have n1_ := Aside0.mk (Kd.S_elder' (by (with_reducible repeat (first|apply Kd.S_alloc|apply Kd.S_drewN|apply Kd.S_drew));exact HO339.out) (Kd.R_base ho0) hb);have n2_ := Aside0.mk (Kd.R_lower ho0 (qao (by repeat (with_reducible first|exact HB.out|apply qab|apply qaa|apply qac))));have n3_ := Aside0.mk (qan (by repeat (with_reducible first|exact HB.out|apply qab|apply qaa|apply qac)) hb);clear HO335;clear HO339;clear HB;have HO335 := n0_;have HO339 := n1_;have HO343 := n2_;have HB := n3_;clear n0_ n1_ n2_ n3_;(try clear hb);(try clear hb2);(try clear hk);(try clear hi);(try clear ho0))|((with_reducible refine qak (f := 13) rfl ?_);refine goesL_ (some 38) rfl rfl Tryz.func13 (by kernel_rfl) rfl #[.string a0] rfl (by first|rfl|(simp only [List.map_toArray,List.map_cons,List.map_nil,List.length_drop,List.length_take];rfl)|simp only [List.map_toArray,List.map_cons,List.map_nil]) ?_;(with_reducible refine (keelsonref4_Atoms.calls kj2 a0 t344 t345 _ (by first|exact hG|exact GL.below hG (by repeat (with_reducible first|exact HB.out|apply qab|apply qaa|apply qac)))  A10.out).mono ?_);rintro e w35 ⟨v346,rfl,ho0,hb⟩;refine ⟨_,rfl,?_⟩;have n0_ := Aside0.mk (Kd.S_elder' (by (with_reducible repeat (first|apply Kd.S_alloc|apply Kd.S_drewN|apply Kd.S_drew));exact HO335.out) (Kd.R_base ho0) hb);have n1_ := Aside0.mk (Kd.S_elder' (by (with_reducible repeat (first|apply Kd.S_alloc|apply Kd.S_drewN|apply Kd.S_drew));exact HO339.out) (Kd.R_base ho0) hb);have n2_ := Aside0.mk (Kd.R_elder' (by (with_reducible repeat (first|apply Kd.R_alloc|apply Kd.R_drewN|apply Kd.R_drew));exact HO343.out) (Kd.R_base ho0) hb);have n3_ := Aside0.mk (Kd.R_lower (Kd.R_new' ho0 (Kd.R_lt (by (with_reducible repeat (first|apply Kd.R_alloc|apply Kd.R_drewN|apply Kd.R_drew));exact HO343.out))) (qao (by repeat (with_reducible first|exact HB.out|apply qab|apply qaa|apply qac))));have n4_ := Aside0.mk (qan (by repeat (with_reducible first|exact HB.out|apply qab|apply qaa|apply qac)) hb);clear HO335;clear HO339;clear HO343;clear HB;have HO335 := n0_;have HO339 := n1_;have HO343 := n2_;have HO347 := n3_;have HB := n4_;clear n0_ n1_ n2_ n3_ n4_;(try clear hb);(try clear hb2);(try clear hk);(try clear hi);(try clear ho0);obtain ⟨Ao36,co36,eo36⟩ := Kd.S_slice HO335.out;subst eo36;obtain ⟨Ao37,co37,eo37⟩ := Kd.S_slice HO339.out;subst eo37)|((with_reducible refine qak (f := 14) rfl ?_);refine goesL_ (some 43) rfl rfl Tryz.func14 (by kernel_rfl) rfl #[.slice Ao36 t332.length co36,.slice Ao37 t336.length co37] rfl (by first|rfl|(simp only [List.map_toArray,List.map_cons,List.map_nil,List.length_drop,List.length_take];rfl)|simp only [List.map_toArray,List.map_cons,List.map_nil]) ?_;(with_reducible refine (keelsonlaw4_same.calls kj2 _ _ t332 _ _ t336 true _ (by first|exact hG|exact GL.below hG (by repeat (with_reducible first|exact HB.out|apply qab|apply qaa|apply qac)))  ?side1 ?side2 ?side3 ?side4 A11.out).mono ?_);(case side1 => repeat (first|exact (Kd.S_reads' HO335.out).2.2|(with_reducible refine Kd.C_alloc ?_ _)|(with_reducible refine Kd.C_drewN ?_ _)|(with_reducible refine Kd.C_drew ?_)));(case side2 => exact (Kd.S_reads' HO335.out).2.1);(case side3 => repeat (first|exact (Kd.S_reads' HO339.out).2.2|(with_reducible refine Kd.C_alloc ?_ _)|(with_reducible refine Kd.C_drewN ?_ _)|(with_reducible refine Kd.C_drew ?_)));(case side4 => exact (Kd.S_reads' HO339.out).2.1);rintro e w' ⟨rfl,⟨nd,rfl⟩⟩;refine ⟨_,rfl,?_⟩))
      go_ret
      exact ⟨by first|rfl|(simp [qal,qam]<;>rfl)|(simp [*,qal,qam]<;>rfl),by repeat (with_reducible first|exact HB.out|apply qab|apply qaa|apply qac)⟩
    ·replace c12 := Bool.eq_false_iff.mpr c12
     subst c12
     have H1 : (some false) = some r := by rw [if_neg (show ¬ (false = true) by decide)] at H;exact H
     clear H
     have H := H1
     clear H1
     obtain rfl := Option.some.inj H
     go_wp2_with (first|((with_reducible refine qak (f := 10) rfl ?_);refine goesL_ (some 23) rfl rfl Tryz.func10 (by kernel_rfl) rfl #[.string a0] rfl (by first|rfl|(simp only [List.map_toArray,List.map_cons,List.map_nil,List.length_drop,List.length_take];rfl)|simp only [List.map_toArray,List.map_cons,List.map_nil]) ?_;(with_reducible refine (depends_Parse.calls kj2 a0 t332 t333 _ (by first|exact hG|exact GL.below hG (by repeat (with_reducible first|exact HB.out|apply qab|apply qaa|apply qac)))  A7.out).mono ?_);rintro e w38 ⟨v334,rfl,ho0,hb⟩;refine ⟨_,rfl,?_⟩;have n0_ := Aside0.mk (Kd.S_lower ho0 (qao (by repeat (with_reducible first|exact HB.out|apply qab|apply qaa|apply qac))));have n1_ := Aside0.mk (qan (by repeat (with_reducible first|exact HB.out|apply qab|apply qaa|apply qac)) hb);clear HB;have HO335 := n0_;have HB := n1_;clear n0_ n1_;(try clear hb);(try clear hb2);(try clear hk);(try clear hi);(try clear ho0))|((with_reducible refine qak (f := 11) rfl ?_);refine goesL_ (some 28) rfl rfl Tryz.func11 (by kernel_rfl) rfl #[.string a0] rfl (by first|rfl|(simp only [List.map_toArray,List.map_cons,List.map_nil,List.length_drop,List.length_take];rfl)|simp only [List.map_toArray,List.map_cons,List.map_nil]) ?_;(with_reducible refine (keelsonref4_Parse.calls kj2 a0 t336 t337 _ (by first|exact hG|exact GL.below hG (by repeat (with_reducible first|exact HB.out|apply qab|apply qaa|apply qac)))  A8.out).mono ?_);rintro e w39 ⟨v338,rfl,ho0,hb⟩;refine ⟨_,rfl,?_⟩;have n0_ := Aside0.mk (Kd.S_elder' (by (with_reducible repeat (first|apply Kd.S_alloc|apply Kd.S_drewN|apply Kd.S_drew));exact HO335.out) (Kd.S_base ho0) hb);have n1_ := Aside0.mk (Kd.S_lower (Kd.S_new' ho0 (Kd.S_lt (by (with_reducible repeat (first|apply Kd.S_alloc|apply Kd.S_drewN|apply Kd.S_drew));exact HO335.out))) (qao (by repeat (with_reducible first|exact HB.out|apply qab|apply qaa|apply qac))));have n2_ := Aside0.mk (qan (by repeat (with_reducible first|exact HB.out|apply qab|apply qaa|apply qac)) hb);clear HO335;clear HB;have HO335 := n0_;have HO339 := n1_;have HB := n2_;clear n0_ n1_ n2_;(try clear hb);(try clear hb2);(try clear hk);(try clear hi);(try clear ho0))|((with_reducible refine qak (f := 12) rfl ?_);refine goesL_ (some 33) rfl rfl Tryz.func12 (by kernel_rfl) rfl #[.string a0] rfl (by first|rfl|(simp only [List.map_toArray,List.map_cons,List.map_nil,List.length_drop,List.length_take];rfl)|simp only [List.map_toArray,List.map_cons,List.map_nil]) ?_;(with_reducible refine (depends_Atoms.calls kj2 a0 t340 t341 _ (by first|exact hG|exact GL.below hG (by repeat (with_reducible first|exact HB.out|apply qab|apply qaa|apply qac)))  A9.out).mono ?_);rintro e w40 ⟨v342,rfl,ho0,hb⟩;refine ⟨_,rfl,?_⟩;have n0_ := Aside0.mk (Kd.S_elder' (by (with_reducible repeat (first|apply Kd.S_alloc|apply Kd.S_drewN|apply Kd.S_drew));exact HO335.out) (Kd.R_base ho0) hb);have n1_ := Aside0.mk (Kd.S_elder' (by (with_reducible repeat (first|apply Kd.S_alloc|apply Kd.S_drewN|apply Kd.S_drew));exact HO339.out) (Kd.R_base ho0) hb);have n2_ := Aside0.mk (Kd.R_lower ho0 (qao (by repeat (with_reducible first|exact HB.out|apply qab|apply qaa|apply qac))));have n3_ := Aside0.mk (qan (by repeat (with_reducible first|exact HB.out|apply qab|apply qaa|apply qac)) hb);clear HO335;clear HO339;clear HB;have HO335 := n0_;have HO339 := n1_;have HO343 := n2_;have HB := n3_;clear n0_ n1_ n2_ n3_;(try clear hb);(try clear hb2);(try clear hk);(try clear hi);(try clear ho0))|((with_reducible refine qak (f := 13) rfl ?_);refine goesL_ (some 38) rfl rfl Tryz.func13 (by kernel_rfl) rfl #[.string a0] rfl (by first|rfl|(simp only [List.map_toArray,List.map_cons,List.map_nil,List.length_drop,List.length_take];rfl)|simp only [List.map_toArray,List.map_cons,List.map_nil]) ?_;(with_reducible refine (keelsonref4_Atoms.calls kj2 a0 t344 t345 _ (by first|exact hG|exact GL.below hG (by repeat (with_reducible first|exact HB.out|apply qab|apply qaa|apply qac)))  A10.out).mono ?_);rintro e w41 ⟨v346,rfl,ho0,hb⟩;refine ⟨_,rfl,?_⟩;have n0_ := Aside0.mk (Kd.S_elder' (by (with_reducible repeat (first|apply Kd.S_alloc|apply Kd.S_drewN|apply Kd.S_drew));exact HO335.out) (Kd.R_base ho0) hb);have n1_ := Aside0.mk (Kd.S_elder' (by (with_reducible repeat (first|apply Kd.S_alloc|apply Kd.S_drewN|apply Kd.S_drew));exact HO339.out) (Kd.R_base ho0) hb);have n2_ := Aside0.mk (Kd.R_elder' (by (with_reducible repeat (first|apply Kd.R_alloc|apply Kd.R_drewN|apply Kd.R_drew));exact HO343.out) (Kd.R_base ho0) hb);have n3_ := Aside0.mk (Kd.R_lower (Kd.R_new' ho0 (Kd.R_lt (by (with_reducible repeat (first|apply Kd.R_alloc|apply Kd.R_drewN|apply Kd.R_drew));exact HO343.out))) (qao (by repeat (with_reducible first|exact HB.out|apply qab|apply qaa|apply qac))));have n4_ := Aside0.mk (qan (by repeat (with_reducible first|exact HB.out|apply qab|apply qaa|apply qac)) hb);clear HO335;clear HO339;clear HO343;clear HB;have HO335 := n0_;have HO339 := n1_;have HO343 := n2_;have HO347 := n3_;have HB := n4_;clear n0_ n1_ n2_ n3_ n4_;(try clear hb);(try clear hb2);(try clear hk);(try clear hi);(try clear ho0);obtain ⟨Ao42,co42,eo42⟩ := Kd.S_slice HO335.out;subst eo42;obtain ⟨Ao43,co43,eo43⟩ := Kd.S_slice HO339.out;subst eo43)|((with_reducible refine qak (f := 14) rfl ?_);refine goesL_ (some 43) rfl rfl Tryz.func14 (by kernel_rfl) rfl #[.slice Ao42 t332.length co42,.slice Ao43 t336.length co43] rfl (by first|rfl|(simp only [List.map_toArray,List.map_cons,List.map_nil,List.length_drop,List.length_take];rfl)|simp only [List.map_toArray,List.map_cons,List.map_nil]) ?_;(with_reducible refine (keelsonlaw4_same.calls kj2 _ _ t332 _ _ t336 false _ (by first|exact hG|exact GL.below hG (by repeat (with_reducible first|exact HB.out|apply qab|apply qaa|apply qac)))  ?side1 ?side2 ?side3 ?side4 A11.out).mono ?_);(case side1 => repeat (first|exact (Kd.S_reads' HO335.out).2.2|(with_reducible refine Kd.C_alloc ?_ _)|(with_reducible refine Kd.C_drewN ?_ _)|(with_reducible refine Kd.C_drew ?_)));(case side2 => exact (Kd.S_reads' HO335.out).2.1);(case side3 => repeat (first|exact (Kd.S_reads' HO339.out).2.2|(with_reducible refine Kd.C_alloc ?_ _)|(with_reducible refine Kd.C_drewN ?_ _)|(with_reducible refine Kd.C_drew ?_)));(case side4 => exact (Kd.S_reads' HO339.out).2.1);rintro e w' ⟨rfl,⟨nd,rfl⟩⟩;refine ⟨_,rfl,?_⟩))
     go_ret
     exact ⟨by first|rfl|(simp [qal,qam]<;>rfl)|(simp [*,qal,qam]<;>rfl),by repeat (with_reducible first|exact HB.out|apply qab|apply qaa|apply qac)⟩
def keelsonlaw4_DependsParses.Pure : Prop := ∀ (a0 : ByteArray),a0.size ≤ 140737488351232 → ∃ k,keelsonlaw4_DependsParses.f k a0 = some true
theorem keelsonlaw4_DependsParses.walk (P : keelsonlaw4_DependsParses.Pure) (a0 : ByteArray) (w : World) (hG : GL w) (w0 : a0.size ≤ 140737488351232) :
  Calls Tryz.prog 3 #[.string a0] w fun e w' => e = .returned (.bool true) ∧ Below w.heap.size w w' := by
 obtain ⟨k,h⟩ := P a0 w0
 refine (keelsonlaw4_DependsParses.calls k a0 true w hG h).mono ?_
 rintro e w' ⟨rfl,hd⟩
 exact ⟨rfl,hd⟩
end Go.Proofs.YtjbbgekkombpnaaGreatDoor.PA
