
import Derived.Test.YtjbbgekkombpnaaGreatDoorPAx0
import Derived.Test.YtjbbgekkombpnaaGreatDoorPAx16
import Derived.Test.YtjbbgekkombpnaaGreatDoorPAx19
namespace Go.Proofs.YtjbbgekkombpnaaGreatDoor.PA
open Go.RowKit Go.Proofs.YtjbbgekkombpnaaGreatDoorW.PrintWords Go.Proofs.YtjbbgekkombpnaaGreatDoorW.PrintLast Go.Proofs.YtjbbgekkombpnaaGreatDoorW.PrintMore
attribute [local go_sem] max2_int min2_int max_two min_two max_three min_three max_four min_four
set_option maxHeartbeats 8000000
set_option maxRecDepth 100000
set_option linter.unusedVariables false
set_option linter.unusedSimpArgs false
mutual
def keelsonref4_Right.l0 : Nat → List (List (S39)) → Int → Option (Bool)
 | 0,_,_ => none
 | k + 1,x0,x3 => if x3 < (x0.length : Int) then (keelsonref4_Right.l1 k x0 x3 0) else (some (decide ((x0.length : Int) ≤ 12)))
def keelsonref4_Right.l1 : Nat → List (List (S39)) → Int → Int → Option (Bool)
 | 0,_,_,_ => none
 | k + 1,x0,x3,x4 => if 0 ≤ x3 then (if x3 < (x0.length : Int) then (if x4 < ((rd_L4 x0 x3).length : Int) then (if 0 ≤ x4 then ((keelsonref3_Right.f k ((rd_T39 (rd_L4 x0 x3) x4).f0) ((rd_T39 (rd_L4 x0 x3) x4).f1) ((rd_T39 (rd_L4 x0 x3) x4).f2)).bind fun t380 => (if t380 = true then (keelsonref4_Right.l1 k x0 x3 (wrap64 (x4 + 1))) else (some false))) else (none)) else (if ((rd_L4 x0 x3).length : Int) < 1 then (some false) else (if ((rd_L4 x0 x3).length : Int) > 6 then (some false) else (keelsonref4_Right.l0 k x0 (wrap64 (x3 + 1)))))) else (none)) else (none)
end
def keelsonref4_Right.f (k : Nat) (l0 : List (List (S39))) : Option (Bool) := keelsonref4_Right.l0 k l0 0
theorem keelsonref4_Right.mono_l : ∀ k,(∀ y0 y1,LeO (keelsonref4_Right.l0 k y0 y1) (keelsonref4_Right.l0 (k + 1) y0 y1)) ∧ (∀ y0 y1 y2,LeO (keelsonref4_Right.l1 k y0 y1 y2) (keelsonref4_Right.l1 (k + 1) y0 y1 y2))
 | 0 => ⟨fun _ _ r h => by simp [keelsonref4_Right.l0] at h,fun _ _ _ r h => by simp [keelsonref4_Right.l1] at h⟩
 | k + 1 => by
  obtain ⟨ih0,ih1⟩ := keelsonref4_Right.mono_l k
  refine ⟨?_,?_⟩
  ·intro y0 y1
   unfold keelsonref4_Right.l0
   repeat' first
   | (with_reducible exact ih0 _ _)
   | (with_reducible exact ih1 _ _ _)
   | (with_reducible exact keelsonref3_Right.mono _ _ _ _)
   | (with_reducible exact LeO.refl _)
   | (with_reducible exact LeO.none _)
   | (with_reducible refine LeO.ite ?_ ?_)
   | (with_reducible refine LeO.bind ?_ (fun _ => ?_))
   | exact ih0 _ _
   | exact ih1 _ _ _
   | exact keelsonref3_Right.mono _ _ _ _
   | exact LeO.none _
   | refine LeO.ite ?_ ?_
   | refine LeO.bind ?_ (fun _ => ?_)
  ·intro y0 y1 y2
   unfold keelsonref4_Right.l1
   repeat' first
   | (with_reducible exact ih0 _ _)
   | (with_reducible exact ih1 _ _ _)
   | (with_reducible exact keelsonref3_Right.mono _ _ _ _)
   | (with_reducible exact LeO.refl _)
   | (with_reducible exact LeO.none _)
   | (with_reducible refine LeO.ite ?_ ?_)
   | (with_reducible refine LeO.bind ?_ (fun _ => ?_))
   | exact ih0 _ _
   | exact ih1 _ _ _
   | exact keelsonref3_Right.mono _ _ _ _
   | exact LeO.none _
   | refine LeO.ite ?_ ?_
   | refine LeO.bind ?_ (fun _ => ?_)
theorem keelsonref4_Right.mono : ∀ a0 k,LeO (keelsonref4_Right.f k a0) (keelsonref4_Right.f (k + 1) a0) := by
 intro a0 k
 obtain ⟨ih0,ih1⟩ := keelsonref4_Right.mono_l k
 unfold keelsonref4_Right.f
 repeat' first
   | (with_reducible exact ih0 _ _)
   | (with_reducible exact ih1 _ _ _)
   | (with_reducible exact keelsonref3_Right.mono _ _ _ _)
   | (with_reducible exact LeO.refl _)
   | (with_reducible exact LeO.none _)
   | (with_reducible refine LeO.ite ?_ ?_)
   | (with_reducible refine LeO.bind ?_ (fun _ => ?_))
   | exact ih0 _ _
   | exact ih1 _ _ _
   | exact keelsonref3_Right.mono _ _ _ _
   | exact LeO.none _
   | refine LeO.ite ?_ ?_
   | refine LeO.bind ?_ (fun _ => ?_)
theorem keelsonref4_Right.calls (k : Nat) (A0 : Option Addr) (c0 : Nat) (l0 : List (List (S39))) (r : Bool) (w : World) (hG : GL w) (hr0 : Kd.C (Kd.slice 39 k39) w A0 l0.length l0) (hc0 : l0.length ≤ c0) (h : keelsonref4_Right.f k l0 = some r) :
  Calls Tryz.prog 24 #[.slice A0 l0.length c0] w fun e w' => e = .returned (.bool r) ∧ Below w.heap.size w w' := by
 have hu39 := Tryz.underlying39
 have HR0 := Aside0.mk hr0
 have HC0 := Aside0.mk hc0
 clear hr0 hc0
 have HB := Aside0.mk (Below.refl w.heap.size w)
 have H : (keelsonref4_Right.l0 k l0 0) = some r := h
 clear h
 have H' := Aside0.mk H
 clear H
 go_enter Tryz.func24,Tryz.ntmps24
 go_wp2
 go_loopg [3] k (fun kq v3 w' => ∃ (x3_1 : Int),v3 = .int .i64 x3_1 ∧ Aside0 (keelsonref4_Right.l0 kq l0 x3_1 = some r) ∧ Aside0 (kq ≤ k) ∧ Aside0 (Below w.heap.size w w'))
 case atStart => exact ⟨(0),(by first|rfl|(simp;done)|(simp [*];done)|(simp [qaj];done)),H',⟨Nat.le_refl _⟩,⟨by repeat (with_reducible first|exact HB.out|apply qab|apply qaa|apply qac)⟩⟩
 case round =>
  clear H'
  obtain ⟨x3_1,rfl,HA,HK1,HB⟩ := hrel
  cases gk with
  | zero => exact absurd HA.out (by simp [keelsonref4_Right.l0])
  | succ k1 =>
   have H := HA.out
   clear HA
   simp only [keelsonref4_Right.l0] at H
   by_cases c2 : x3_1 < (l0.length : Int)
   ·rw [if_pos c2] at H
    have c2b0 : decide (x3_1 < (l0.length : Int)) = true := decide_eq_true c2
    clear c2
    have H' := Aside0.mk H
    clear H
    go_wp2
    go_loopg [4] k1 (fun kq v4 w' => ∃ (x4_2 : Int),v4 = .int .i64 x4_2 ∧ Aside0 (keelsonref4_Right.l1 kq l0 x3_1 x4_2 = some r) ∧ Aside0 (kq ≤ k1) ∧ Aside0 (Below w.heap.size w w'))
    case atStart => exact ⟨(0),(by first|rfl|(simp;done)|(simp [*];done)|(simp [qaj];done)),H',⟨Nat.le_refl _⟩,⟨by repeat (with_reducible first|exact HB.out|apply qab|apply qaa|apply qac)⟩⟩
    case round =>
     clear H'
     try clear c2
     try clear c2b0
     try clear p2
     obtain ⟨x4_2,rfl,HA,HK2,HB⟩ := hrel
     cases gk with
     | zero => exact absurd HA.out (by simp [keelsonref4_Right.l1])
     | succ k2 =>
      have H := HA.out
      clear HA
      simp only [keelsonref4_Right.l1] at H
      by_cases c3 : 0 ≤ x3_1
      ·rw [if_pos c3] at H
       have c3b0 : decide (0 ≤ x3_1) = true := decide_eq_true c3
       clear c3
       by_cases c4 : x3_1 < (l0.length : Int)
       ·rw [if_pos c4] at H
        have c4b0 : decide (x3_1 < (l0.length : Int)) = true := decide_eq_true c4
        clear c4
        by_cases c5 : x4_2 < ((rd_L4 l0 x3_1).length : Int)
        ·rw [if_pos c5] at H
         have c5b0 : decide (x4_2 < ((rd_L4 l0 x3_1).length : Int)) = true := decide_eq_true c5
         clear c5
         by_cases c6 : 0 ≤ x4_2
         ·rw [if_pos c6] at H
          have c6b0 : decide (0 ≤ x4_2) = true := decide_eq_true c6
          clear c6
          replace H := Option.bind_eq_some_iff.mp H
          obtain ⟨t380,A70,H⟩ := H
          replace H : (if t380 = true then (keelsonref4_Right.l1 k2 l0 x3_1 (wrap64 (x4_2 + 1))) else (some false)) = some r := H
          have A7 := Aside0.mk A70
          clear A70
          by_cases c8 : t380 = true
          ·subst c8
           have H1 : (keelsonref4_Right.l1 k2 l0 x3_1 (wrap64 (x4_2 + 1))) = some r := by rw [if_pos rfl] at H;exact H
           clear H
           have H := H1
           clear H1
           have H' := Aside0.mk H
           clear H
           have p377 : 0 ≤ (x3_1 : Int) := of_decide_eq_true (by assumption)
           have q377 : x3_1 < (l0.length : Int) := of_decide_eq_true (by assumption)
           obtain ⟨ad377,A377_0,c377_0,e377,hx377_0,hl377_0,hi377_0⟩ := at_L4 HR0.out x3_1 p377 q377
           cases e377
           replace hx377_0 := (HB.out.cell (World.block_lt_of_cell? w _ hx377_0)).trans hx377_0
           have HR377_0 := Aside0.mk hi377_0
           have HC377_0 := Aside0.mk hl377_0
           clear hi377_0 hl377_0
           replace p377 := eq_true p377
           replace q377 := eq_true q377
           have p378 : 0 ≤ (x3_1 : Int) := of_decide_eq_true (by assumption)
           have q378 : x3_1 < (l0.length : Int) := of_decide_eq_true (by assumption)
           obtain ⟨ad378,A378_0,c378_0,e378,hx378_0,hl378_0,hi378_0⟩ := at_L4 HR0.out x3_1 p378 q378
           obtain rfl : ad377 = ad378 := (by injection e378)
           replace hx378_0 := (HB.out.cell (World.block_lt_of_cell? w _ hx378_0)).trans hx378_0
           have HR378_0 := Aside0.mk hi378_0
           have HC378_0 := Aside0.mk hl378_0
           clear hi378_0 hl378_0
           replace p378 := eq_true p378
           replace q378 := eq_true q378
           have ea_ := Option.some.inj (hx377_0.symm.trans hx378_0)
           injection ea_ with ea_ en_ ec_
           subst ea_
           subst ec_
           clear en_
           have p379 : 0 ≤ (x4_2 : Int) := of_decide_eq_true (by assumption)
           have q379 : x4_2 < ((rd_L4 l0 x3_1).length : Int) := of_decide_eq_true (by assumption)
           obtain ⟨ad379,e379,hx379_0,hx379_1,hx379_2⟩ := at_T39 HR378_0.out x4_2 p379 q379
           cases e379
           replace hx379_0 := (HB.out.cell (World.block_lt_of_cell? w _ hx379_0)).trans hx379_0
           replace hx379_1 := (HB.out.cell (World.block_lt_of_cell? w _ hx379_1)).trans hx379_1
           replace hx379_2 := (HB.out.cell (World.block_lt_of_cell? w _ hx379_2)).trans hx379_2
           replace p379 := eq_true p379
           replace q379 := eq_true q379
           go_wp2_with (first|((with_reducible refine qam (f := 20) rfl ?_);refine goesL_ (some 28) rfl rfl Tryz.func20 (by kernel_rfl) rfl #[.agg #[.string ((rd_T39 (rd_L4 l0 x3_1) x4_2).f0),.int .i64 ((rd_T39 (rd_L4 l0 x3_1) x4_2).f1),.string ((rd_T39 (rd_L4 l0 x3_1) x4_2).f2)]] rfl (by first|rfl|(simp only [List.map_toArray,List.map_cons,List.map_nil,List.length_drop,List.length_take];rfl)|simp only [List.map_toArray,List.map_cons,List.map_nil]) ?_;(with_reducible refine (keelsonref3_Right.calls k2 ((rd_T39 (rd_L4 l0 x3_1) x4_2).f0) ((rd_T39 (rd_L4 l0 x3_1) x4_2).f1) ((rd_T39 (rd_L4 l0 x3_1) x4_2).f2) true _ (by first|exact hG|exact GL.below hG (by repeat (with_reducible first|exact HB.out|apply qab|apply qaa|apply qac)))  A7.out).mono ?_);rintro e w9 ⟨rfl,hb⟩;refine ⟨_,rfl,?_⟩;have n0_ := Aside0.mk (qan (by repeat (with_reducible first|exact HB.out|apply qab|apply qaa|apply qac)) hb);clear HB;have HB := n0_;clear n0_;(try clear hb);(try clear hb2);(try clear hk);(try clear hi)))
           go_roundg k2
           case measure => have := HK1.out;have := HK2.out;omega
           case rel => exact ⟨(wrap64 (x4_2 + 1)),(by first|rfl|(simp;done)|(simp [*];done)|(simp [qaj];done)),H',⟨by have := HK1.out;have := HK2.out;omega⟩,⟨by repeat (with_reducible first|exact HB.out|apply qab|apply qaa|apply qac)⟩⟩
          ·replace c8 := Bool.eq_false_iff.mpr c8
           subst c8
           have H1 : (some false) = some r := by rw [if_neg (show ¬ (false = true) by decide)] at H;exact H
           clear H
           have H := H1
           clear H1
           obtain rfl := Option.some.inj H
           have p377 : 0 ≤ (x3_1 : Int) := of_decide_eq_true (by assumption)
           have q377 : x3_1 < (l0.length : Int) := of_decide_eq_true (by assumption)
           obtain ⟨ad377,A377_0,c377_0,e377,hx377_0,hl377_0,hi377_0⟩ := at_L4 HR0.out x3_1 p377 q377
           cases e377
           replace hx377_0 := (HB.out.cell (World.block_lt_of_cell? w _ hx377_0)).trans hx377_0
           have HR377_0 := Aside0.mk hi377_0
           have HC377_0 := Aside0.mk hl377_0
           clear hi377_0 hl377_0
           replace p377 := eq_true p377
           replace q377 := eq_true q377
           have p378 : 0 ≤ (x3_1 : Int) := of_decide_eq_true (by assumption)
           have q378 : x3_1 < (l0.length : Int) := of_decide_eq_true (by assumption)
           obtain ⟨ad378,A378_0,c378_0,e378,hx378_0,hl378_0,hi378_0⟩ := at_L4 HR0.out x3_1 p378 q378
           obtain rfl : ad377 = ad378 := (by injection e378)
           replace hx378_0 := (HB.out.cell (World.block_lt_of_cell? w _ hx378_0)).trans hx378_0
           have HR378_0 := Aside0.mk hi378_0
           have HC378_0 := Aside0.mk hl378_0
           clear hi378_0 hl378_0
           replace p378 := eq_true p378
           replace q378 := eq_true q378
           have ea_ := Option.some.inj (hx377_0.symm.trans hx378_0)
           injection ea_ with ea_ en_ ec_
           subst ea_
           subst ec_
           clear en_
           have p379 : 0 ≤ (x4_2 : Int) := of_decide_eq_true (by assumption)
           have q379 : x4_2 < ((rd_L4 l0 x3_1).length : Int) := of_decide_eq_true (by assumption)
           obtain ⟨ad379,e379,hx379_0,hx379_1,hx379_2⟩ := at_T39 HR378_0.out x4_2 p379 q379
           cases e379
           replace hx379_0 := (HB.out.cell (World.block_lt_of_cell? w _ hx379_0)).trans hx379_0
           replace hx379_1 := (HB.out.cell (World.block_lt_of_cell? w _ hx379_1)).trans hx379_1
           replace hx379_2 := (HB.out.cell (World.block_lt_of_cell? w _ hx379_2)).trans hx379_2
           replace p379 := eq_true p379
           replace q379 := eq_true q379
           go_wp2_with (first|((with_reducible refine qam (f := 20) rfl ?_);refine goesL_ (some 28) rfl rfl Tryz.func20 (by kernel_rfl) rfl #[.agg #[.string ((rd_T39 (rd_L4 l0 x3_1) x4_2).f0),.int .i64 ((rd_T39 (rd_L4 l0 x3_1) x4_2).f1),.string ((rd_T39 (rd_L4 l0 x3_1) x4_2).f2)]] rfl (by first|rfl|(simp only [List.map_toArray,List.map_cons,List.map_nil,List.length_drop,List.length_take];rfl)|simp only [List.map_toArray,List.map_cons,List.map_nil]) ?_;(with_reducible refine (keelsonref3_Right.calls k2 ((rd_T39 (rd_L4 l0 x3_1) x4_2).f0) ((rd_T39 (rd_L4 l0 x3_1) x4_2).f1) ((rd_T39 (rd_L4 l0 x3_1) x4_2).f2) false _ (by first|exact hG|exact GL.below hG (by repeat (with_reducible first|exact HB.out|apply qab|apply qaa|apply qac)))  A7.out).mono ?_);rintro e w10 ⟨rfl,hb⟩;refine ⟨_,rfl,?_⟩;have n0_ := Aside0.mk (qan (by repeat (with_reducible first|exact HB.out|apply qab|apply qaa|apply qac)) hb);clear HB;have HB := n0_;clear n0_;(try clear hb);(try clear hb2);(try clear hk);(try clear hi)))
           go_ret
           exact ⟨by first|rfl|(simp [qak,qal]<;>rfl)|(simp [*,qak,qal]<;>rfl),by repeat (with_reducible first|exact HB.out|apply qab|apply qaa|apply qac)⟩
         ·rw [if_neg c6] at H
          exact absurd H (by simp)
        ·rw [if_neg c5] at H
         have c5b0 : decide (x4_2 < ((rd_L4 l0 x3_1).length : Int)) = false := decide_eq_false c5
         clear c5
         by_cases c11 : ((rd_L4 l0 x3_1).length : Int) < 1
         ·rw [if_pos c11] at H
          have c11b0 : decide (((rd_L4 l0 x3_1).length : Int) < 1) = true := decide_eq_true c11
          have c11b1 : decide ((rd_L4 l0 x3_1).length < 1) = true := decide_eq_true (by omega)
          clear c11
          obtain rfl := Option.some.inj H
          have p377 : 0 ≤ (x3_1 : Int) := of_decide_eq_true (by assumption)
          have q377 : x3_1 < (l0.length : Int) := of_decide_eq_true (by assumption)
          obtain ⟨ad377,A377_0,c377_0,e377,hx377_0,hl377_0,hi377_0⟩ := at_L4 HR0.out x3_1 p377 q377
          cases e377
          replace hx377_0 := (HB.out.cell (World.block_lt_of_cell? w _ hx377_0)).trans hx377_0
          have HR377_0 := Aside0.mk hi377_0
          have HC377_0 := Aside0.mk hl377_0
          clear hi377_0 hl377_0
          replace p377 := eq_true p377
          replace q377 := eq_true q377
          have p381 : 0 ≤ (x3_1 : Int) := of_decide_eq_true (by assumption)
          have q381 : x3_1 < (l0.length : Int) := of_decide_eq_true (by assumption)
          obtain ⟨ad381,A381_0,c381_0,e381,hx381_0,hl381_0,hi381_0⟩ := at_L4 HR0.out x3_1 p381 q381
          obtain rfl : ad377 = ad381 := (by injection e381)
          replace hx381_0 := (HB.out.cell (World.block_lt_of_cell? w _ hx381_0)).trans hx381_0
          have HR381_0 := Aside0.mk hi381_0
          have HC381_0 := Aside0.mk hl381_0
          clear hi381_0 hl381_0
          replace p381 := eq_true p381
          replace q381 := eq_true q381
          have ea_ := Option.some.inj (hx377_0.symm.trans hx381_0)
          injection ea_ with ea_ en_ ec_
          subst ea_
          subst ec_
          clear en_
          go_wp2
          go_ret
          exact ⟨by first|rfl|(simp [qak,qal]<;>rfl)|(simp [*,qak,qal]<;>rfl),by repeat (with_reducible first|exact HB.out|apply qab|apply qaa|apply qac)⟩
         ·rw [if_neg c11] at H
          have c11b0 : decide (((rd_L4 l0 x3_1).length : Int) < 1) = false := decide_eq_false c11
          have c11b1 : decide ((rd_L4 l0 x3_1).length < 1) = false := decide_eq_false (by omega)
          clear c11
          by_cases c12 : ((rd_L4 l0 x3_1).length : Int) > 6
          ·rw [if_pos c12] at H
           have c12b0 : decide (6 < ((rd_L4 l0 x3_1).length : Int)) = true := decide_eq_true c12
           have c12b1 : decide (6 < (rd_L4 l0 x3_1).length) = true := decide_eq_true (by omega)
           clear c12
           obtain rfl := Option.some.inj H
           have p377 : 0 ≤ (x3_1 : Int) := of_decide_eq_true (by assumption)
           have q377 : x3_1 < (l0.length : Int) := of_decide_eq_true (by assumption)
           obtain ⟨ad377,A377_0,c377_0,e377,hx377_0,hl377_0,hi377_0⟩ := at_L4 HR0.out x3_1 p377 q377
           cases e377
           replace hx377_0 := (HB.out.cell (World.block_lt_of_cell? w _ hx377_0)).trans hx377_0
           have HR377_0 := Aside0.mk hi377_0
           have HC377_0 := Aside0.mk hl377_0
           clear hi377_0 hl377_0
           replace p377 := eq_true p377
           replace q377 := eq_true q377
           have p381 : 0 ≤ (x3_1 : Int) := of_decide_eq_true (by assumption)
           have q381 : x3_1 < (l0.length : Int) := of_decide_eq_true (by assumption)
           obtain ⟨ad381,A381_0,c381_0,e381,hx381_0,hl381_0,hi381_0⟩ := at_L4 HR0.out x3_1 p381 q381
           obtain rfl : ad377 = ad381 := (by injection e381)
           replace hx381_0 := (HB.out.cell (World.block_lt_of_cell? w _ hx381_0)).trans hx381_0
           have HR381_0 := Aside0.mk hi381_0
           have HC381_0 := Aside0.mk hl381_0
           clear hi381_0 hl381_0
           replace p381 := eq_true p381
           replace q381 := eq_true q381
           have ea_ := Option.some.inj (hx377_0.symm.trans hx381_0)
           injection ea_ with ea_ en_ ec_
           subst ea_
           subst ec_
           clear en_
           have p382 : 0 ≤ (x3_1 : Int) := of_decide_eq_true (by assumption)
           have q382 : x3_1 < (l0.length : Int) := of_decide_eq_true (by assumption)
           obtain ⟨ad382,A382_0,c382_0,e382,hx382_0,hl382_0,hi382_0⟩ := at_L4 HR0.out x3_1 p382 q382
           obtain rfl : ad377 = ad382 := (by injection e382)
           replace hx382_0 := (HB.out.cell (World.block_lt_of_cell? w _ hx382_0)).trans hx382_0
           have HR382_0 := Aside0.mk hi382_0
           have HC382_0 := Aside0.mk hl382_0
           clear hi382_0 hl382_0
           replace p382 := eq_true p382
           replace q382 := eq_true q382
           have ea_ := Option.some.inj (hx377_0.symm.trans hx382_0)
           injection ea_ with ea_ en_ ec_
           subst ea_
           subst ec_
           clear en_
           go_wp2
           go_ret
           exact ⟨by first|rfl|(simp [qak,qal]<;>rfl)|(simp [*,qak,qal]<;>rfl),by repeat (with_reducible first|exact HB.out|apply qab|apply qaa|apply qac)⟩
          ·rw [if_neg c12] at H
           have c12b0 : decide (6 < ((rd_L4 l0 x3_1).length : Int)) = false := decide_eq_false c12
           have c12b1 : decide (6 < (rd_L4 l0 x3_1).length) = false := decide_eq_false (by omega)
           clear c12
           have H' := Aside0.mk H
           clear H
           have p377 : 0 ≤ (x3_1 : Int) := of_decide_eq_true (by assumption)
           have q377 : x3_1 < (l0.length : Int) := of_decide_eq_true (by assumption)
           obtain ⟨ad377,A377_0,c377_0,e377,hx377_0,hl377_0,hi377_0⟩ := at_L4 HR0.out x3_1 p377 q377
           cases e377
           replace hx377_0 := (HB.out.cell (World.block_lt_of_cell? w _ hx377_0)).trans hx377_0
           have HR377_0 := Aside0.mk hi377_0
           have HC377_0 := Aside0.mk hl377_0
           clear hi377_0 hl377_0
           replace p377 := eq_true p377
           replace q377 := eq_true q377
           have p381 : 0 ≤ (x3_1 : Int) := of_decide_eq_true (by assumption)
           have q381 : x3_1 < (l0.length : Int) := of_decide_eq_true (by assumption)
           obtain ⟨ad381,A381_0,c381_0,e381,hx381_0,hl381_0,hi381_0⟩ := at_L4 HR0.out x3_1 p381 q381
           obtain rfl : ad377 = ad381 := (by injection e381)
           replace hx381_0 := (HB.out.cell (World.block_lt_of_cell? w _ hx381_0)).trans hx381_0
           have HR381_0 := Aside0.mk hi381_0
           have HC381_0 := Aside0.mk hl381_0
           clear hi381_0 hl381_0
           replace p381 := eq_true p381
           replace q381 := eq_true q381
           have ea_ := Option.some.inj (hx377_0.symm.trans hx381_0)
           injection ea_ with ea_ en_ ec_
           subst ea_
           subst ec_
           clear en_
           have p382 : 0 ≤ (x3_1 : Int) := of_decide_eq_true (by assumption)
           have q382 : x3_1 < (l0.length : Int) := of_decide_eq_true (by assumption)
           obtain ⟨ad382,A382_0,c382_0,e382,hx382_0,hl382_0,hi382_0⟩ := at_L4 HR0.out x3_1 p382 q382
           obtain rfl : ad377 = ad382 := (by injection e382)
           replace hx382_0 := (HB.out.cell (World.block_lt_of_cell? w _ hx382_0)).trans hx382_0
           have HR382_0 := Aside0.mk hi382_0
           have HC382_0 := Aside0.mk hl382_0
           clear hi382_0 hl382_0
           replace p382 := eq_true p382
           replace q382 := eq_true q382
           have ea_ := Option.some.inj (hx377_0.symm.trans hx382_0)
           injection ea_ with ea_ en_ ec_
           subst ea_
           subst ec_
           clear en_
           go_wp2
           go_roundg k2
           case measure => have := HK1.out;have := HK2.out;omega
           case rel => exact ⟨(wrap64 (x3_1 + 1)),(by first|rfl|(simp;done)|(simp [*];done)|(simp [qaj];done)),H',⟨by have := HK1.out;have := HK2.out;omega⟩,⟨by repeat (with_reducible first|exact HB.out|apply qab|apply qaa|apply qac)⟩⟩
       ·rw [if_neg c4] at H
        exact absurd H (by simp)
      ·rw [if_neg c3] at H
       exact absurd H (by simp)
   ·rw [if_neg c2] at H
    have c2b0 : decide (x3_1 < (l0.length : Int)) = false := decide_eq_false c2
    clear c2
    obtain rfl := Option.some.inj H
    go_wp2
    go_ret
    exact ⟨by first|rfl|(simp [qak,qal]<;>rfl)|(simp [*,qak,qal]<;>rfl),by repeat (with_reducible first|exact HB.out|apply qab|apply qaa|apply qac)⟩
def keelsonref3_Print.f (k : Nat) (a0_0 : ByteArray) (a0_1 : Int) (a0_2 : ByteArray) : Option (ByteArray) := (keelsonref3_Right.f k a0_0 a0_1 a0_2).bind fun t384 => (if t384 = true then (if a0_1 = 0 then (some a0_0) else (if a0_0.size + 2 ≤ 9223372036854775807 then ((keelsonref3_Sign.f a0_1).bind fun t385 => (if (a0_0 ++ (⟨#[32,40]⟩ : ByteArray)).size + t385.size ≤ 9223372036854775807 then (if ((a0_0 ++ (⟨#[32,40]⟩ : ByteArray)) ++ t385).size + 1 ≤ 9223372036854775807 then (if (((a0_0 ++ (⟨#[32,40]⟩ : ByteArray)) ++ t385) ++ (⟨#[32]⟩ : ByteArray)).size + a0_2.size ≤ 9223372036854775807 then (if ((((a0_0 ++ (⟨#[32,40]⟩ : ByteArray)) ++ t385) ++ (⟨#[32]⟩ : ByteArray)) ++ a0_2).size + 1 ≤ 9223372036854775807 then (some (((((a0_0 ++ (⟨#[32,40]⟩ : ByteArray)) ++ t385) ++ (⟨#[32]⟩ : ByteArray)) ++ a0_2) ++ (⟨#[41]⟩ : ByteArray))) else (none)) else (none)) else (none)) else (none))) else (none))) else (some (⟨#[]⟩ : ByteArray)))
theorem keelsonref3_Print.mono : ∀ a0 a1 a2 k,LeO (keelsonref3_Print.f k a0 a1 a2) (keelsonref3_Print.f (k + 1) a0 a1 a2) := by
 intro a0 a1 a2 k
 unfold keelsonref3_Print.f
 repeat' first
   | (with_reducible exact keelsonref3_Right.mono _ _ _ _)
   | (with_reducible exact LeO.refl _)
   | (with_reducible exact LeO.none _)
   | (with_reducible refine LeO.ite ?_ ?_)
   | (with_reducible refine LeO.bind ?_ (fun _ => ?_))
   | exact keelsonref3_Right.mono _ _ _ _
   | exact LeO.none _
   | refine LeO.ite ?_ ?_
   | refine LeO.bind ?_ (fun _ => ?_)
theorem keelsonref3_Print.calls (k : Nat) (a0_0 : ByteArray) (a0_1 : Int) (a0_2 : ByteArray) (r : ByteArray) (w : World) (hG : GL w) (h : keelsonref3_Print.f k a0_0 a0_1 a0_2 = some r) :
  Calls Tryz.prog 21 #[.agg #[.string a0_0,.int .i64 a0_1,.string a0_2]] w fun e w' => e = .returned (.string r) ∧ Below w.heap.size w w' := by
 have hu39 := Tryz.underlying39
 have HB := Aside0.mk (Below.refl w.heap.size w)
 have H : ((keelsonref3_Right.f k a0_0 a0_1 a0_2).bind fun t384 => (if t384 = true then (if a0_1 = 0 then (some a0_0) else (if a0_0.size + 2 ≤ 9223372036854775807 then ((keelsonref3_Sign.f a0_1).bind fun t385 => (if (a0_0 ++ (⟨#[32,40]⟩ : ByteArray)).size + t385.size ≤ 9223372036854775807 then (if ((a0_0 ++ (⟨#[32,40]⟩ : ByteArray)) ++ t385).size + 1 ≤ 9223372036854775807 then (if (((a0_0 ++ (⟨#[32,40]⟩ : ByteArray)) ++ t385) ++ (⟨#[32]⟩ : ByteArray)).size + a0_2.size ≤ 9223372036854775807 then (if ((((a0_0 ++ (⟨#[32,40]⟩ : ByteArray)) ++ t385) ++ (⟨#[32]⟩ : ByteArray)) ++ a0_2).size + 1 ≤ 9223372036854775807 then (some (((((a0_0 ++ (⟨#[32,40]⟩ : ByteArray)) ++ t385) ++ (⟨#[32]⟩ : ByteArray)) ++ a0_2) ++ (⟨#[41]⟩ : ByteArray))) else (none)) else (none)) else (none)) else (none))) else (none))) else (some (⟨#[]⟩ : ByteArray)))) = some r := h
 clear h
 replace H := Option.bind_eq_some_iff.mp H
 obtain ⟨t384,A20,H⟩ := H
 replace H : (if t384 = true then (if a0_1 = 0 then (some a0_0) else (if a0_0.size + 2 ≤ 9223372036854775807 then ((keelsonref3_Sign.f a0_1).bind fun t385 => (if (a0_0 ++ (⟨#[32,40]⟩ : ByteArray)).size + t385.size ≤ 9223372036854775807 then (if ((a0_0 ++ (⟨#[32,40]⟩ : ByteArray)) ++ t385).size + 1 ≤ 9223372036854775807 then (if (((a0_0 ++ (⟨#[32,40]⟩ : ByteArray)) ++ t385) ++ (⟨#[32]⟩ : ByteArray)).size + a0_2.size ≤ 9223372036854775807 then (if ((((a0_0 ++ (⟨#[32,40]⟩ : ByteArray)) ++ t385) ++ (⟨#[32]⟩ : ByteArray)) ++ a0_2).size + 1 ≤ 9223372036854775807 then (some (((((a0_0 ++ (⟨#[32,40]⟩ : ByteArray)) ++ t385) ++ (⟨#[32]⟩ : ByteArray)) ++ a0_2) ++ (⟨#[41]⟩ : ByteArray))) else (none)) else (none)) else (none)) else (none))) else (none))) else (some (⟨#[]⟩ : ByteArray))) = some r := H
 have A2 := Aside0.mk A20
 clear A20
 by_cases c3 : t384 = true
 ·subst c3
  have H1 : (if a0_1 = 0 then (some a0_0) else (if a0_0.size + 2 ≤ 9223372036854775807 then ((keelsonref3_Sign.f a0_1).bind fun t385 => (if (a0_0 ++ (⟨#[32,40]⟩ : ByteArray)).size + t385.size ≤ 9223372036854775807 then (if ((a0_0 ++ (⟨#[32,40]⟩ : ByteArray)) ++ t385).size + 1 ≤ 9223372036854775807 then (if (((a0_0 ++ (⟨#[32,40]⟩ : ByteArray)) ++ t385) ++ (⟨#[32]⟩ : ByteArray)).size + a0_2.size ≤ 9223372036854775807 then (if ((((a0_0 ++ (⟨#[32,40]⟩ : ByteArray)) ++ t385) ++ (⟨#[32]⟩ : ByteArray)) ++ a0_2).size + 1 ≤ 9223372036854775807 then (some (((((a0_0 ++ (⟨#[32,40]⟩ : ByteArray)) ++ t385) ++ (⟨#[32]⟩ : ByteArray)) ++ a0_2) ++ (⟨#[41]⟩ : ByteArray))) else (none)) else (none)) else (none)) else (none))) else (none))) = some r := by rw [if_pos rfl] at H;exact H
  clear H
  have H := H1
  clear H1
  by_cases c4 : a0_1 = 0
  ·rw [if_pos c4] at H
   have c4b0 : (a0_1 == 0) = true := beq_iff_eq.mpr c4
   have c4b1 : (a0_1 != 0) = false := bne_eq_false_iff_eq.mpr c4
   clear c4
   obtain rfl := Option.some.inj H
   go_enter Tryz.func21,Tryz.ntmps21
   go_wp2_with (first|((with_reducible refine qaq (N := 1) rfl ?_);refine box_event ?hg (N := 1) ?hd (cs := #[.string a0_0,.int .i64 a0_1,.string a0_2]) (t := 39) ?hr ?_;(case hd => rfl);(case hg => rfl);(case hr => first|(go_simp;done)|(go_simp;rfl));intro gb383 hg w5 hbox hb;have n0_ := Aside0.mk (qan (by repeat (with_reducible first|exact HB.out|apply qab|apply qaa|apply qac)) hb);have n1_ := Aside0.mk (hbox);have n2_ := Aside0.mk ((by rw [hg];exact (qao (by repeat (with_reducible first|exact HB.out|apply qab|apply qaa|apply qac))) : w.heap.size ≤ gb383));have n3_ := Aside0.mk ((by rw [hg];exact (qao (by repeat (with_reducible first|exact HB.out|apply qab|apply qaa|apply qac))) : w.heap.size ≤ gb383));clear HB;have HB := n0_;have BK383 := n1_;have GW383 := n2_;have GE383 := n3_;clear n0_ n1_ n2_ n3_;clear hb hbox hg;have hcz6_0 : w5.cell? ⟨gb383,0,none⟩ = some (.string a0_0) := (qaf BK383.out 0).trans rfl;have hcz6_1 : w5.cell? ⟨gb383,1,none⟩ = some (.int .i64 a0_1) := (qaf BK383.out 1).trans rfl;have hcz6_2 : w5.cell? ⟨gb383,2,none⟩ = some (.string a0_2) := (qaf BK383.out 2).trans rfl;have hfz6_0 := qad BK383.out 0;have hfz6_1 := qad BK383.out 1;have hfz6_2 := qad BK383.out 2)|(go_at_call 20;(with_reducible refine (keelsonref3_Right.calls k a0_0 a0_1 a0_2 true _ (by first|exact hG|exact GL.below hG (by repeat (first|(with_reducible first|exact HB.out|apply qab|apply qaa|apply qac|refine qae ?_ GE383.out)|exact HB.out)))  A2.out).mono ?_);rintro e w7 ⟨rfl,hb⟩;have n0_ := Aside0.mk (qap (g := gb383) (o := .cells #[.string a0_0,.int .i64 a0_1,.string a0_2] 39 (0,0)) (by (with_reducible repeat (first|refine qah ?_ _|refine qai ?_|refine qag ?_ _));exact BK383.out) hb);have n1_ := Aside0.mk (qan (by repeat (first|(with_reducible first|exact HB.out|apply qab|apply qaa|apply qac|refine qae ?_ GE383.out)|exact HB.out)) hb);clear BK383;clear HB;have BK383 := n0_;have HB := n1_;clear n0_ n1_;(try clear hb);(try clear hb2);(try clear hk);(try clear hi);have hcz8_0 : w7.cell? ⟨gb383,0,none⟩ = some (.string a0_0) := (qaf BK383.out 0).trans rfl;have hcz8_1 : w7.cell? ⟨gb383,1,none⟩ = some (.int .i64 a0_1) := (qaf BK383.out 1).trans rfl;have hcz8_2 : w7.cell? ⟨gb383,2,none⟩ = some (.string a0_2) := (qaf BK383.out 2).trans rfl;have hfz8_0 := qad BK383.out 0;have hfz8_1 := qad BK383.out 1;have hfz8_2 := qad BK383.out 2))
   repeat (go_quiet (first|((with_reducible refine qaq (N := 1) rfl ?_);refine box_event ?hg (N := 1) ?hd (cs := #[.string a0_0,.int .i64 a0_1,.string a0_2]) (t := 39) ?hr ?_;(case hd => rfl);(case hg => rfl);(case hr => first|(go_simp;done)|(go_simp;rfl));intro gb383 hg w5 hbox hb;have n0_ := Aside0.mk (qan (by repeat (with_reducible first|exact HB.out|apply qab|apply qaa|apply qac)) hb);have n1_ := Aside0.mk (hbox);have n2_ := Aside0.mk ((by rw [hg];exact (qao (by repeat (with_reducible first|exact HB.out|apply qab|apply qaa|apply qac))) : w.heap.size ≤ gb383));have n3_ := Aside0.mk ((by rw [hg];exact (qao (by repeat (with_reducible first|exact HB.out|apply qab|apply qaa|apply qac))) : w.heap.size ≤ gb383));clear HB;have HB := n0_;have BK383 := n1_;have GW383 := n2_;have GE383 := n3_;clear n0_ n1_ n2_ n3_;clear hb hbox hg;have hcz6_0 : w5.cell? ⟨gb383,0,none⟩ = some (.string a0_0) := (qaf BK383.out 0).trans rfl;have hcz6_1 : w5.cell? ⟨gb383,1,none⟩ = some (.int .i64 a0_1) := (qaf BK383.out 1).trans rfl;have hcz6_2 : w5.cell? ⟨gb383,2,none⟩ = some (.string a0_2) := (qaf BK383.out 2).trans rfl;have hfz6_0 := qad BK383.out 0;have hfz6_1 := qad BK383.out 1;have hfz6_2 := qad BK383.out 2)|(go_at_call 20;(with_reducible refine (keelsonref3_Right.calls k a0_0 a0_1 a0_2 true _ (by first|exact hG|exact GL.below hG (by repeat (first|(with_reducible first|exact HB.out|apply qab|apply qaa|apply qac|refine qae ?_ GE383.out)|exact HB.out)))  A2.out).mono ?_);rintro e w7 ⟨rfl,hb⟩;have n0_ := Aside0.mk (qap (g := gb383) (o := .cells #[.string a0_0,.int .i64 a0_1,.string a0_2] 39 (0,0)) (by (with_reducible repeat (first|refine qah ?_ _|refine qai ?_|refine qag ?_ _));exact BK383.out) hb);have n1_ := Aside0.mk (qan (by repeat (first|(with_reducible first|exact HB.out|apply qab|apply qaa|apply qac|refine qae ?_ GE383.out)|exact HB.out)) hb);clear BK383;clear HB;have BK383 := n0_;have HB := n1_;clear n0_ n1_;(try clear hb);(try clear hb2);(try clear hk);(try clear hi);have hcz8_0 : w7.cell? ⟨gb383,0,none⟩ = some (.string a0_0) := (qaf BK383.out 0).trans rfl;have hcz8_1 : w7.cell? ⟨gb383,1,none⟩ = some (.int .i64 a0_1) := (qaf BK383.out 1).trans rfl;have hcz8_2 : w7.cell? ⟨gb383,2,none⟩ = some (.string a0_2) := (qaf BK383.out 2).trans rfl;have hfz8_0 := qad BK383.out 0;have hfz8_1 := qad BK383.out 1;have hfz8_2 := qad BK383.out 2));try go_wp2_with (first|((with_reducible refine qaq (N := 1) rfl ?_);refine box_event ?hg (N := 1) ?hd (cs := #[.string a0_0,.int .i64 a0_1,.string a0_2]) (t := 39) ?hr ?_;(case hd => rfl);(case hg => rfl);(case hr => first|(go_simp;done)|(go_simp;rfl));intro gb383 hg w5 hbox hb;have n0_ := Aside0.mk (qan (by repeat (with_reducible first|exact HB.out|apply qab|apply qaa|apply qac)) hb);have n1_ := Aside0.mk (hbox);have n2_ := Aside0.mk ((by rw [hg];exact (qao (by repeat (with_reducible first|exact HB.out|apply qab|apply qaa|apply qac))) : w.heap.size ≤ gb383));have n3_ := Aside0.mk ((by rw [hg];exact (qao (by repeat (with_reducible first|exact HB.out|apply qab|apply qaa|apply qac))) : w.heap.size ≤ gb383));clear HB;have HB := n0_;have BK383 := n1_;have GW383 := n2_;have GE383 := n3_;clear n0_ n1_ n2_ n3_;clear hb hbox hg;have hcz6_0 : w5.cell? ⟨gb383,0,none⟩ = some (.string a0_0) := (qaf BK383.out 0).trans rfl;have hcz6_1 : w5.cell? ⟨gb383,1,none⟩ = some (.int .i64 a0_1) := (qaf BK383.out 1).trans rfl;have hcz6_2 : w5.cell? ⟨gb383,2,none⟩ = some (.string a0_2) := (qaf BK383.out 2).trans rfl;have hfz6_0 := qad BK383.out 0;have hfz6_1 := qad BK383.out 1;have hfz6_2 := qad BK383.out 2)|(go_at_call 20;(with_reducible refine (keelsonref3_Right.calls k a0_0 a0_1 a0_2 true _ (by first|exact hG|exact GL.below hG (by repeat (first|(with_reducible first|exact HB.out|apply qab|apply qaa|apply qac|refine qae ?_ GE383.out)|exact HB.out)))  A2.out).mono ?_);rintro e w7 ⟨rfl,hb⟩;have n0_ := Aside0.mk (qap (g := gb383) (o := .cells #[.string a0_0,.int .i64 a0_1,.string a0_2] 39 (0,0)) (by (with_reducible repeat (first|refine qah ?_ _|refine qai ?_|refine qag ?_ _));exact BK383.out) hb);have n1_ := Aside0.mk (qan (by repeat (first|(with_reducible first|exact HB.out|apply qab|apply qaa|apply qac|refine qae ?_ GE383.out)|exact HB.out)) hb);clear BK383;clear HB;have BK383 := n0_;have HB := n1_;clear n0_ n1_;(try clear hb);(try clear hb2);(try clear hk);(try clear hi);have hcz8_0 : w7.cell? ⟨gb383,0,none⟩ = some (.string a0_0) := (qaf BK383.out 0).trans rfl;have hcz8_1 : w7.cell? ⟨gb383,1,none⟩ = some (.int .i64 a0_1) := (qaf BK383.out 1).trans rfl;have hcz8_2 : w7.cell? ⟨gb383,2,none⟩ = some (.string a0_2) := (qaf BK383.out 2).trans rfl;have hfz8_0 := qad BK383.out 0;have hfz8_1 := qad BK383.out 1;have hfz8_2 := qad BK383.out 2)))
   go_ret
   exact ⟨by first|rfl|(simp [qak,qal]<;>rfl)|(simp [*,qak,qal]<;>rfl),by repeat (first|(with_reducible first|exact HB.out|apply qab|apply qaa|apply qac|refine qae ?_ GE383.out)|exact HB.out)⟩
  ·rw [if_neg c4] at H
   have c4b0 : (a0_1 == 0) = false := beq_eq_false_iff_ne.mpr c4
   have c4b1 : (a0_1 != 0) = true := bne_iff_ne.mpr c4
   by_cases c9 : a0_0.size + 2 ≤ 9223372036854775807
   ·rw [if_pos c9] at H
    have c9b0 := eq_true c9
    have c9b1 : decide (a0_0.size + 2 ≤ 9223372036854775807) = true := decide_eq_true c9
    try have c9b2 : (9223372036854775807 < a0_0.size + 2) = False := eq_false (Nat.not_lt.2 c9)
    replace H := Option.bind_eq_some_iff.mp H
    obtain ⟨t385,A100,H⟩ := H
    replace H : (if (a0_0 ++ (⟨#[32,40]⟩ : ByteArray)).size + t385.size ≤ 9223372036854775807 then (if ((a0_0 ++ (⟨#[32,40]⟩ : ByteArray)) ++ t385).size + 1 ≤ 9223372036854775807 then (if (((a0_0 ++ (⟨#[32,40]⟩ : ByteArray)) ++ t385) ++ (⟨#[32]⟩ : ByteArray)).size + a0_2.size ≤ 9223372036854775807 then (if ((((a0_0 ++ (⟨#[32,40]⟩ : ByteArray)) ++ t385) ++ (⟨#[32]⟩ : ByteArray)) ++ a0_2).size + 1 ≤ 9223372036854775807 then (some (((((a0_0 ++ (⟨#[32,40]⟩ : ByteArray)) ++ t385) ++ (⟨#[32]⟩ : ByteArray)) ++ a0_2) ++ (⟨#[41]⟩ : ByteArray))) else (none)) else (none)) else (none)) else (none)) = some r := H
    have A10 := Aside0.mk A100
    clear A100
    by_cases c11 : (a0_0 ++ (⟨#[32,40]⟩ : ByteArray)).size + t385.size ≤ 9223372036854775807
    ·rw [if_pos c11] at H
     have c11b0 := eq_true c11
     have c11b1 : decide ((a0_0 ++ (⟨#[32,40]⟩ : ByteArray)).size + t385.size ≤ 9223372036854775807) = true := decide_eq_true c11
     try have c11b2 : (9223372036854775807 < (a0_0 ++ (⟨#[32,40]⟩ : ByteArray)).size + t385.size) = False := eq_false (Nat.not_lt.2 c11)
     (try (have c11n := c11;simp only [ByteArray.size_append,size_of_lit,List.size_toArray,List.length_cons,List.length_nil,Nat.zero_add,Nat.reduceAdd] at c11n;have c11n1 := eq_false (Nat.not_lt.2 c11n)))
     by_cases c12 : ((a0_0 ++ (⟨#[32,40]⟩ : ByteArray)) ++ t385).size + 1 ≤ 9223372036854775807
     ·rw [if_pos c12] at H
      have c12b0 := eq_true c12
      have c12b1 : decide (((a0_0 ++ (⟨#[32,40]⟩ : ByteArray)) ++ t385).size + 1 ≤ 9223372036854775807) = true := decide_eq_true c12
      try have c12b2 : (9223372036854775807 < ((a0_0 ++ (⟨#[32,40]⟩ : ByteArray)) ++ t385).size + 1) = False := eq_false (Nat.not_lt.2 c12)
      (try (have c12n := c12;simp only [ByteArray.size_append,size_of_lit,List.size_toArray,List.length_cons,List.length_nil,Nat.zero_add,Nat.reduceAdd] at c12n;have c12n1 := eq_false (Nat.not_lt.2 c12n)))
      by_cases c13 : (((a0_0 ++ (⟨#[32,40]⟩ : ByteArray)) ++ t385) ++ (⟨#[32]⟩ : ByteArray)).size + a0_2.size ≤ 9223372036854775807
      ·rw [if_pos c13] at H
       have c13b0 := eq_true c13
       have c13b1 : decide ((((a0_0 ++ (⟨#[32,40]⟩ : ByteArray)) ++ t385) ++ (⟨#[32]⟩ : ByteArray)).size + a0_2.size ≤ 9223372036854775807) = true := decide_eq_true c13
       try have c13b2 : (9223372036854775807 < (((a0_0 ++ (⟨#[32,40]⟩ : ByteArray)) ++ t385) ++ (⟨#[32]⟩ : ByteArray)).size + a0_2.size) = False := eq_false (Nat.not_lt.2 c13)
       (try (have c13n := c13;simp only [ByteArray.size_append,size_of_lit,List.size_toArray,List.length_cons,List.length_nil,Nat.zero_add,Nat.reduceAdd] at c13n;have c13n1 := eq_false (Nat.not_lt.2 c13n)))
       by_cases c14 : ((((a0_0 ++ (⟨#[32,40]⟩ : ByteArray)) ++ t385) ++ (⟨#[32]⟩ : ByteArray)) ++ a0_2).size + 1 ≤ 9223372036854775807
       ·rw [if_pos c14] at H
        have c14b0 := eq_true c14
        have c14b1 : decide (((((a0_0 ++ (⟨#[32,40]⟩ : ByteArray)) ++ t385) ++ (⟨#[32]⟩ : ByteArray)) ++ a0_2).size + 1 ≤ 9223372036854775807) = true := decide_eq_true c14
        try have c14b2 : (9223372036854775807 < ((((a0_0 ++ (⟨#[32,40]⟩ : ByteArray)) ++ t385) ++ (⟨#[32]⟩ : ByteArray)) ++ a0_2).size + 1) = False := eq_false (Nat.not_lt.2 c14)
        (try (have c14n := c14;simp only [ByteArray.size_append,size_of_lit,List.size_toArray,List.length_cons,List.length_nil,Nat.zero_add,Nat.reduceAdd] at c14n;have c14n1 := eq_false (Nat.not_lt.2 c14n)))
        obtain rfl := Option.some.inj H
        go_enter Tryz.func21,Tryz.ntmps21
        go_wp2_with (first|((with_reducible refine qaq (N := 1) rfl ?_);refine box_event ?hg (N := 1) ?hd (cs := #[.string a0_0,.int .i64 a0_1,.string a0_2]) (t := 39) ?hr ?_;(case hd => rfl);(case hg => rfl);(case hr => first|(go_simp;done)|(go_simp;rfl));intro gb383 hg w15 hbox hb;have n0_ := Aside0.mk (qan (by repeat (with_reducible first|exact HB.out|apply qab|apply qaa|apply qac)) hb);have n1_ := Aside0.mk (hbox);have n2_ := Aside0.mk ((by rw [hg];exact (qao (by repeat (with_reducible first|exact HB.out|apply qab|apply qaa|apply qac))) : w.heap.size ≤ gb383));have n3_ := Aside0.mk ((by rw [hg];exact (qao (by repeat (with_reducible first|exact HB.out|apply qab|apply qaa|apply qac))) : w.heap.size ≤ gb383));clear HB;have HB := n0_;have BK383 := n1_;have GW383 := n2_;have GE383 := n3_;clear n0_ n1_ n2_ n3_;clear hb hbox hg;have hcz16_0 : w15.cell? ⟨gb383,0,none⟩ = some (.string a0_0) := (qaf BK383.out 0).trans rfl;have hcz16_1 : w15.cell? ⟨gb383,1,none⟩ = some (.int .i64 a0_1) := (qaf BK383.out 1).trans rfl;have hcz16_2 : w15.cell? ⟨gb383,2,none⟩ = some (.string a0_2) := (qaf BK383.out 2).trans rfl;have hfz16_0 := qad BK383.out 0;have hfz16_1 := qad BK383.out 1;have hfz16_2 := qad BK383.out 2)|(go_at_call 20;(with_reducible refine (keelsonref3_Right.calls k a0_0 a0_1 a0_2 true _ (by first|exact hG|exact GL.below hG (by repeat (first|(with_reducible first|exact HB.out|apply qab|apply qaa|apply qac|refine qae ?_ GE383.out)|exact HB.out)))  A2.out).mono ?_);rintro e w17 ⟨rfl,hb⟩;have n0_ := Aside0.mk (qap (g := gb383) (o := .cells #[.string a0_0,.int .i64 a0_1,.string a0_2] 39 (0,0)) (by (with_reducible repeat (first|refine qah ?_ _|refine qai ?_|refine qag ?_ _));exact BK383.out) hb);have n1_ := Aside0.mk (qan (by repeat (first|(with_reducible first|exact HB.out|apply qab|apply qaa|apply qac|refine qae ?_ GE383.out)|exact HB.out)) hb);clear BK383;clear HB;have BK383 := n0_;have HB := n1_;clear n0_ n1_;(try clear hb);(try clear hb2);(try clear hk);(try clear hi);have hcz18_0 : w17.cell? ⟨gb383,0,none⟩ = some (.string a0_0) := (qaf BK383.out 0).trans rfl;have hcz18_1 : w17.cell? ⟨gb383,1,none⟩ = some (.int .i64 a0_1) := (qaf BK383.out 1).trans rfl;have hcz18_2 : w17.cell? ⟨gb383,2,none⟩ = some (.string a0_2) := (qaf BK383.out 2).trans rfl;have hfz18_0 := qad BK383.out 0;have hfz18_1 := qad BK383.out 1;have hfz18_2 := qad BK383.out 2)|(go_at_call 44;(with_reducible refine (keelsonref3_Sign.calls a0_1 t385 _ (by first|exact hG|exact GL.below hG (by repeat (first|(with_reducible first|exact HB.out|apply qab|apply qaa|apply qac|refine qae ?_ GE383.out)|exact HB.out)))  A10.out).mono ?_);rintro e w' ⟨rfl,⟨nd,rfl⟩⟩;(try first|exact ⟨rfl,_,World.drewN_drewN _ _ _⟩|exact ⟨rfl,_,Eq.trans (World.drewN_drewN _ _ _) (congrArg (World.drewN _) (Nat.add_assoc _ _ _))⟩)))
        repeat (go_quiet (first|((with_reducible refine qaq (N := 1) rfl ?_);refine box_event ?hg (N := 1) ?hd (cs := #[.string a0_0,.int .i64 a0_1,.string a0_2]) (t := 39) ?hr ?_;(case hd => rfl);(case hg => rfl);(case hr => first|(go_simp;done)|(go_simp;rfl));intro gb383 hg w15 hbox hb;have n0_ := Aside0.mk (qan (by repeat (with_reducible first|exact HB.out|apply qab|apply qaa|apply qac)) hb);have n1_ := Aside0.mk (hbox);have n2_ := Aside0.mk ((by rw [hg];exact (qao (by repeat (with_reducible first|exact HB.out|apply qab|apply qaa|apply qac))) : w.heap.size ≤ gb383));have n3_ := Aside0.mk ((by rw [hg];exact (qao (by repeat (with_reducible first|exact HB.out|apply qab|apply qaa|apply qac))) : w.heap.size ≤ gb383));clear HB;have HB := n0_;have BK383 := n1_;have GW383 := n2_;have GE383 := n3_;clear n0_ n1_ n2_ n3_;clear hb hbox hg;have hcz16_0 : w15.cell? ⟨gb383,0,none⟩ = some (.string a0_0) := (qaf BK383.out 0).trans rfl;have hcz16_1 : w15.cell? ⟨gb383,1,none⟩ = some (.int .i64 a0_1) := (qaf BK383.out 1).trans rfl;have hcz16_2 : w15.cell? ⟨gb383,2,none⟩ = some (.string a0_2) := (qaf BK383.out 2).trans rfl;have hfz16_0 := qad BK383.out 0;have hfz16_1 := qad BK383.out 1;have hfz16_2 := qad BK383.out 2)|(go_at_call 20;(with_reducible refine (keelsonref3_Right.calls k a0_0 a0_1 a0_2 true _ (by first|exact hG|exact GL.below hG (by repeat (first|(with_reducible first|exact HB.out|apply qab|apply qaa|apply qac|refine qae ?_ GE383.out)|exact HB.out)))  A2.out).mono ?_);rintro e w17 ⟨rfl,hb⟩;have n0_ := Aside0.mk (qap (g := gb383) (o := .cells #[.string a0_0,.int .i64 a0_1,.string a0_2] 39 (0,0)) (by (with_reducible repeat (first|refine qah ?_ _|refine qai ?_|refine qag ?_ _));exact BK383.out) hb);have n1_ := Aside0.mk (qan (by repeat (first|(with_reducible first|exact HB.out|apply qab|apply qaa|apply qac|refine qae ?_ GE383.out)|exact HB.out)) hb);clear BK383;clear HB;have BK383 := n0_;have HB := n1_;clear n0_ n1_;(try clear hb);(try clear hb2);(try clear hk);(try clear hi);have hcz18_0 : w17.cell? ⟨gb383,0,none⟩ = some (.string a0_0) := (qaf BK383.out 0).trans rfl;have hcz18_1 : w17.cell? ⟨gb383,1,none⟩ = some (.int .i64 a0_1) := (qaf BK383.out 1).trans rfl;have hcz18_2 : w17.cell? ⟨gb383,2,none⟩ = some (.string a0_2) := (qaf BK383.out 2).trans rfl;have hfz18_0 := qad BK383.out 0;have hfz18_1 := qad BK383.out 1;have hfz18_2 := qad BK383.out 2)|(go_at_call 44;(with_reducible refine (keelsonref3_Sign.calls a0_1 t385 _ (by first|exact hG|exact GL.below hG (by repeat (first|(with_reducible first|exact HB.out|apply qab|apply qaa|apply qac|refine qae ?_ GE383.out)|exact HB.out)))  A10.out).mono ?_);rintro e w' ⟨rfl,⟨nd,rfl⟩⟩;(try first|exact ⟨rfl,_,World.drewN_drewN _ _ _⟩|exact ⟨rfl,_,Eq.trans (World.drewN_drewN _ _ _) (congrArg (World.drewN _) (Nat.add_assoc _ _ _))⟩)));try go_wp2_with (first|((with_reducible refine qaq (N := 1) rfl ?_);refine box_event ?hg (N := 1) ?hd (cs := #[.string a0_0,.int .i64 a0_1,.string a0_2]) (t := 39) ?hr ?_;(case hd => rfl);(case hg => rfl);(case hr => first|(go_simp;done)|(go_simp;rfl));intro gb383 hg w15 hbox hb;have n0_ := Aside0.mk (qan (by repeat (with_reducible first|exact HB.out|apply qab|apply qaa|apply qac)) hb);have n1_ := Aside0.mk (hbox);have n2_ := Aside0.mk ((by rw [hg];exact (qao (by repeat (with_reducible first|exact HB.out|apply qab|apply qaa|apply qac))) : w.heap.size ≤ gb383));have n3_ := Aside0.mk ((by rw [hg];exact (qao (by repeat (with_reducible first|exact HB.out|apply qab|apply qaa|apply qac))) : w.heap.size ≤ gb383));clear HB;have HB := n0_;have BK383 := n1_;have GW383 := n2_;have GE383 := n3_;clear n0_ n1_ n2_ n3_;clear hb hbox hg;have hcz16_0 : w15.cell? ⟨gb383,0,none⟩ = some (.string a0_0) := (qaf BK383.out 0).trans rfl;have hcz16_1 : w15.cell? ⟨gb383,1,none⟩ = some (.int .i64 a0_1) := (qaf BK383.out 1).trans rfl;have hcz16_2 : w15.cell? ⟨gb383,2,none⟩ = some (.string a0_2) := (qaf BK383.out 2).trans rfl;have hfz16_0 := qad BK383.out 0;have hfz16_1 := qad BK383.out 1;have hfz16_2 := qad BK383.out 2)|(go_at_call 20;(with_reducible refine (keelsonref3_Right.calls k a0_0 a0_1 a0_2 true _ (by first|exact hG|exact GL.below hG (by repeat (first|(with_reducible first|exact HB.out|apply qab|apply qaa|apply qac|refine qae ?_ GE383.out)|exact HB.out)))  A2.out).mono ?_);rintro e w17 ⟨rfl,hb⟩;have n0_ := Aside0.mk (qap (g := gb383) (o := .cells #[.string a0_0,.int .i64 a0_1,.string a0_2] 39 (0,0)) (by (with_reducible repeat (first|refine qah ?_ _|refine qai ?_|refine qag ?_ _));exact BK383.out) hb);have n1_ := Aside0.mk (qan (by repeat (first|(with_reducible first|exact HB.out|apply qab|apply qaa|apply qac|refine qae ?_ GE383.out)|exact HB.out)) hb);clear BK383;clear HB;have BK383 := n0_;have HB := n1_;clear n0_ n1_;(try clear hb);(try clear hb2);(try clear hk);(try clear hi);have hcz18_0 : w17.cell? ⟨gb383,0,none⟩ = some (.string a0_0) := (qaf BK383.out 0).trans rfl;have hcz18_1 : w17.cell? ⟨gb383,1,none⟩ = some (.int .i64 a0_1) := (qaf BK383.out 1).trans rfl;have hcz18_2 : w17.cell? ⟨gb383,2,none⟩ = some (.string a0_2) := (qaf BK383.out 2).trans rfl;have hfz18_0 := qad BK383.out 0;have hfz18_1 := qad BK383.out 1;have hfz18_2 := qad BK383.out 2)|(go_at_call 44;(with_reducible refine (keelsonref3_Sign.calls a0_1 t385 _ (by first|exact hG|exact GL.below hG (by repeat (first|(with_reducible first|exact HB.out|apply qab|apply qaa|apply qac|refine qae ?_ GE383.out)|exact HB.out)))  A10.out).mono ?_);rintro e w' ⟨rfl,⟨nd,rfl⟩⟩;(try first|exact ⟨rfl,_,World.drewN_drewN _ _ _⟩|exact ⟨rfl,_,Eq.trans (World.drewN_drewN _ _ _) (congrArg (World.drewN _) (Nat.add_assoc _ _ _))⟩))))
        go_ret
        exact ⟨by first|rfl|(simp [qak,qal]<;>rfl)|(simp [*,qak,qal]<;>rfl),by repeat (first|(with_reducible first|exact HB.out|apply qab|apply qaa|apply qac|refine qae ?_ GE383.out)|exact HB.out)⟩
       ·rw [if_neg c14] at H
        exact absurd H (by simp)
      ·rw [if_neg c13] at H
       exact absurd H (by simp)
     ·rw [if_neg c12] at H
      exact absurd H (by simp)
    ·rw [if_neg c11] at H
     exact absurd H (by simp)
   ·rw [if_neg c9] at H
    exact absurd H (by simp)
 ·replace c3 := Bool.eq_false_iff.mpr c3
  subst c3
  have H1 : (some (⟨#[]⟩ : ByteArray)) = some r := by rw [if_neg (show ¬ (false = true) by decide)] at H;exact H
  clear H
  have H := H1
  clear H1
  obtain rfl := Option.some.inj H
  go_enter Tryz.func21,Tryz.ntmps21
  go_wp2_with (first|((with_reducible refine qaq (N := 1) rfl ?_);refine box_event ?hg (N := 1) ?hd (cs := #[.string a0_0,.int .i64 a0_1,.string a0_2]) (t := 39) ?hr ?_;(case hd => rfl);(case hg => rfl);(case hr => first|(go_simp;done)|(go_simp;rfl));intro gb383 hg w19 hbox hb;have n0_ := Aside0.mk (qan (by repeat (with_reducible first|exact HB.out|apply qab|apply qaa|apply qac)) hb);have n1_ := Aside0.mk (hbox);have n2_ := Aside0.mk ((by rw [hg];exact (qao (by repeat (with_reducible first|exact HB.out|apply qab|apply qaa|apply qac))) : w.heap.size ≤ gb383));have n3_ := Aside0.mk ((by rw [hg];exact (qao (by repeat (with_reducible first|exact HB.out|apply qab|apply qaa|apply qac))) : w.heap.size ≤ gb383));clear HB;have HB := n0_;have BK383 := n1_;have GW383 := n2_;have GE383 := n3_;clear n0_ n1_ n2_ n3_;clear hb hbox hg;have hcz20_0 : w19.cell? ⟨gb383,0,none⟩ = some (.string a0_0) := (qaf BK383.out 0).trans rfl;have hcz20_1 : w19.cell? ⟨gb383,1,none⟩ = some (.int .i64 a0_1) := (qaf BK383.out 1).trans rfl;have hcz20_2 : w19.cell? ⟨gb383,2,none⟩ = some (.string a0_2) := (qaf BK383.out 2).trans rfl;have hfz20_0 := qad BK383.out 0;have hfz20_1 := qad BK383.out 1;have hfz20_2 := qad BK383.out 2)|(go_at_call 20;(with_reducible refine (keelsonref3_Right.calls k a0_0 a0_1 a0_2 false _ (by first|exact hG|exact GL.below hG (by repeat (first|(with_reducible first|exact HB.out|apply qab|apply qaa|apply qac|refine qae ?_ GE383.out)|exact HB.out)))  A2.out).mono ?_);rintro e w21 ⟨rfl,hb⟩;have n0_ := Aside0.mk (qap (g := gb383) (o := .cells #[.string a0_0,.int .i64 a0_1,.string a0_2] 39 (0,0)) (by (with_reducible repeat (first|refine qah ?_ _|refine qai ?_|refine qag ?_ _));exact BK383.out) hb);have n1_ := Aside0.mk (qan (by repeat (first|(with_reducible first|exact HB.out|apply qab|apply qaa|apply qac|refine qae ?_ GE383.out)|exact HB.out)) hb);clear BK383;clear HB;have BK383 := n0_;have HB := n1_;clear n0_ n1_;(try clear hb);(try clear hb2);(try clear hk);(try clear hi)))
  repeat (go_quiet (first|((with_reducible refine qaq (N := 1) rfl ?_);refine box_event ?hg (N := 1) ?hd (cs := #[.string a0_0,.int .i64 a0_1,.string a0_2]) (t := 39) ?hr ?_;(case hd => rfl);(case hg => rfl);(case hr => first|(go_simp;done)|(go_simp;rfl));intro gb383 hg w19 hbox hb;have n0_ := Aside0.mk (qan (by repeat (with_reducible first|exact HB.out|apply qab|apply qaa|apply qac)) hb);have n1_ := Aside0.mk (hbox);have n2_ := Aside0.mk ((by rw [hg];exact (qao (by repeat (with_reducible first|exact HB.out|apply qab|apply qaa|apply qac))) : w.heap.size ≤ gb383));have n3_ := Aside0.mk ((by rw [hg];exact (qao (by repeat (with_reducible first|exact HB.out|apply qab|apply qaa|apply qac))) : w.heap.size ≤ gb383));clear HB;have HB := n0_;have BK383 := n1_;have GW383 := n2_;have GE383 := n3_;clear n0_ n1_ n2_ n3_;clear hb hbox hg;have hcz20_0 : w19.cell? ⟨gb383,0,none⟩ = some (.string a0_0) := (qaf BK383.out 0).trans rfl;have hcz20_1 : w19.cell? ⟨gb383,1,none⟩ = some (.int .i64 a0_1) := (qaf BK383.out 1).trans rfl;have hcz20_2 : w19.cell? ⟨gb383,2,none⟩ = some (.string a0_2) := (qaf BK383.out 2).trans rfl;have hfz20_0 := qad BK383.out 0;have hfz20_1 := qad BK383.out 1;have hfz20_2 := qad BK383.out 2)|(go_at_call 20;(with_reducible refine (keelsonref3_Right.calls k a0_0 a0_1 a0_2 false _ (by first|exact hG|exact GL.below hG (by repeat (first|(with_reducible first|exact HB.out|apply qab|apply qaa|apply qac|refine qae ?_ GE383.out)|exact HB.out)))  A2.out).mono ?_);rintro e w21 ⟨rfl,hb⟩;have n0_ := Aside0.mk (qap (g := gb383) (o := .cells #[.string a0_0,.int .i64 a0_1,.string a0_2] 39 (0,0)) (by (with_reducible repeat (first|refine qah ?_ _|refine qai ?_|refine qag ?_ _));exact BK383.out) hb);have n1_ := Aside0.mk (qan (by repeat (first|(with_reducible first|exact HB.out|apply qab|apply qaa|apply qac|refine qae ?_ GE383.out)|exact HB.out)) hb);clear BK383;clear HB;have BK383 := n0_;have HB := n1_;clear n0_ n1_;(try clear hb);(try clear hb2);(try clear hk);(try clear hi)));try go_wp2_with (first|((with_reducible refine qaq (N := 1) rfl ?_);refine box_event ?hg (N := 1) ?hd (cs := #[.string a0_0,.int .i64 a0_1,.string a0_2]) (t := 39) ?hr ?_;(case hd => rfl);(case hg => rfl);(case hr => first|(go_simp;done)|(go_simp;rfl));intro gb383 hg w19 hbox hb;have n0_ := Aside0.mk (qan (by repeat (with_reducible first|exact HB.out|apply qab|apply qaa|apply qac)) hb);have n1_ := Aside0.mk (hbox);have n2_ := Aside0.mk ((by rw [hg];exact (qao (by repeat (with_reducible first|exact HB.out|apply qab|apply qaa|apply qac))) : w.heap.size ≤ gb383));have n3_ := Aside0.mk ((by rw [hg];exact (qao (by repeat (with_reducible first|exact HB.out|apply qab|apply qaa|apply qac))) : w.heap.size ≤ gb383));clear HB;have HB := n0_;have BK383 := n1_;have GW383 := n2_;have GE383 := n3_;clear n0_ n1_ n2_ n3_;clear hb hbox hg;have hcz20_0 : w19.cell? ⟨gb383,0,none⟩ = some (.string a0_0) := (qaf BK383.out 0).trans rfl;have hcz20_1 : w19.cell? ⟨gb383,1,none⟩ = some (.int .i64 a0_1) := (qaf BK383.out 1).trans rfl;have hcz20_2 : w19.cell? ⟨gb383,2,none⟩ = some (.string a0_2) := (qaf BK383.out 2).trans rfl;have hfz20_0 := qad BK383.out 0;have hfz20_1 := qad BK383.out 1;have hfz20_2 := qad BK383.out 2)|(go_at_call 20;(with_reducible refine (keelsonref3_Right.calls k a0_0 a0_1 a0_2 false _ (by first|exact hG|exact GL.below hG (by repeat (first|(with_reducible first|exact HB.out|apply qab|apply qaa|apply qac|refine qae ?_ GE383.out)|exact HB.out)))  A2.out).mono ?_);rintro e w21 ⟨rfl,hb⟩;have n0_ := Aside0.mk (qap (g := gb383) (o := .cells #[.string a0_0,.int .i64 a0_1,.string a0_2] 39 (0,0)) (by (with_reducible repeat (first|refine qah ?_ _|refine qai ?_|refine qag ?_ _));exact BK383.out) hb);have n1_ := Aside0.mk (qan (by repeat (first|(with_reducible first|exact HB.out|apply qab|apply qaa|apply qac|refine qae ?_ GE383.out)|exact HB.out)) hb);clear BK383;clear HB;have BK383 := n0_;have HB := n1_;clear n0_ n1_;(try clear hb);(try clear hb2);(try clear hk);(try clear hi))))
  go_ret
  exact ⟨by first|rfl|(simp [qak,qal]<;>rfl)|(simp [*,qak,qal]<;>rfl),by repeat (first|(with_reducible first|exact HB.out|apply qab|apply qaa|apply qac|refine qae ?_ GE383.out)|exact HB.out)⟩
mutual
def keelsonref4_Print.l0 : Nat → List (List (S39)) → ByteArray → Int → Option (ByteArray)
 | 0,_,_,_ => none
 | k + 1,x0,x4,x5 => if x5 < (x0.length : Int) then (if x5 > 0 then (if x4.size + 2 ≤ 9223372036854775807 then (keelsonref4_Print.j1 k x0 (x4 ++ (⟨#[44,32]⟩ : ByteArray)) x5) else (none)) else (keelsonref4_Print.j1 k x0 x4 x5)) else (some x4)
def keelsonref4_Print.j1 : Nat → List (List (S39)) → ByteArray → Int → Option (ByteArray)
 | 0,_,_,_ => none
 | k + 1,x0,x4,x5 => keelsonref4_Print.l1 k x0 x4 x5 0
def keelsonref4_Print.l1 : Nat → List (List (S39)) → ByteArray → Int → Int → Option (ByteArray)
 | 0,_,_,_,_ => none
 | k + 1,x0,x4,x5,x6 => if 0 ≤ x5 then (if x5 < (x0.length : Int) then (if x6 < ((rd_L4 x0 x5).length : Int) then (if x6 > 0 then (if x4.size + 3 ≤ 9223372036854775807 then (if 0 ≤ x6 then ((keelsonref3_Print.f k ((rd_T39 (rd_L4 x0 x5) x6).f0) ((rd_T39 (rd_L4 x0 x5) x6).f1) ((rd_T39 (rd_L4 x0 x5) x6).f2)).bind fun t390 => (if (x4 ++ (⟨#[32,124,32]⟩ : ByteArray)).size + t390.size ≤ 9223372036854775807 then (keelsonref4_Print.l1 k x0 ((x4 ++ (⟨#[32,124,32]⟩ : ByteArray)) ++ t390) x5 (wrap64 (x6 + 1))) else (none))) else (none)) else (none)) else (if 0 ≤ x6 then ((keelsonref3_Print.f k ((rd_T39 (rd_L4 x0 x5) x6).f0) ((rd_T39 (rd_L4 x0 x5) x6).f1) ((rd_T39 (rd_L4 x0 x5) x6).f2)).bind fun t393 => (if x4.size + t393.size ≤ 9223372036854775807 then (keelsonref4_Print.l1 k x0 (x4 ++ t393) x5 (wrap64 (x6 + 1))) else (none))) else (none))) else (keelsonref4_Print.l0 k x0 x4 (wrap64 (x5 + 1)))) else (none)) else (none)
end
def keelsonref4_Print.f (k : Nat) (l0 : List (List (S39))) : Option (ByteArray) := (keelsonref4_Right.f k l0).bind fun t386 => (if t386 = true then (keelsonref4_Print.l0 k l0 (⟨#[]⟩ : ByteArray) 0) else (some (⟨#[]⟩ : ByteArray)))
theorem keelsonref4_Print.mono_l : ∀ k,(∀ y0 y1 y2,LeO (keelsonref4_Print.l0 k y0 y1 y2) (keelsonref4_Print.l0 (k + 1) y0 y1 y2)) ∧ (∀ y0 y1 y2,LeO (keelsonref4_Print.j1 k y0 y1 y2) (keelsonref4_Print.j1 (k + 1) y0 y1 y2)) ∧ (∀ y0 y1 y2 y3,LeO (keelsonref4_Print.l1 k y0 y1 y2 y3) (keelsonref4_Print.l1 (k + 1) y0 y1 y2 y3))
 | 0 => ⟨fun _ _ _ r h => by simp [keelsonref4_Print.l0] at h,fun _ _ _ r h => by simp [keelsonref4_Print.j1] at h,fun _ _ _ _ r h => by simp [keelsonref4_Print.l1] at h⟩
 | k + 1 => by
  obtain ⟨ih0,ih1,ih2⟩ := keelsonref4_Print.mono_l k
  refine ⟨?_,?_,?_⟩
  ·intro y0 y1 y2
   unfold keelsonref4_Print.l0
   repeat' first
   | (with_reducible exact ih0 _ _ _)
   | (with_reducible exact ih1 _ _ _)
   | (with_reducible exact ih2 _ _ _ _)
   | (with_reducible exact keelsonref3_Print.mono _ _ _ _)
   | (with_reducible exact keelsonref4_Right.mono _ _)
   | (with_reducible exact LeO.refl _)
   | (with_reducible exact LeO.none _)
   | (with_reducible refine LeO.ite ?_ ?_)
   | (with_reducible refine LeO.bind ?_ (fun _ => ?_))
   | exact ih0 _ _ _
   | exact ih1 _ _ _
   | exact ih2 _ _ _ _
   | exact keelsonref3_Print.mono _ _ _ _
   | exact keelsonref4_Right.mono _ _
   | exact LeO.none _
   | refine LeO.ite ?_ ?_
   | refine LeO.bind ?_ (fun _ => ?_)
  ·intro y0 y1 y2
   unfold keelsonref4_Print.j1
   repeat' first
   | (with_reducible exact ih0 _ _ _)
   | (with_reducible exact ih1 _ _ _)
   | (with_reducible exact ih2 _ _ _ _)
   | (with_reducible exact keelsonref3_Print.mono _ _ _ _)
   | (with_reducible exact keelsonref4_Right.mono _ _)
   | (with_reducible exact LeO.refl _)
   | (with_reducible exact LeO.none _)
   | (with_reducible refine LeO.ite ?_ ?_)
   | (with_reducible refine LeO.bind ?_ (fun _ => ?_))
   | exact ih0 _ _ _
   | exact ih1 _ _ _
   | exact ih2 _ _ _ _
   | exact keelsonref3_Print.mono _ _ _ _
   | exact keelsonref4_Right.mono _ _
   | exact LeO.none _
   | refine LeO.ite ?_ ?_
   | refine LeO.bind ?_ (fun _ => ?_)
  ·intro y0 y1 y2 y3
   unfold keelsonref4_Print.l1
   repeat' first
   | (with_reducible exact ih0 _ _ _)
   | (with_reducible exact ih1 _ _ _)
   | (with_reducible exact ih2 _ _ _ _)
   | (with_reducible exact keelsonref3_Print.mono _ _ _ _)
   | (with_reducible exact keelsonref4_Right.mono _ _)
   | (with_reducible exact LeO.refl _)
   | (with_reducible exact LeO.none _)
   | (with_reducible refine LeO.ite ?_ ?_)
   | (with_reducible refine LeO.bind ?_ (fun _ => ?_))
   | exact ih0 _ _ _
   | exact ih1 _ _ _
   | exact ih2 _ _ _ _
   | exact keelsonref3_Print.mono _ _ _ _
   | exact keelsonref4_Right.mono _ _
   | exact LeO.none _
   | refine LeO.ite ?_ ?_
   | refine LeO.bind ?_ (fun _ => ?_)
theorem keelsonref4_Print.mono : ∀ a0 k,LeO (keelsonref4_Print.f k a0) (keelsonref4_Print.f (k + 1) a0) := by
 intro a0 k
 obtain ⟨ih0,ih1,ih2⟩ := keelsonref4_Print.mono_l k
 unfold keelsonref4_Print.f
 repeat' first
   | (with_reducible exact ih0 _ _ _)
   | (with_reducible exact ih1 _ _ _)
   | (with_reducible exact ih2 _ _ _ _)
   | (with_reducible exact keelsonref3_Print.mono _ _ _ _)
   | (with_reducible exact keelsonref4_Right.mono _ _)
   | (with_reducible exact LeO.refl _)
   | (with_reducible exact LeO.none _)
   | (with_reducible refine LeO.ite ?_ ?_)
   | (with_reducible refine LeO.bind ?_ (fun _ => ?_))
   | exact ih0 _ _ _
   | exact ih1 _ _ _
   | exact ih2 _ _ _ _
   | exact keelsonref3_Print.mono _ _ _ _
   | exact keelsonref4_Right.mono _ _
   | exact LeO.none _
   | refine LeO.ite ?_ ?_
   | refine LeO.bind ?_ (fun _ => ?_)
theorem keelsonref4_Print.calls (k : Nat) (A0 : Option Addr) (c0 : Nat) (l0 : List (List (S39))) (r : ByteArray) (w : World) (hG : GL w) (hr0 : Kd.C (Kd.slice 39 k39) w A0 l0.length l0) (hc0 : l0.length ≤ c0) (h : keelsonref4_Print.f k l0 = some r) :
  Calls Tryz.prog 25 #[.slice A0 l0.length c0] w fun e w' => e = .returned (.string r) ∧ Below w.heap.size w w' := by
 have hu39 := Tryz.underlying39
 have HR0 := Aside0.mk hr0
 have HC0 := Aside0.mk hc0
 clear hr0 hc0
 have HB := Aside0.mk (Below.refl w.heap.size w)
 have H : ((keelsonref4_Right.f k l0).bind fun t386 => (if t386 = true then (keelsonref4_Print.l0 k l0 (⟨#[]⟩ : ByteArray) 0) else (some (⟨#[]⟩ : ByteArray)))) = some r := h
 clear h
 replace H := Option.bind_eq_some_iff.mp H
 obtain ⟨t386,A20,H⟩ := H
 replace H : (if t386 = true then (keelsonref4_Print.l0 k l0 (⟨#[]⟩ : ByteArray) 0) else (some (⟨#[]⟩ : ByteArray))) = some r := H
 have A2 := Aside0.mk A20
 clear A20
 by_cases c3 : t386 = true
 ·subst c3
  have H1 : (keelsonref4_Print.l0 k l0 (⟨#[]⟩ : ByteArray) 0) = some r := by rw [if_pos rfl] at H;exact H
  clear H
  have H := H1
  clear H1
  have H' := Aside0.mk H
  clear H
  go_enter Tryz.func25,Tryz.ntmps25
  go_wp2_with (first|((with_reducible refine qam (f := 24) rfl ?_);refine goesL_ (some 8) rfl rfl Tryz.func24 (by kernel_rfl) rfl #[.slice A0 l0.length c0] rfl (by first|rfl|(simp only [List.map_toArray,List.map_cons,List.map_nil,List.length_drop,List.length_take];rfl)|simp only [List.map_toArray,List.map_cons,List.map_nil]) ?_;(with_reducible refine (keelsonref4_Right.calls k _ _ l0 true _ (by first|exact hG|exact GL.below hG (by repeat (with_reducible first|exact HB.out|apply qab|apply qaa|apply qac)))  ?side1 ?side2 A2.out).mono ?_);(case side1 => repeat (first|exact HR0.out|(with_reducible refine Kd.C_alloc ?_ _)|(with_reducible refine Kd.C_drewN ?_ _)|(with_reducible refine Kd.C_drew ?_)));(case side2 => exact HC0.out);rintro e w4 ⟨rfl,hb⟩;refine ⟨_,rfl,?_⟩;have n0_ := Aside0.mk (qan (by repeat (with_reducible first|exact HB.out|apply qab|apply qaa|apply qac)) hb);clear HB;have HB := n0_;clear n0_;(try clear hb);(try clear hb2);(try clear hk);(try clear hi)))
  go_loopg [4,5] k (fun kq v4 v5 w' => ∃ (x4_1 : ByteArray) (x5_1 : Int),v4 = .string x4_1 ∧ v5 = .int .i64 x5_1 ∧ Aside0 (keelsonref4_Print.l0 kq l0 x4_1 x5_1 = some r) ∧ Aside0 (kq ≤ k) ∧ Aside0 (Below w.heap.size w w'))
  case atStart => exact ⟨((⟨#[]⟩ : ByteArray)),(0),(by first|rfl|(simp;done)|(simp [*];done)|(simp [qaj];done)),(by first|rfl|(simp;done)|(simp [*];done)|(simp [qaj];done)),H',⟨Nat.le_refl _⟩,⟨by repeat (with_reducible first|exact HB.out|apply qab|apply qaa|apply qac)⟩⟩
  case round =>
   clear H'
   try clear c2
   try clear p2
   try clear c3
   obtain ⟨x4_1,x5_1,rfl,rfl,HA,HK1,HB⟩ := hrel
   cases gk with
   | zero => exact absurd HA.out (by simp [keelsonref4_Print.l0])
   | succ k1 =>
    have H := HA.out
    clear HA
    simp only [keelsonref4_Print.l0] at H
    by_cases c5 : x5_1 < (l0.length : Int)
    ·rw [if_pos c5] at H
     have c5b0 : decide (x5_1 < (l0.length : Int)) = true := decide_eq_true c5
     clear c5
     have HC6 := Aside0.mk H
     clear H
     go_upto_if 18 with (fail)
     go_cut [4] (fun v4 wc => ∃ (kq : Nat) (x4_5 : ByteArray),v4 = .string x4_5 ∧ Aside0 (keelsonref4_Print.j1 kq l0 x4_5 x5_1 = some r) ∧ Aside0 (kq ≤ k1) ∧ Aside0 (Below w.heap.size w wc))
     case first =>
      have H := HC6.out
      clear HC6
      by_cases c7 : x5_1 > 0
      ·rw [if_pos c7] at H
       have c7b0 : decide (0 < x5_1) = true := decide_eq_true c7
       clear c7
       (first|rw [c7b0]|(simp only [i64_w,i32_w];rw [c7b0]) | skip)
       by_cases c8 : x4_1.size + 2 ≤ 9223372036854775807
       ·rw [if_pos c8] at H
        have c8b0 := eq_true c8
        have c8b1 : decide (x4_1.size + 2 ≤ 9223372036854775807) = true := decide_eq_true c8
        try have c8b2 : (9223372036854775807 < x4_1.size + 2) = False := eq_false (Nat.not_lt.2 c8)
        have H' := Aside0.mk H
        clear H
        go_wp2
        go_meet
        case rel => exact ⟨_,(x4_1 ++ (⟨#[44,32]⟩ : ByteArray)),(by first|rfl|(simp;done)|(simp [*];done)|(simp [qaj];done)),H',⟨by have := HK1.out;first|omega|exact Nat.le_refl _⟩,⟨by repeat (with_reducible first|exact HB.out|apply qab|apply qaa|apply qac)⟩⟩
       ·rw [if_neg c8] at H
        exact absurd H (by simp)
      ·rw [if_neg c7] at H
       have c7b0 : decide (0 < x5_1) = false := decide_eq_false c7
       clear c7
       (first|rw [c7b0]|(simp only [i64_w,i32_w];rw [c7b0]) | skip)
       have H' := Aside0.mk H
       clear H
       go_wp2
       go_meet
       case rel => exact ⟨_,(x4_1),(by first|rfl|(simp;done)|(simp [*];done)|(simp [qaj];done)),H',⟨by have := HK1.out;first|omega|exact Nat.le_refl _⟩,⟨by repeat (with_reducible first|exact HB.out|apply qab|apply qaa|apply qac)⟩⟩
     case rest =>
      clear HC6
      try clear c2
      try clear p2
      try clear c3
      try clear c5
      try clear c5b0
      try clear c7
      try clear c7b0
      try clear c8
      try clear c8b0
      try clear c8b1
      try clear c8b2
      try clear p2
      obtain ⟨kq,x4_5,rfl,HA,HJ5,HB⟩ := hcut
      cases kq with
      | zero => exact absurd HA.out (by simp [keelsonref4_Print.j1])
      | succ kj5 =>
       have H := HA.out
       clear HA
       simp only [keelsonref4_Print.j1] at H
       have H' := Aside0.mk H
       clear H
       go_wp2
       go_loopg [4,6] kj5 (fun kq v4 v6 w' => ∃ (x4_3 : ByteArray) (x6_3 : Int),v4 = .string x4_3 ∧ v6 = .int .i64 x6_3 ∧ Aside0 (keelsonref4_Print.l1 kq l0 x4_3 x5_1 x6_3 = some r) ∧ Aside0 (kq ≤ kj5) ∧ Aside0 (Below w.heap.size w w'))
       case atStart => exact ⟨(x4_5),(0),(by first|rfl|(simp;done)|(simp [*];done)|(simp [qaj];done)),(by first|rfl|(simp;done)|(simp [*];done)|(simp [qaj];done)),H',⟨Nat.le_refl _⟩,⟨by repeat (with_reducible first|exact HB.out|apply qab|apply qaa|apply qac)⟩⟩
       case round =>
        clear H'
        try clear c2
        try clear p2
        try clear c3
        try clear c5
        try clear c5b0
        try clear c7
        try clear c7b0
        try clear c8
        try clear c8b0
        try clear c8b1
        try clear c8b2
        try clear p2
        obtain ⟨x4_3,x6_3,rfl,rfl,HA,HK3,HB⟩ := hrel
        cases gk with
        | zero => exact absurd HA.out (by simp [keelsonref4_Print.l1])
        | succ k3 =>
         have H := HA.out
         clear HA
         simp only [keelsonref4_Print.l1] at H
         by_cases c9 : 0 ≤ x5_1
         ·rw [if_pos c9] at H
          have c9b0 : decide (0 ≤ x5_1) = true := decide_eq_true c9
          clear c9
          by_cases c10 : x5_1 < (l0.length : Int)
          ·rw [if_pos c10] at H
           have c10b0 : decide (x5_1 < (l0.length : Int)) = true := decide_eq_true c10
           clear c10
           by_cases c11 : x6_3 < ((rd_L4 l0 x5_1).length : Int)
           ·rw [if_pos c11] at H
            have c11b0 : decide (x6_3 < ((rd_L4 l0 x5_1).length : Int)) = true := decide_eq_true c11
            clear c11
            by_cases c12 : x6_3 > 0
            ·rw [if_pos c12] at H
             have c12b0 : decide (0 < x6_3) = true := decide_eq_true c12
             clear c12
             by_cases c13 : x4_3.size + 3 ≤ 9223372036854775807
             ·rw [if_pos c13] at H
              have c13b0 := eq_true c13
              have c13b1 : decide (x4_3.size + 3 ≤ 9223372036854775807) = true := decide_eq_true c13
              try have c13b2 : (9223372036854775807 < x4_3.size + 3) = False := eq_false (Nat.not_lt.2 c13)
              by_cases c14 : 0 ≤ x6_3
              ·rw [if_pos c14] at H
               have c14b0 : decide (0 ≤ x6_3) = true := decide_eq_true c14
               clear c14
               replace H := Option.bind_eq_some_iff.mp H
               obtain ⟨t390,A150,H⟩ := H
               replace H : (if (x4_3 ++ (⟨#[32,124,32]⟩ : ByteArray)).size + t390.size ≤ 9223372036854775807 then (keelsonref4_Print.l1 k3 l0 ((x4_3 ++ (⟨#[32,124,32]⟩ : ByteArray)) ++ t390) x5_1 (wrap64 (x6_3 + 1))) else (none)) = some r := H
               have A15 := Aside0.mk A150
               clear A150
               by_cases c16 : (x4_3 ++ (⟨#[32,124,32]⟩ : ByteArray)).size + t390.size ≤ 9223372036854775807
               ·rw [if_pos c16] at H
                have c16b0 := eq_true c16
                have c16b1 : decide ((x4_3 ++ (⟨#[32,124,32]⟩ : ByteArray)).size + t390.size ≤ 9223372036854775807) = true := decide_eq_true c16
                try have c16b2 : (9223372036854775807 < (x4_3 ++ (⟨#[32,124,32]⟩ : ByteArray)).size + t390.size) = False := eq_false (Nat.not_lt.2 c16)
                (try (have c16n := c16;simp only [ByteArray.size_append,size_of_lit,List.size_toArray,List.length_cons,List.length_nil,Nat.zero_add,Nat.reduceAdd] at c16n;have c16n1 := eq_false (Nat.not_lt.2 c16n)))
                have H' := Aside0.mk H
                clear H
                have p387 : 0 ≤ (x5_1 : Int) := of_decide_eq_true (by assumption)
                have q387 : x5_1 < (l0.length : Int) := of_decide_eq_true (by assumption)
                obtain ⟨ad387,A387_0,c387_0,e387,hx387_0,hl387_0,hi387_0⟩ := at_L4 HR0.out x5_1 p387 q387
                cases e387
                replace hx387_0 := (HB.out.cell (World.block_lt_of_cell? w _ hx387_0)).trans hx387_0
                have HR387_0 := Aside0.mk hi387_0
                have HC387_0 := Aside0.mk hl387_0
                clear hi387_0 hl387_0
                replace p387 := eq_true p387
                replace q387 := eq_true q387
                have p388 : 0 ≤ (x5_1 : Int) := of_decide_eq_true (by assumption)
                have q388 : x5_1 < (l0.length : Int) := of_decide_eq_true (by assumption)
                obtain ⟨ad388,A388_0,c388_0,e388,hx388_0,hl388_0,hi388_0⟩ := at_L4 HR0.out x5_1 p388 q388
                obtain rfl : ad387 = ad388 := (by injection e388)
                replace hx388_0 := (HB.out.cell (World.block_lt_of_cell? w _ hx388_0)).trans hx388_0
                have HR388_0 := Aside0.mk hi388_0
                have HC388_0 := Aside0.mk hl388_0
                clear hi388_0 hl388_0
                replace p388 := eq_true p388
                replace q388 := eq_true q388
                have ea_ := Option.some.inj (hx387_0.symm.trans hx388_0)
                injection ea_ with ea_ en_ ec_
                subst ea_
                subst ec_
                clear en_
                have p389 : 0 ≤ (x6_3 : Int) := of_decide_eq_true (by assumption)
                have q389 : x6_3 < ((rd_L4 l0 x5_1).length : Int) := of_decide_eq_true (by assumption)
                obtain ⟨ad389,e389,hx389_0,hx389_1,hx389_2⟩ := at_T39 HR388_0.out x6_3 p389 q389
                cases e389
                replace hx389_0 := (HB.out.cell (World.block_lt_of_cell? w _ hx389_0)).trans hx389_0
                replace hx389_1 := (HB.out.cell (World.block_lt_of_cell? w _ hx389_1)).trans hx389_1
                replace hx389_2 := (HB.out.cell (World.block_lt_of_cell? w _ hx389_2)).trans hx389_2
                replace p389 := eq_true p389
                replace q389 := eq_true q389
                go_wp2_with (first|((with_reducible refine qam (f := 21) rfl ?_);refine goesL_ (some 42) rfl rfl Tryz.func21 (by kernel_rfl) rfl #[.agg #[.string ((rd_T39 (rd_L4 l0 x5_1) x6_3).f0),.int .i64 ((rd_T39 (rd_L4 l0 x5_1) x6_3).f1),.string ((rd_T39 (rd_L4 l0 x5_1) x6_3).f2)]] rfl (by first|rfl|(simp only [List.map_toArray,List.map_cons,List.map_nil,List.length_drop,List.length_take];rfl)|simp only [List.map_toArray,List.map_cons,List.map_nil]) ?_;(with_reducible refine (keelsonref3_Print.calls k3 ((rd_T39 (rd_L4 l0 x5_1) x6_3).f0) ((rd_T39 (rd_L4 l0 x5_1) x6_3).f1) ((rd_T39 (rd_L4 l0 x5_1) x6_3).f2) t390 _ (by first|exact hG|exact GL.below hG (by repeat (with_reducible first|exact HB.out|apply qab|apply qaa|apply qac)))  A15.out).mono ?_);rintro e w17 ⟨rfl,hb⟩;refine ⟨_,rfl,?_⟩;have n0_ := Aside0.mk (qan (by repeat (with_reducible first|exact HB.out|apply qab|apply qaa|apply qac)) hb);clear HB;have HB := n0_;clear n0_;(try clear hb);(try clear hb2);(try clear hk);(try clear hi)))
                go_roundg k3
                case measure => have := HK1.out;have := HJ5.out;have := HK3.out;omega
                case rel => exact ⟨((x4_3 ++ (⟨#[32,124,32]⟩ : ByteArray)) ++ t390),(wrap64 (x6_3 + 1)),(by first|rfl|(simp;done)|(simp [*];done)|(simp [qaj];done)),(by first|rfl|(simp;done)|(simp [*];done)|(simp [qaj];done)),H',⟨by have := HK1.out;have := HJ5.out;have := HK3.out;omega⟩,⟨by repeat (with_reducible first|exact HB.out|apply qab|apply qaa|apply qac)⟩⟩
               ·rw [if_neg c16] at H
                exact absurd H (by simp)
              ·rw [if_neg c14] at H
               exact absurd H (by simp)
             ·rw [if_neg c13] at H
              exact absurd H (by simp)
            ·rw [if_neg c12] at H
             have c12b0 : decide (0 < x6_3) = false := decide_eq_false c12
             clear c12
             by_cases c18 : 0 ≤ x6_3
             ·rw [if_pos c18] at H
              have c18b0 : decide (0 ≤ x6_3) = true := decide_eq_true c18
              clear c18
              replace H := Option.bind_eq_some_iff.mp H
              obtain ⟨t393,A190,H⟩ := H
              replace H : (if x4_3.size + t393.size ≤ 9223372036854775807 then (keelsonref4_Print.l1 k3 l0 (x4_3 ++ t393) x5_1 (wrap64 (x6_3 + 1))) else (none)) = some r := H
              have A19 := Aside0.mk A190
              clear A190
              by_cases c20 : x4_3.size + t393.size ≤ 9223372036854775807
              ·rw [if_pos c20] at H
               have c20b0 := eq_true c20
               have c20b1 : decide (x4_3.size + t393.size ≤ 9223372036854775807) = true := decide_eq_true c20
               try have c20b2 : (9223372036854775807 < x4_3.size + t393.size) = False := eq_false (Nat.not_lt.2 c20)
               have H' := Aside0.mk H
               clear H
               have p387 : 0 ≤ (x5_1 : Int) := of_decide_eq_true (by assumption)
               have q387 : x5_1 < (l0.length : Int) := of_decide_eq_true (by assumption)
               obtain ⟨ad387,A387_0,c387_0,e387,hx387_0,hl387_0,hi387_0⟩ := at_L4 HR0.out x5_1 p387 q387
               cases e387
               replace hx387_0 := (HB.out.cell (World.block_lt_of_cell? w _ hx387_0)).trans hx387_0
               have HR387_0 := Aside0.mk hi387_0
               have HC387_0 := Aside0.mk hl387_0
               clear hi387_0 hl387_0
               replace p387 := eq_true p387
               replace q387 := eq_true q387
               have p391 : 0 ≤ (x5_1 : Int) := of_decide_eq_true (by assumption)
               have q391 : x5_1 < (l0.length : Int) := of_decide_eq_true (by assumption)
               obtain ⟨ad391,A391_0,c391_0,e391,hx391_0,hl391_0,hi391_0⟩ := at_L4 HR0.out x5_1 p391 q391
               obtain rfl : ad387 = ad391 := (by injection e391)
               replace hx391_0 := (HB.out.cell (World.block_lt_of_cell? w _ hx391_0)).trans hx391_0
               have HR391_0 := Aside0.mk hi391_0
               have HC391_0 := Aside0.mk hl391_0
               clear hi391_0 hl391_0
               replace p391 := eq_true p391
               replace q391 := eq_true q391
               have ea_ := Option.some.inj (hx387_0.symm.trans hx391_0)
               injection ea_ with ea_ en_ ec_
               subst ea_
               subst ec_
               clear en_
               have p392 : 0 ≤ (x6_3 : Int) := of_decide_eq_true (by assumption)
               have q392 : x6_3 < ((rd_L4 l0 x5_1).length : Int) := of_decide_eq_true (by assumption)
               obtain ⟨ad392,e392,hx392_0,hx392_1,hx392_2⟩ := at_T39 HR391_0.out x6_3 p392 q392
               cases e392
               replace hx392_0 := (HB.out.cell (World.block_lt_of_cell? w _ hx392_0)).trans hx392_0
               replace hx392_1 := (HB.out.cell (World.block_lt_of_cell? w _ hx392_1)).trans hx392_1
               replace hx392_2 := (HB.out.cell (World.block_lt_of_cell? w _ hx392_2)).trans hx392_2
               replace p392 := eq_true p392
               replace q392 := eq_true q392
               go_wp2_with (first|((with_reducible refine qam (f := 21) rfl ?_);refine goesL_ (some 42) rfl rfl Tryz.func21 (by kernel_rfl) rfl #[.agg #[.string ((rd_T39 (rd_L4 l0 x5_1) x6_3).f0),.int .i64 ((rd_T39 (rd_L4 l0 x5_1) x6_3).f1),.string ((rd_T39 (rd_L4 l0 x5_1) x6_3).f2)]] rfl (by first|rfl|(simp only [List.map_toArray,List.map_cons,List.map_nil,List.length_drop,List.length_take];rfl)|simp only [List.map_toArray,List.map_cons,List.map_nil]) ?_;(with_reducible refine (keelsonref3_Print.calls k3 ((rd_T39 (rd_L4 l0 x5_1) x6_3).f0) ((rd_T39 (rd_L4 l0 x5_1) x6_3).f1) ((rd_T39 (rd_L4 l0 x5_1) x6_3).f2) t393 _ (by first|exact hG|exact GL.below hG (by repeat (with_reducible first|exact HB.out|apply qab|apply qaa|apply qac)))  A19.out).mono ?_);rintro e w21 ⟨rfl,hb⟩;refine ⟨_,rfl,?_⟩;have n0_ := Aside0.mk (qan (by repeat (with_reducible first|exact HB.out|apply qab|apply qaa|apply qac)) hb);clear HB;have HB := n0_;clear n0_;(try clear hb);(try clear hb2);(try clear hk);(try clear hi)))
               go_roundg k3
               case measure => have := HK1.out;have := HJ5.out;have := HK3.out;omega
               case rel => exact ⟨(x4_3 ++ t393),(wrap64 (x6_3 + 1)),(by first|rfl|(simp;done)|(simp [*];done)|(simp [qaj];done)),(by first|rfl|(simp;done)|(simp [*];done)|(simp [qaj];done)),H',⟨by have := HK1.out;have := HJ5.out;have := HK3.out;omega⟩,⟨by repeat (with_reducible first|exact HB.out|apply qab|apply qaa|apply qac)⟩⟩
              ·rw [if_neg c20] at H
               exact absurd H (by simp)
             ·rw [if_neg c18] at H
              exact absurd H (by simp)
           ·rw [if_neg c11] at H
            have c11b0 : decide (x6_3 < ((rd_L4 l0 x5_1).length : Int)) = false := decide_eq_false c11
            clear c11
            have H' := Aside0.mk H
            clear H
            have p387 : 0 ≤ (x5_1 : Int) := of_decide_eq_true (by assumption)
            have q387 : x5_1 < (l0.length : Int) := of_decide_eq_true (by assumption)
            obtain ⟨ad387,A387_0,c387_0,e387,hx387_0,hl387_0,hi387_0⟩ := at_L4 HR0.out x5_1 p387 q387
            cases e387
            replace hx387_0 := (HB.out.cell (World.block_lt_of_cell? w _ hx387_0)).trans hx387_0
            have HR387_0 := Aside0.mk hi387_0
            have HC387_0 := Aside0.mk hl387_0
            clear hi387_0 hl387_0
            replace p387 := eq_true p387
            replace q387 := eq_true q387
            go_wp2
            go_roundg k3
            case measure => have := HK1.out;have := HJ5.out;have := HK3.out;omega
            case rel => exact ⟨(x4_3),(wrap64 (x5_1 + 1)),(by first|rfl|(simp;done)|(simp [*];done)|(simp [qaj];done)),(by first|rfl|(simp;done)|(simp [*];done)|(simp [qaj];done)),H',⟨by have := HK1.out;have := HJ5.out;have := HK3.out;omega⟩,⟨by repeat (with_reducible first|exact HB.out|apply qab|apply qaa|apply qac)⟩⟩
          ·rw [if_neg c10] at H
           exact absurd H (by simp)
         ·rw [if_neg c9] at H
          exact absurd H (by simp)
    ·rw [if_neg c5] at H
     have c5b0 : decide (x5_1 < (l0.length : Int)) = false := decide_eq_false c5
     clear c5
     obtain rfl := Option.some.inj H
     go_wp2
     go_ret
     exact ⟨by first|rfl|(simp [qak,qal]<;>rfl)|(simp [*,qak,qal]<;>rfl),by repeat (with_reducible first|exact HB.out|apply qab|apply qaa|apply qac)⟩
 ·replace c3 := Bool.eq_false_iff.mpr c3
  subst c3
  have H1 : (some (⟨#[]⟩ : ByteArray)) = some r := by rw [if_neg (show ¬ (false = true) by decide)] at H;exact H
  clear H
  have H := H1
  clear H1
  obtain rfl := Option.some.inj H
  go_enter Tryz.func25,Tryz.ntmps25
  go_wp2_with (first|((with_reducible refine qam (f := 24) rfl ?_);refine goesL_ (some 8) rfl rfl Tryz.func24 (by kernel_rfl) rfl #[.slice A0 l0.length c0] rfl (by first|rfl|(simp only [List.map_toArray,List.map_cons,List.map_nil,List.length_drop,List.length_take];rfl)|simp only [List.map_toArray,List.map_cons,List.map_nil]) ?_;(with_reducible refine (keelsonref4_Right.calls k _ _ l0 false _ (by first|exact hG|exact GL.below hG (by repeat (with_reducible first|exact HB.out|apply qab|apply qaa|apply qac)))  ?side1 ?side2 A2.out).mono ?_);(case side1 => repeat (first|exact HR0.out|(with_reducible refine Kd.C_alloc ?_ _)|(with_reducible refine Kd.C_drewN ?_ _)|(with_reducible refine Kd.C_drew ?_)));(case side2 => exact HC0.out);rintro e w22 ⟨rfl,hb⟩;refine ⟨_,rfl,?_⟩;have n0_ := Aside0.mk (qan (by repeat (with_reducible first|exact HB.out|apply qab|apply qaa|apply qac)) hb);clear HB;have HB := n0_;clear n0_;(try clear hb);(try clear hb2);(try clear hk);(try clear hi)))
  go_ret
  exact ⟨by first|rfl|(simp [qak,qal]<;>rfl)|(simp [*,qak,qal]<;>rfl),by repeat (with_reducible first|exact HB.out|apply qab|apply qaa|apply qac)⟩
end Go.Proofs.YtjbbgekkombpnaaGreatDoor.PA
