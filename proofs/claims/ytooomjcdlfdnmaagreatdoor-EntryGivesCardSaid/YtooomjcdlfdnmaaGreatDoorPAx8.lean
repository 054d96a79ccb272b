
import Derived.Test.YtooomjcdlfdnmaaGreatDoorPAx0
import Derived.Test.YtooomjcdlfdnmaaGreatDoorPAx7
namespace Go.Proofs.YtooomjcdlfdnmaaGreatDoor.PA
open Go.RowKit Go.Proofs.YtooomjcdlfdnmaaGreatDoorW.PrintWords Go.Proofs.YtooomjcdlfdnmaaGreatDoorW.PrintLast Go.Proofs.YtooomjcdlfdnmaaGreatDoorW.PrintMore
attribute [local go_sem] max2_int min2_int max_two min_two max_three min_three max_four min_four
set_option maxHeartbeats 8000000
set_option maxRecDepth 100000
set_option linter.unusedVariables false
set_option linter.unusedSimpArgs false
def api_Atom_179_122.l0 : Nat → List (S27) → Int → Int → Option (Int)
 | 0,_,_,_ => none
 | k + 1,x0,x7,x8 => if x8 < x7 then (if 0 ≤ x8 then (if x8 < (x0.length : Int) then ((depends_Right_1.f k ((rd_T27 x0 x8).f0) ((rd_T27 x0 x8).f1) ((rd_T27 x0 x8).f2)).bind fun t220 => (if t220 = true then (some x8) else (api_Atom_179_122.l0 k x0 x7 (wrap64 (x8 + 1))))) else (none)) else (none)) else (some (-1))
def api_Atom_179_122.f (k : Nat) (l0 : List (S27)) (a1 : Nat) : Option (Int) := api_Atom_179_122.l0 k l0 (l0.length : Int) 0
theorem api_Atom_179_122.mono_l : ∀ k,(∀ y0 y1 y2,LeO (api_Atom_179_122.l0 k y0 y1 y2) (api_Atom_179_122.l0 (k + 1) y0 y1 y2))
 | 0 => fun _ _ _ r h => by simp [api_Atom_179_122.l0] at h
 | k + 1 => by
  have ih0 := api_Atom_179_122.mono_l k
  ·intro y0 y1 y2
   unfold api_Atom_179_122.l0
   repeat' first
   | (with_reducible exact ih0 _ _ _)
   | (with_reducible exact depends_Right_1.mono _ _ _ _)
   | (with_reducible exact LeO.refl _)
   | (with_reducible exact LeO.none _)
   | (with_reducible refine LeO.ite ?_ ?_)
   | (with_reducible refine LeO.bind ?_ (fun _ => ?_))
   | exact ih0 _ _ _
   | exact depends_Right_1.mono _ _ _ _
   | exact LeO.none _
   | refine LeO.ite ?_ ?_
   | refine LeO.bind ?_ (fun _ => ?_)
theorem api_Atom_179_122.mono : ∀ a0 a1 k,LeO (api_Atom_179_122.f k a0 a1) (api_Atom_179_122.f (k + 1) a0 a1) := by
 intro a0 a1 k
 have ih0 := api_Atom_179_122.mono_l k
 unfold api_Atom_179_122.f
 repeat' first
   | (with_reducible exact ih0 _ _ _)
   | (with_reducible exact depends_Right_1.mono _ _ _ _)
   | (with_reducible exact LeO.refl _)
   | (with_reducible exact LeO.none _)
   | (with_reducible refine LeO.ite ?_ ?_)
   | (with_reducible refine LeO.bind ?_ (fun _ => ?_))
   | exact ih0 _ _ _
   | exact depends_Right_1.mono _ _ _ _
   | exact LeO.none _
   | refine LeO.ite ?_ ?_
   | refine LeO.bind ?_ (fun _ => ?_)
theorem api_Atom_179_122.calls (k : Nat) (A0 : Option Addr) (c0 : Nat) (l0 : List (S27)) (a1 : Nat) (r : Int) (w : World) (hG : GL w) (hr0 : Kd.C k27 w A0 l0.length l0) (hc0 : l0.length ≤ c0) (h : api_Atom_179_122.f k l0 a1 = some r) :
  Calls Tryz.prog 179 #[.slice A0 l0.length c0,.func (.func 122) #[] #[]] w fun e w' => e = .returned (.int .i64 r) ∧ Below w.heap.size w w' := by
 have hu27 := Tryz.underlying27
 have HR0 := Aside0.mk hr0
 have HC0 := Aside0.mk hc0
 clear hr0 hc0
 have HB := Aside0.mk (Below.refl w.heap.size w)
 have H : (api_Atom_179_122.l0 k l0 (l0.length : Int) 0) = some r := h
 clear h
 have H' := Aside0.mk H
 clear H
 go_enter Tryz.func179,Tryz.ntmps179
 go_wp2
 go_loopg [8] k (fun kq v8 w' => ∃ (x8_1 : Int),v8 = .int .i64 x8_1 ∧ Aside0 (api_Atom_179_122.l0 kq l0 (l0.length : Int) x8_1 = some r) ∧ Aside0 (kq ≤ k) ∧ Aside0 (Below w.heap.size w w'))
 case atStart => exact ⟨(0),(by first|rfl|(simp;done)|(simp [*];done)|(simp [qam];done)),H',⟨Nat.le_refl _⟩,⟨by repeat (with_reducible first|exact HB.out|apply qab|apply qaa|apply qac)⟩⟩
 case round =>
  clear H'
  try clear p2
  obtain ⟨x8_1,rfl,HA,HK1,HB⟩ := hrel
  cases gk with
  | zero => exact absurd HA.out (by simp [api_Atom_179_122.l0])
  | succ k1 =>
   have H := HA.out
   clear HA
   simp only [api_Atom_179_122.l0] at H
   by_cases c3 : x8_1 < (l0.length : Int)
   ·rw [if_pos c3] at H
    have c3b0 : decide (x8_1 < (l0.length : Int)) = true := decide_eq_true c3
    clear c3
    by_cases c4 : 0 ≤ x8_1
    ·rw [if_pos c4] at H
     have c4b0 : decide (0 ≤ x8_1) = true := decide_eq_true c4
     clear c4
     by_cases c5 : x8_1 < (l0.length : Int)
     ·rw [if_pos c5] at H
      have c5b0 : decide (x8_1 < (l0.length : Int)) = true := decide_eq_true c5
      clear c5
      replace H := Option.bind_eq_some_iff.mp H
      obtain ⟨t220,A60,H⟩ := H
      replace H : (if t220 = true then (some x8_1) else (api_Atom_179_122.l0 k1 l0 (l0.length : Int) (wrap64 (x8_1 + 1)))) = some r := H
      have A6 := Aside0.mk A60
      clear A60
      by_cases c7 : t220 = true
      ·subst c7
       have H1 : (some x8_1) = some r := by rw [if_pos rfl] at H;exact H
       clear H
       have H := H1
       clear H1
       obtain rfl := Option.some.inj H
       have p219 : 0 ≤ (x8_1 : Int) := of_decide_eq_true (by assumption)
       have q219 : x8_1 < (l0.length : Int) := of_decide_eq_true (by assumption)
       obtain ⟨ad219,e219,hx219_0,hx219_1,hx219_2⟩ := at_T27 HR0.out x8_1 p219 q219
       cases e219
       replace hx219_0 := (HB.out.cell (World.block_lt_of_cell? w _ hx219_0)).trans hx219_0
       replace hx219_1 := (HB.out.cell (World.block_lt_of_cell? w _ hx219_1)).trans hx219_1
       replace hx219_2 := (HB.out.cell (World.block_lt_of_cell? w _ hx219_2)).trans hx219_2
       replace p219 := eq_true p219
       replace q219 := eq_true q219
       go_wp2_with (first|(go_at_call 122;(with_reducible refine (depends_Right_1.calls k1 ((rd_T27 l0 x8_1).f0) ((rd_T27 l0 x8_1).f1) ((rd_T27 l0 x8_1).f2) true _ (by first|exact hG|exact GL.below hG (by repeat (with_reducible first|exact HB.out|apply qab|apply qaa|apply qac)))  A6.out).mono ?_);rintro e w8 ⟨rfl,hb⟩;have n0_ := Aside0.mk (qan (by repeat (with_reducible first|exact HB.out|apply qab|apply qaa|apply qac)) hb);clear HB;have HB := n0_;clear n0_;(try clear hb);(try clear hb2);(try clear hk);(try clear hi)))
       go_ret
       exact ⟨by first|rfl|(simp [qaj,qak]<;>rfl)|(simp [*,qaj,qak]<;>rfl),by repeat (with_reducible first|exact HB.out|apply qab|apply qaa|apply qac)⟩
      ·replace c7 := Bool.eq_false_iff.mpr c7
       subst c7
       have H1 : (api_Atom_179_122.l0 k1 l0 (l0.length : Int) (wrap64 (x8_1 + 1))) = some r := by rw [if_neg (show ¬ (false = true) by decide)] at H;exact H
       clear H
       have H := H1
       clear H1
       have H' := Aside0.mk H
       clear H
       have p219 : 0 ≤ (x8_1 : Int) := of_decide_eq_true (by assumption)
       have q219 : x8_1 < (l0.length : Int) := of_decide_eq_true (by assumption)
       obtain ⟨ad219,e219,hx219_0,hx219_1,hx219_2⟩ := at_T27 HR0.out x8_1 p219 q219
       cases e219
       replace hx219_0 := (HB.out.cell (World.block_lt_of_cell? w _ hx219_0)).trans hx219_0
       replace hx219_1 := (HB.out.cell (World.block_lt_of_cell? w _ hx219_1)).trans hx219_1
       replace hx219_2 := (HB.out.cell (World.block_lt_of_cell? w _ hx219_2)).trans hx219_2
       replace p219 := eq_true p219
       replace q219 := eq_true q219
       go_wp2_with (first|(go_at_call 122;(with_reducible refine (depends_Right_1.calls k1 ((rd_T27 l0 x8_1).f0) ((rd_T27 l0 x8_1).f1) ((rd_T27 l0 x8_1).f2) false _ (by first|exact hG|exact GL.below hG (by repeat (with_reducible first|exact HB.out|apply qab|apply qaa|apply qac)))  A6.out).mono ?_);rintro e w9 ⟨rfl,hb⟩;have n0_ := Aside0.mk (qan (by repeat (with_reducible first|exact HB.out|apply qab|apply qaa|apply qac)) hb);clear HB;have HB := n0_;clear n0_;(try clear hb);(try clear hb2);(try clear hk);(try clear hi)))
       go_roundg k1
       case measure => have := HK1.out;omega
       case rel => exact ⟨(wrap64 (x8_1 + 1)),(by first|rfl|(simp;done)|(simp [*];done)|(simp [qam];done)),H',⟨by have := HK1.out;omega⟩,⟨by repeat (with_reducible first|exact HB.out|apply qab|apply qaa|apply qac)⟩⟩
     ·rw [if_neg c5] at H
      exact absurd H (by simp)
    ·rw [if_neg c4] at H
     exact absurd H (by simp)
   ·rw [if_neg c3] at H
    have c3b0 : decide (x8_1 < (l0.length : Int)) = false := decide_eq_false c3
    clear c3
    obtain rfl := Option.some.inj H
    go_wp2
    go_ret
    exact ⟨by first|rfl|(simp [qaj,qak]<;>rfl)|(simp [*,qaj,qak]<;>rfl),by repeat (with_reducible first|exact HB.out|apply qab|apply qaa|apply qac)⟩
def api_Atom_121_122.f (k : Nat) (l0 : List (S27)) (a1 : Nat) : Option (Bool) := (api_Atom_179_122.f k l0 a1).bind fun t221 => (some (decide (t221 ≥ 0)))
theorem api_Atom_121_122.mono : ∀ a0 a1 k,LeO (api_Atom_121_122.f k a0 a1) (api_Atom_121_122.f (k + 1) a0 a1) := by
 intro a0 a1 k
 unfold api_Atom_121_122.f
 repeat' first
   | (with_reducible exact api_Atom_179_122.mono _ _ _)
   | (with_reducible exact LeO.refl _)
   | (with_reducible exact LeO.none _)
   | (with_reducible refine LeO.ite ?_ ?_)
   | (with_reducible refine LeO.bind ?_ (fun _ => ?_))
   | exact api_Atom_179_122.mono _ _ _
   | exact LeO.none _
   | refine LeO.ite ?_ ?_
   | refine LeO.bind ?_ (fun _ => ?_)
theorem api_Atom_121_122.calls (k : Nat) (A0 : Option Addr) (c0 : Nat) (l0 : List (S27)) (a1 : Nat) (r : Bool) (w : World) (hG : GL w) (hr0 : Kd.C k27 w A0 l0.length l0) (hc0 : l0.length ≤ c0) (h : api_Atom_121_122.f k l0 a1 = some r) :
  Calls Tryz.prog 121 #[.slice A0 l0.length c0,.func (.func 122) #[] #[]] w fun e w' => e = .returned (.bool r) ∧ Below w.heap.size w w' := by
 have HR0 := Aside0.mk hr0
 have HC0 := Aside0.mk hc0
 clear hr0 hc0
 have HB := Aside0.mk (Below.refl w.heap.size w)
 have H : ((api_Atom_179_122.f k l0 a1).bind fun t221 => (some (decide (t221 ≥ 0)))) = some r := h
 clear h
 replace H := Option.bind_eq_some_iff.mp H
 obtain ⟨t221,A30,H⟩ := H
 replace H : (some (decide (t221 ≥ 0))) = some r := H
 have A3 := Aside0.mk A30
 clear A30
 obtain rfl := Option.some.inj H
 go_enter Tryz.func121,Tryz.ntmps121
 go_wp2_with (first|((with_reducible refine qal (f := 179) rfl ?_);refine goesL_ (some 7) rfl rfl Tryz.func179 (by kernel_rfl) rfl #[.slice A0 l0.length c0,.func (.func 122) #[] #[]] rfl (by first|rfl|(simp only [List.map_toArray,List.map_cons,List.map_nil,List.length_drop,List.length_take];rfl)|simp only [List.map_toArray,List.map_cons,List.map_nil]) ?_;(with_reducible refine (api_Atom_179_122.calls k _ _ l0 a1 t221 _ (by first|exact hG|exact GL.below hG (by repeat (with_reducible first|exact HB.out|apply qab|apply qaa|apply qac)))  ?side1 ?side2 A3.out).mono ?_);(case side1 => repeat (first|exact HR0.out|(with_reducible refine Kd.C_alloc ?_ _)|(with_reducible refine Kd.C_drewN ?_ _)|(with_reducible refine Kd.C_drew ?_)));(case side2 => exact HC0.out);rintro e w4 ⟨rfl,hb⟩;refine ⟨_,rfl,?_⟩;have n0_ := Aside0.mk (qan (by repeat (with_reducible first|exact HB.out|apply qab|apply qaa|apply qac)) hb);clear HB;have HB := n0_;clear n0_;(try clear hb);(try clear hb2);(try clear hk);(try clear hi)))
 go_ret
 exact ⟨by first|rfl|(simp [qaj,qak]<;>rfl)|(simp [*,qaj,qak]<;>rfl),by repeat (with_reducible first|exact HB.out|apply qab|apply qaa|apply qac)⟩
def depends_Right.l0 : Nat → List (List (S27)) → List (List (S27)) → Int → Int → Option (Bool)
 | 0,_,_,_,_ => none
 | k + 1,x0,x5,x6,x7 => if x7 < x6 then (if 0 ≤ x7 then (if x7 < (x5.length : Int) then (if ((rd_L3 x5 x7).length : Int) = 0 then (some false) else (if ((rd_L3 x5 x7).length : Int) > 6 then (some false) else ((api_Atom_121_122.f k (rd_L3 x5 x7) 0).bind fun t223 => (if t223 = true then (some false) else (depends_Right.l0 k x0 x5 x6 (wrap64 (x7 + 1))))))) else (none)) else (none)) else (some (decide ((x0.length : Int) ≤ 12)))
def depends_Right.f (k : Nat) (l0 : List (List (S27))) : Option (Bool) := depends_Right.l0 k l0 l0 (l0.length : Int) 0
theorem depends_Right.mono_l : ∀ k,(∀ y0 y1 y2 y3,LeO (depends_Right.l0 k y0 y1 y2 y3) (depends_Right.l0 (k + 1) y0 y1 y2 y3))
 | 0 => fun _ _ _ _ r h => by simp [depends_Right.l0] at h
 | k + 1 => by
  have ih0 := depends_Right.mono_l k
  ·intro y0 y1 y2 y3
   unfold depends_Right.l0
   repeat' first
   | (with_reducible exact ih0 _ _ _ _)
   | (with_reducible exact api_Atom_121_122.mono _ _ _)
   | (with_reducible exact LeO.refl _)
   | (with_reducible exact LeO.none _)
   | (with_reducible refine LeO.ite ?_ ?_)
   | (with_reducible refine LeO.bind ?_ (fun _ => ?_))
   | exact ih0 _ _ _ _
   | exact api_Atom_121_122.mono _ _ _
   | exact LeO.none _
   | refine LeO.ite ?_ ?_
   | refine LeO.bind ?_ (fun _ => ?_)
theorem depends_Right.mono : ∀ a0 k,LeO (depends_Right.f k a0) (depends_Right.f (k + 1) a0) := by
 intro a0 k
 have ih0 := depends_Right.mono_l k
 unfold depends_Right.f
 repeat' first
   | (with_reducible exact ih0 _ _ _ _)
   | (with_reducible exact api_Atom_121_122.mono _ _ _)
   | (with_reducible exact LeO.refl _)
   | (with_reducible exact LeO.none _)
   | (with_reducible refine LeO.ite ?_ ?_)
   | (with_reducible refine LeO.bind ?_ (fun _ => ?_))
   | exact ih0 _ _ _ _
   | exact api_Atom_121_122.mono _ _ _
   | exact LeO.none _
   | refine LeO.ite ?_ ?_
   | refine LeO.bind ?_ (fun _ => ?_)
theorem depends_Right.calls (k : Nat) (A0 : Option Addr) (c0 : Nat) (l0 : List (List (S27))) (r : Bool) (w : World) (hG : GL w) (hr0 : Kd.C (Kd.slice 27 k27) w A0 l0.length l0) (hc0 : l0.length ≤ c0) (h : depends_Right.f k l0 = some r) :
  Calls Tryz.prog 60 #[.slice A0 l0.length c0] w fun e w' => e = .returned (.bool r) ∧ Below w.heap.size w w' := by
 have HR0 := Aside0.mk hr0
 have HC0 := Aside0.mk hc0
 clear hr0 hc0
 have HB := Aside0.mk (Below.refl w.heap.size w)
 have H : (depends_Right.l0 k l0 l0 (l0.length : Int) 0) = some r := h
 clear h
 have H' := Aside0.mk H
 clear H
 go_enter Tryz.func60,Tryz.ntmps60
 go_wp2
 go_loopg [7] k (fun kq v7 w' => ∃ (x7_1 : Int),v7 = .int .i64 x7_1 ∧ Aside0 (depends_Right.l0 kq l0 l0 (l0.length : Int) x7_1 = some r) ∧ Aside0 (kq ≤ k) ∧ Aside0 (Below w.heap.size w w'))
 case atStart => exact ⟨(0),(by first|rfl|(simp;done)|(simp [*];done)|(simp [qam];done)),H',⟨Nat.le_refl _⟩,⟨by repeat (with_reducible first|exact HB.out|apply qab|apply qaa|apply qac)⟩⟩
 case round =>
  clear H'
  obtain ⟨x7_1,rfl,HA,HK1,HB⟩ := hrel
  cases gk with
  | zero => exact absurd HA.out (by simp [depends_Right.l0])
  | succ k1 =>
   have H := HA.out
   clear HA
   simp only [depends_Right.l0] at H
   by_cases c2 : x7_1 < (l0.length : Int)
   ·rw [if_pos c2] at H
    have c2b0 : decide (x7_1 < (l0.length : Int)) = true := decide_eq_true c2
    clear c2
    by_cases c3 : 0 ≤ x7_1
    ·rw [if_pos c3] at H
     have c3b0 : decide (0 ≤ x7_1) = true := decide_eq_true c3
     clear c3
     by_cases c4 : x7_1 < (l0.length : Int)
     ·rw [if_pos c4] at H
      have c4b0 : decide (x7_1 < (l0.length : Int)) = true := decide_eq_true c4
      clear c4
      by_cases c5 : ((rd_L3 l0 x7_1).length : Int) = 0
      ·rw [if_pos c5] at H
       have c5b0 : (((rd_L3 l0 x7_1).length : Int) == 0) = true := beq_iff_eq.mpr c5
       have c5b1 : (((rd_L3 l0 x7_1).length : Int) != 0) = false := bne_eq_false_iff_eq.mpr c5
       clear c5
       obtain rfl := Option.some.inj H
       have p222 : 0 ≤ (x7_1 : Int) := of_decide_eq_true (by assumption)
       have q222 : x7_1 < (l0.length : Int) := of_decide_eq_true (by assumption)
       obtain ⟨ad222,A222_0,c222_0,e222,hx222_0,hl222_0,hi222_0⟩ := at_L3 HR0.out x7_1 p222 q222
       cases e222
       replace hx222_0 := (HB.out.cell (World.block_lt_of_cell? w _ hx222_0)).trans hx222_0
       have HR222_0 := Aside0.mk hi222_0
       have HC222_0 := Aside0.mk hl222_0
       clear hi222_0 hl222_0
       replace p222 := eq_true p222
       replace q222 := eq_true q222
       go_wp2
       go_ret
       exact ⟨by first|rfl|(simp [qaj,qak]<;>rfl)|(simp [*,qaj,qak]<;>rfl),by repeat (with_reducible first|exact HB.out|apply qab|apply qaa|apply qac)⟩
      ·rw [if_neg c5] at H
       have c5b0 : (((rd_L3 l0 x7_1).length : Int) == 0) = false := beq_eq_false_iff_ne.mpr c5
       have c5b1 : (((rd_L3 l0 x7_1).length : Int) != 0) = true := bne_iff_ne.mpr c5
       have c5b2 : ¬ ((rd_L3 l0 x7_1) = []) := fun h_ => c5 (by rw [h_];rfl)
       by_cases c6 : ((rd_L3 l0 x7_1).length : Int) > 6
       ·rw [if_pos c6] at H
        have c6b0 : decide (6 < ((rd_L3 l0 x7_1).length : Int)) = true := decide_eq_true c6
        have c6b1 : decide (6 < (rd_L3 l0 x7_1).length) = true := decide_eq_true (by omega)
        clear c6
        obtain rfl := Option.some.inj H
        have p222 : 0 ≤ (x7_1 : Int) := of_decide_eq_true (by assumption)
        have q222 : x7_1 < (l0.length : Int) := of_decide_eq_true (by assumption)
        obtain ⟨ad222,A222_0,c222_0,e222,hx222_0,hl222_0,hi222_0⟩ := at_L3 HR0.out x7_1 p222 q222
        cases e222
        replace hx222_0 := (HB.out.cell (World.block_lt_of_cell? w _ hx222_0)).trans hx222_0
        have HR222_0 := Aside0.mk hi222_0
        have HC222_0 := Aside0.mk hl222_0
        clear hi222_0 hl222_0
        replace p222 := eq_true p222
        replace q222 := eq_true q222
        go_wp2
        go_ret
        exact ⟨by first|rfl|(simp [qaj,qak]<;>rfl)|(simp [*,qaj,qak]<;>rfl),by repeat (with_reducible first|exact HB.out|apply qab|apply qaa|apply qac)⟩
       ·rw [if_neg c6] at H
        have c6b0 : decide (6 < ((rd_L3 l0 x7_1).length : Int)) = false := decide_eq_false c6
        have c6b1 : decide (6 < (rd_L3 l0 x7_1).length) = false := decide_eq_false (by omega)
        clear c6
        replace H := Option.bind_eq_some_iff.mp H
        obtain ⟨t223,A70,H⟩ := H
        replace H : (if t223 = true then (some false) else (depends_Right.l0 k1 l0 l0 (l0.length : Int) (wrap64 (x7_1 + 1)))) = some r := H
        have A7 := Aside0.mk A70
        clear A70
        by_cases c8 : t223 = true
        ·subst c8
         have H1 : (some false) = some r := by rw [if_pos rfl] at H;exact H
         clear H
         have H := H1
         clear H1
         obtain rfl := Option.some.inj H
         have p222 : 0 ≤ (x7_1 : Int) := of_decide_eq_true (by assumption)
         have q222 : x7_1 < (l0.length : Int) := of_decide_eq_true (by assumption)
         obtain ⟨ad222,A222_0,c222_0,e222,hx222_0,hl222_0,hi222_0⟩ := at_L3 HR0.out x7_1 p222 q222
         cases e222
         replace hx222_0 := (HB.out.cell (World.block_lt_of_cell? w _ hx222_0)).trans hx222_0
         have HR222_0 := Aside0.mk hi222_0
         have HC222_0 := Aside0.mk hl222_0
         clear hi222_0 hl222_0
         replace p222 := eq_true p222
         replace q222 := eq_true q222
         go_wp2_with (first|(go_at_call 121;(with_reducible refine (api_Atom_121_122.calls k1 _ _ (rd_L3 l0 x7_1) 0 true _ (by first|exact hG|exact GL.below hG (by repeat (with_reducible first|exact HB.out|apply qab|apply qaa|apply qac)))  ?side1 ?side2 A7.out).mono ?_);(case side1 => repeat (first|exact (Kd.C_below HR222_0.out HB.out)|(with_reducible refine Kd.C_alloc ?_ _)|(with_reducible refine Kd.C_drewN ?_ _)|(with_reducible refine Kd.C_drew ?_)));(case side2 => exact HC222_0.out);rintro e w9 ⟨rfl,hb⟩;have n0_ := Aside0.mk (qan (by repeat (with_reducible first|exact HB.out|apply qab|apply qaa|apply qac)) hb);clear HB;have HB := n0_;clear n0_;(try clear hb);(try clear hb2);(try clear hk);(try clear hi)))
         go_ret
         exact ⟨by first|rfl|(simp [qaj,qak]<;>rfl)|(simp [*,qaj,qak]<;>rfl),by repeat (with_reducible first|exact HB.out|apply qab|apply qaa|apply qac)⟩
        ·replace c8 := Bool.eq_false_iff.mpr c8
         subst c8
         have H1 : (depends_Right.l0 k1 l0 l0 (l0.length : Int) (wrap64 (x7_1 + 1))) = some r := by rw [if_neg (show ¬ (false = true) by decide)] at H;exact H
         clear H
         have H := H1
         clear H1
         have H' := Aside0.mk H
         clear H
         have p222 : 0 ≤ (x7_1 : Int) := of_decide_eq_true (by assumption)
         have q222 : x7_1 < (l0.length : Int) := of_decide_eq_true (by assumption)
         obtain ⟨ad222,A222_0,c222_0,e222,hx222_0,hl222_0,hi222_0⟩ := at_L3 HR0.out x7_1 p222 q222
         cases e222
         replace hx222_0 := (HB.out.cell (World.block_lt_of_cell? w _ hx222_0)).trans hx222_0
         have HR222_0 := Aside0.mk hi222_0
         have HC222_0 := Aside0.mk hl222_0
         clear hi222_0 hl222_0
         replace p222 := eq_true p222
         replace q222 := eq_true q222
         go_wp2_with (first|(go_at_call 121;(with_reducible refine (api_Atom_121_122.calls k1 _ _ (rd_L3 l0 x7_1) 0 false _ (by first|exact hG|exact GL.below hG (by repeat (with_reducible first|exact HB.out|apply qab|apply qaa|apply qac)))  ?side1 ?side2 A7.out).mono ?_);(case side1 => repeat (first|exact (Kd.C_below HR222_0.out HB.out)|(with_reducible refine Kd.C_alloc ?_ _)|(with_reducible refine Kd.C_drewN ?_ _)|(with_reducible refine Kd.C_drew ?_)));(case side2 => exact HC222_0.out);rintro e w10 ⟨rfl,hb⟩;have n0_ := Aside0.mk (qan (by repeat (with_reducible first|exact HB.out|apply qab|apply qaa|apply qac)) hb);clear HB;have HB := n0_;clear n0_;(try clear hb);(try clear hb2);(try clear hk);(try clear hi)))
         go_roundg k1
         case measure => have := HK1.out;omega
         case rel => exact ⟨(wrap64 (x7_1 + 1)),(by first|rfl|(simp;done)|(simp [*];done)|(simp [qam];done)),H',⟨by have := HK1.out;omega⟩,⟨by repeat (with_reducible first|exact HB.out|apply qab|apply qaa|apply qac)⟩⟩
     ·rw [if_neg c4] at H
      exact absurd H (by simp)
    ·rw [if_neg c3] at H
     exact absurd H (by simp)
   ·rw [if_neg c2] at H
    have c2b0 : decide (x7_1 < (l0.length : Int)) = false := decide_eq_false c2
    clear c2
    obtain rfl := Option.some.inj H
    go_wp2
    go_ret
    exact ⟨by first|rfl|(simp [qaj,qak]<;>rfl)|(simp [*,qaj,qak]<;>rfl),by repeat (with_reducible first|exact HB.out|apply qab|apply qaa|apply qac)⟩
def entry_given.f (a0_0 : ByteArray) (a0_1 : Int) (a0_2 : ByteArray) : Option (Bool) := if a0_1 = 0 then (some true) else (some (a0_1 == 3))
theorem entry_given.calls (a0_0 : ByteArray) (a0_1 : Int) (a0_2 : ByteArray) (r : Bool) (w : World) (hG : GL w) (h : entry_given.f a0_0 a0_1 a0_2 = some r) :
  Calls Tryz.prog 63 #[.agg #[.string a0_0,.int .i64 a0_1,.string a0_2]] w fun e w' => e = .returned (.bool r) ∧ Below w.heap.size w w' := by
 have hu27 := Tryz.underlying27
 have HB := Aside0.mk (Below.refl w.heap.size w)
 have H : (if a0_1 = 0 then (some true) else (some (a0_1 == 3))) = some r := h
 clear h
 by_cases c2 : a0_1 = 0
 ·rw [if_pos c2] at H
  have c2b0 : (a0_1 == 0) = true := beq_iff_eq.mpr c2
  have c2b1 : (a0_1 != 0) = false := bne_eq_false_iff_eq.mpr c2
  clear c2
  obtain rfl := Option.some.inj H
  go_enter Tryz.func63,Tryz.ntmps63
  go_wp2_with (first|((with_reducible refine gate_dst (N := 1) rfl ?_);refine box_event ?hg (N := 1) ?hd (cs := #[.string a0_0,.int .i64 a0_1,.string a0_2]) (t := 27) ?hr ?_;(case hd => rfl);(case hg => rfl);(case hr => first|(go_simp;done)|(go_simp;rfl));intro gb225 hg w3 hbox hb;have n0_ := Aside0.mk (qan (by repeat (with_reducible first|exact HB.out|apply qab|apply qaa|apply qac)) hb);have n1_ := Aside0.mk (hbox);have n2_ := Aside0.mk ((by rw [hg];exact (qao (by repeat (with_reducible first|exact HB.out|apply qab|apply qaa|apply qac))) : w.heap.size ≤ gb225));have n3_ := Aside0.mk ((by rw [hg];exact (qao (by repeat (with_reducible first|exact HB.out|apply qab|apply qaa|apply qac))) : w.heap.size ≤ gb225));clear HB;have HB := n0_;have BK225 := n1_;have GW225 := n2_;have GE225 := n3_;clear n0_ n1_ n2_ n3_;clear hb hbox hg;have hcz4_0 : w3.cell? ⟨gb225,0,none⟩ = some (.string a0_0) := (qae BK225.out 0).trans rfl;have hcz4_1 : w3.cell? ⟨gb225,1,none⟩ = some (.int .i64 a0_1) := (qae BK225.out 1).trans rfl;have hcz4_2 : w3.cell? ⟨gb225,2,none⟩ = some (.string a0_2) := (qae BK225.out 2).trans rfl;have hfz4_0 := qad BK225.out 0;have hfz4_1 := qad BK225.out 1;have hfz4_2 := qad BK225.out 2))
  go_ret
  exact ⟨by first|rfl|(simp [qaj,qak]<;>rfl)|(simp [*,qaj,qak]<;>rfl),by repeat (first|(with_reducible first|exact HB.out|apply qab|apply qaa|apply qac|refine qaf ?_ GE225.out)|exact HB.out)⟩
 ·rw [if_neg c2] at H
  have c2b0 : (a0_1 == 0) = false := beq_eq_false_iff_ne.mpr c2
  have c2b1 : (a0_1 != 0) = true := bne_iff_ne.mpr c2
  obtain rfl := Option.some.inj H
  go_enter Tryz.func63,Tryz.ntmps63
  go_wp2_with (first|((with_reducible refine gate_dst (N := 1) rfl ?_);refine box_event ?hg (N := 1) ?hd (cs := #[.string a0_0,.int .i64 a0_1,.string a0_2]) (t := 27) ?hr ?_;(case hd => rfl);(case hg => rfl);(case hr => first|(go_simp;done)|(go_simp;rfl));intro gb225 hg w5 hbox hb;have n0_ := Aside0.mk (qan (by repeat (with_reducible first|exact HB.out|apply qab|apply qaa|apply qac)) hb);have n1_ := Aside0.mk (hbox);have n2_ := Aside0.mk ((by rw [hg];exact (qao (by repeat (with_reducible first|exact HB.out|apply qab|apply qaa|apply qac))) : w.heap.size ≤ gb225));have n3_ := Aside0.mk ((by rw [hg];exact (qao (by repeat (with_reducible first|exact HB.out|apply qab|apply qaa|apply qac))) : w.heap.size ≤ gb225));clear HB;have HB := n0_;have BK225 := n1_;have GW225 := n2_;have GE225 := n3_;clear n0_ n1_ n2_ n3_;clear hb hbox hg;have hcz6_0 : w5.cell? ⟨gb225,0,none⟩ = some (.string a0_0) := (qae BK225.out 0).trans rfl;have hcz6_1 : w5.cell? ⟨gb225,1,none⟩ = some (.int .i64 a0_1) := (qae BK225.out 1).trans rfl;have hcz6_2 : w5.cell? ⟨gb225,2,none⟩ = some (.string a0_2) := (qae BK225.out 2).trans rfl;have hfz6_0 := qad BK225.out 0;have hfz6_1 := qad BK225.out 1;have hfz6_2 := qad BK225.out 2))
  go_ret
  exact ⟨by first|rfl|(simp [qaj,qak]<;>rfl)|(simp [*,qaj,qak]<;>rfl),by repeat (first|(with_reducible first|exact HB.out|apply qab|apply qaa|apply qac|refine qaf ?_ GE225.out)|exact HB.out)⟩
def relation_Print.f (k : Nat) (a0_0 : ByteArray) (a0_1 : Int) (a0_2 : ByteArray) : Option (ByteArray) := (relation_Right.f k a0_0 a0_1 a0_2).bind fun t232 => (if t232 = true then (if a0_1 = 0 then (some a0_0) else (if a0_0.size + 2 ≤ 9223372036854775807 then ((relation_Sign.f a0_1).bind fun t233 => (if (a0_0 ++ (⟨#[32,40]⟩ : ByteArray)).size + t233.size ≤ 9223372036854775807 then (if ((a0_0 ++ (⟨#[32,40]⟩ : ByteArray)) ++ t233).size + 1 ≤ 9223372036854775807 then (if (((a0_0 ++ (⟨#[32,40]⟩ : ByteArray)) ++ t233) ++ (⟨#[32]⟩ : ByteArray)).size + a0_2.size ≤ 9223372036854775807 then (if ((((a0_0 ++ (⟨#[32,40]⟩ : ByteArray)) ++ t233) ++ (⟨#[32]⟩ : ByteArray)) ++ a0_2).size + 1 ≤ 9223372036854775807 then (some (((((a0_0 ++ (⟨#[32,40]⟩ : ByteArray)) ++ t233) ++ (⟨#[32]⟩ : ByteArray)) ++ a0_2) ++ (⟨#[41]⟩ : ByteArray))) else (none)) else (none)) else (none)) else (none))) else (none))) else (some (⟨#[]⟩ : ByteArray)))
theorem relation_Print.mono : ∀ a0 a1 a2 k,LeO (relation_Print.f k a0 a1 a2) (relation_Print.f (k + 1) a0 a1 a2) := by
 intro a0 a1 a2 k
 unfold relation_Print.f
 repeat' first
   | (with_reducible exact relation_Right.mono _ _ _ _)
   | (with_reducible exact LeO.refl _)
   | (with_reducible exact LeO.none _)
   | (with_reducible refine LeO.ite ?_ ?_)
   | (with_reducible refine LeO.bind ?_ (fun _ => ?_))
   | exact relation_Right.mono _ _ _ _
   | exact LeO.none _
   | refine LeO.ite ?_ ?_
   | refine LeO.bind ?_ (fun _ => ?_)
def relation_Print.T5 : Bool × List (List Nat × List Nat) := (true,[([],[]),([0],[0]),([1],[1]),([],[]),([3],[3]),([4],[4]),([2,5],[2,5]),([6],[6]),([],[]),([8],[8]),([7,9],[7,9]),([10],[10]),([11,5,0,1,2,3,4,5,6,7,8,9,10,11],[11])])
def relation_Print.B5 : List Nat := [0,1,3,0,8,24,63,127,0,256,1023,2047,4095]
theorem relation_Print.tab5 : rtab .any (opsOf Tryz.f129 5) = relation_Print.T5 := by kernel_rfl
theorem relation_Print.bits5 : waitsOk relation_Print.T5.2 relation_Print.B5 = true := by kernel_rfl
theorem relation_Print.calls (k : Nat) (a0_0 : ByteArray) (a0_1 : Int) (a0_2 : ByteArray) (r : ByteArray) (w : World) (hG : GL w) (h : relation_Print.f k a0_0 a0_1 a0_2 = some r) :
  Calls Tryz.prog 129 #[.agg #[.string a0_0,.int .i64 a0_1,.string a0_2]] w fun e w' => e = .returned (.string r) ∧ Below w.heap.size w w' := by
 have hu27 := Tryz.underlying27
 have HB := Aside0.mk (Below.refl w.heap.size w)
 have H : ((relation_Right.f k a0_0 a0_1 a0_2).bind fun t232 => (if t232 = true then (if a0_1 = 0 then (some a0_0) else (if a0_0.size + 2 ≤ 9223372036854775807 then ((relation_Sign.f a0_1).bind fun t233 => (if (a0_0 ++ (⟨#[32,40]⟩ : ByteArray)).size + t233.size ≤ 9223372036854775807 then (if ((a0_0 ++ (⟨#[32,40]⟩ : ByteArray)) ++ t233).size + 1 ≤ 9223372036854775807 then (if (((a0_0 ++ (⟨#[32,40]⟩ : ByteArray)) ++ t233) ++ (⟨#[32]⟩ : ByteArray)).size + a0_2.size ≤ 9223372036854775807 then (if ((((a0_0 ++ (⟨#[32,40]⟩ : ByteArray)) ++ t233) ++ (⟨#[32]⟩ : ByteArray)) ++ a0_2).size + 1 ≤ 9223372036854775807 then (some (((((a0_0 ++ (⟨#[32,40]⟩ : ByteArray)) ++ t233) ++ (⟨#[32]⟩ : ByteArray)) ++ a0_2) ++ (⟨#[41]⟩ : ByteArray))) else (none)) else (none)) else (none)) else (none))) else (none))) else (some (⟨#[]⟩ : ByteArray)))) = some r := h
 clear h
 replace H := Option.bind_eq_some_iff.mp H
 obtain ⟨t232,A20,H⟩ := H
 replace H : (if t232 = true then (if a0_1 = 0 then (some a0_0) else (if a0_0.size + 2 ≤ 9223372036854775807 then ((relation_Sign.f a0_1).bind fun t233 => (if (a0_0 ++ (⟨#[32,40]⟩ : ByteArray)).size + t233.size ≤ 9223372036854775807 then (if ((a0_0 ++ (⟨#[32,40]⟩ : ByteArray)) ++ t233).size + 1 ≤ 9223372036854775807 then (if (((a0_0 ++ (⟨#[32,40]⟩ : ByteArray)) ++ t233) ++ (⟨#[32]⟩ : ByteArray)).size + a0_2.size ≤ 9223372036854775807 then (if ((((a0_0 ++ (⟨#[32,40]⟩ : ByteArray)) ++ t233) ++ (⟨#[32]⟩ : ByteArray)) ++ a0_2).size + 1 ≤ 9223372036854775807 then (some (((((a0_0 ++ (⟨#[32,40]⟩ : ByteArray)) ++ t233) ++ (⟨#[32]⟩ : ByteArray)) ++ a0_2) ++ (⟨#[41]⟩ : ByteArray))) else (none)) else (none)) else (none)) else (none))) else (none))) else (some (⟨#[]⟩ : ByteArray))) = some r := H
 have A2 := Aside0.mk A20
 clear A20
 by_cases c3 : t232 = true
 ·subst c3
  have H1 : (if a0_1 = 0 then (some a0_0) else (if a0_0.size + 2 ≤ 9223372036854775807 then ((relation_Sign.f a0_1).bind fun t233 => (if (a0_0 ++ (⟨#[32,40]⟩ : ByteArray)).size + t233.size ≤ 9223372036854775807 then (if ((a0_0 ++ (⟨#[32,40]⟩ : ByteArray)) ++ t233).size + 1 ≤ 9223372036854775807 then (if (((a0_0 ++ (⟨#[32,40]⟩ : ByteArray)) ++ t233) ++ (⟨#[32]⟩ : ByteArray)).size + a0_2.size ≤ 9223372036854775807 then (if ((((a0_0 ++ (⟨#[32,40]⟩ : ByteArray)) ++ t233) ++ (⟨#[32]⟩ : ByteArray)) ++ a0_2).size + 1 ≤ 9223372036854775807 then (some (((((a0_0 ++ (⟨#[32,40]⟩ : ByteArray)) ++ t233) ++ (⟨#[32]⟩ : ByteArray)) ++ a0_2) ++ (⟨#[41]⟩ : ByteArray))) else (none)) else (none)) else (none)) else (none))) else (none))) = some r := by rw [if_pos rfl] at H;exact H
  clear H
  have H := H1
  clear H1
  by_cases c4 : a0_1 = 0
  ·rw [if_pos c4] at H
   have c4b0 : (a0_1 == 0) = true := beq_iff_eq.mpr c4
   have c4b1 : (a0_1 != 0) = false := bne_eq_false_iff_eq.mpr c4
   clear c4
   obtain rfl := Option.some.inj H
   go_enter Tryz.func129,Tryz.ntmps129
   go_wp2_with (first|((with_reducible refine gate_dst (N := 1) rfl ?_);refine box_event ?hg (N := 1) ?hd (cs := #[.string a0_0,.int .i64 a0_1,.string a0_2]) (t := 27) ?hr ?_;(case hd => rfl);(case hg => rfl);(case hr => first|(go_simp;done)|(go_simp;rfl));intro gb231 hg w5 hbox hb;have n0_ := Aside0.mk (qan (by repeat (with_reducible first|exact HB.out|apply qab|apply qaa|apply qac)) hb);have n1_ := Aside0.mk (hbox);have n2_ := Aside0.mk ((by rw [hg];exact (qao (by repeat (with_reducible first|exact HB.out|apply qab|apply qaa|apply qac))) : w.heap.size ≤ gb231));have n3_ := Aside0.mk ((by rw [hg];exact (qao (by repeat (with_reducible first|exact HB.out|apply qab|apply qaa|apply qac))) : w.heap.size ≤ gb231));clear HB;have HB := n0_;have BK231 := n1_;have GW231 := n2_;have GE231 := n3_;clear n0_ n1_ n2_ n3_;clear hb hbox hg;have hcz6_0 : w5.cell? ⟨gb231,0,none⟩ = some (.string a0_0) := (qae BK231.out 0).trans rfl;have hcz6_1 : w5.cell? ⟨gb231,1,none⟩ = some (.int .i64 a0_1) := (qae BK231.out 1).trans rfl;have hcz6_2 : w5.cell? ⟨gb231,2,none⟩ = some (.string a0_2) := (qae BK231.out 2).trans rfl;have hfz6_0 := qad BK231.out 0;have hfz6_1 := qad BK231.out 1;have hfz6_2 := qad BK231.out 2)|((with_reducible refine qal (f := 62) rfl ?_);refine goesL_ (some 5) rfl rfl Tryz.func62 (by kernel_rfl) rfl #[.agg #[.string a0_0,.int .i64 a0_1,.string a0_2]] rfl (by first|rfl|(simp only [List.map_toArray,List.map_cons,List.map_nil,List.length_drop,List.length_take];rfl)|simp only [List.map_toArray,List.map_cons,List.map_nil]) ?_;(with_reducible refine (relation_Right.calls k a0_0 a0_1 a0_2 true _ (by first|exact hG|exact GL.below hG (by repeat (first|(with_reducible first|exact HB.out|apply qab|apply qaa|apply qac|refine qaf ?_ GE231.out)|exact HB.out)))  A2.out).mono ?_);rintro e w7 ⟨rfl,hb⟩;refine ⟨_,rfl,?_⟩;have n0_ := Aside0.mk (qaq (g := gb231) (o := .cells #[.string a0_0,.int .i64 a0_1,.string a0_2] 27 (0,0)) (by (with_reducible repeat (first|refine qah ?_ _|refine qai ?_|refine qag ?_ _));exact BK231.out) hb);have n1_ := Aside0.mk (qan (by repeat (first|(with_reducible first|exact HB.out|apply qab|apply qaa|apply qac|refine qaf ?_ GE231.out)|exact HB.out)) hb);clear BK231;clear HB;have BK231 := n0_;have HB := n1_;clear n0_ n1_;(try clear hb);(try clear hb2);(try clear hk);(try clear hi);have hcz8_0 : w7.cell? ⟨gb231,0,none⟩ = some (.string a0_0) := (qae BK231.out 0).trans rfl;have hcz8_1 : w7.cell? ⟨gb231,1,none⟩ = some (.int .i64 a0_1) := (qae BK231.out 1).trans rfl;have hcz8_2 : w7.cell? ⟨gb231,2,none⟩ = some (.string a0_2) := (qae BK231.out 2).trans rfl;have hfz8_0 := qad BK231.out 0;have hfz8_1 := qad BK231.out 1;have hfz8_2 := qad BK231.out 2))
   go_ret
   exact ⟨by first|rfl|(simp [qaj,qak]<;>rfl)|(simp [*,qaj,qak]<;>rfl),by repeat (first|(with_reducible first|exact HB.out|apply qab|apply qaa|apply qac|refine qaf ?_ GE231.out)|exact HB.out)⟩
  ·rw [if_neg c4] at H
   have c4b0 : (a0_1 == 0) = false := beq_eq_false_iff_ne.mpr c4
   have c4b1 : (a0_1 != 0) = true := bne_iff_ne.mpr c4
   by_cases c9 : a0_0.size + 2 ≤ 9223372036854775807
   ·rw [if_pos c9] at H
    have c9b0 := eq_true c9
    have c9b1 : decide (a0_0.size + 2 ≤ 9223372036854775807) = true := decide_eq_true c9
    try have c9b2 : (9223372036854775807 < a0_0.size + 2) = False := eq_false (Nat.not_lt.2 c9)
    replace H := Option.bind_eq_some_iff.mp H
    obtain ⟨t233,A100,H⟩ := H
    replace H : (if (a0_0 ++ (⟨#[32,40]⟩ : ByteArray)).size + t233.size ≤ 9223372036854775807 then (if ((a0_0 ++ (⟨#[32,40]⟩ : ByteArray)) ++ t233).size + 1 ≤ 9223372036854775807 then (if (((a0_0 ++ (⟨#[32,40]⟩ : ByteArray)) ++ t233) ++ (⟨#[32]⟩ : ByteArray)).size + a0_2.size ≤ 9223372036854775807 then (if ((((a0_0 ++ (⟨#[32,40]⟩ : ByteArray)) ++ t233) ++ (⟨#[32]⟩ : ByteArray)) ++ a0_2).size + 1 ≤ 9223372036854775807 then (some (((((a0_0 ++ (⟨#[32,40]⟩ : ByteArray)) ++ t233) ++ (⟨#[32]⟩ : ByteArray)) ++ a0_2) ++ (⟨#[41]⟩ : ByteArray))) else (none)) else (none)) else (none)) else (none)) = some r := H
    have A10 := Aside0.mk A100
    clear A100
    by_cases c11 : (a0_0 ++ (⟨#[32,40]⟩ : ByteArray)).size + t233.size ≤ 9223372036854775807
    ·rw [if_pos c11] at H
     have c11b0 := eq_true c11
     have c11b1 : decide ((a0_0 ++ (⟨#[32,40]⟩ : ByteArray)).size + t233.size ≤ 9223372036854775807) = true := decide_eq_true c11
     try have c11b2 : (9223372036854775807 < (a0_0 ++ (⟨#[32,40]⟩ : ByteArray)).size + t233.size) = False := eq_false (Nat.not_lt.2 c11)
     (try (have c11n := c11;simp only [ByteArray.size_append,size_of_lit,List.size_toArray,List.length_cons,List.length_nil,Nat.zero_add,Nat.reduceAdd] at c11n;have c11n1 := eq_false (Nat.not_lt.2 c11n)))
     by_cases c12 : ((a0_0 ++ (⟨#[32,40]⟩ : ByteArray)) ++ t233).size + 1 ≤ 9223372036854775807
     ·rw [if_pos c12] at H
      have c12b0 := eq_true c12
      have c12b1 : decide (((a0_0 ++ (⟨#[32,40]⟩ : ByteArray)) ++ t233).size + 1 ≤ 9223372036854775807) = true := decide_eq_true c12
      try have c12b2 : (9223372036854775807 < ((a0_0 ++ (⟨#[32,40]⟩ : ByteArray)) ++ t233).size + 1) = False := eq_false (Nat.not_lt.2 c12)
      (try (have c12n := c12;simp only [ByteArray.size_append,size_of_lit,List.size_toArray,List.length_cons,List.length_nil,Nat.zero_add,Nat.reduceAdd] at c12n;have c12n1 := eq_false (Nat.not_lt.2 c12n)))
      by_cases c13 : (((a0_0 ++ (⟨#[32,40]⟩ : ByteArray)) ++ t233) ++ (⟨#[32]⟩ : ByteArray)).size + a0_2.size ≤ 9223372036854775807
      ·rw [if_pos c13] at H
       have c13b0 := eq_true c13
       have c13b1 : decide ((((a0_0 ++ (⟨#[32,40]⟩ : ByteArray)) ++ t233) ++ (⟨#[32]⟩ : ByteArray)).size + a0_2.size ≤ 9223372036854775807) = true := decide_eq_true c13
       try have c13b2 : (9223372036854775807 < (((a0_0 ++ (⟨#[32,40]⟩ : ByteArray)) ++ t233) ++ (⟨#[32]⟩ : ByteArray)).size + a0_2.size) = False := eq_false (Nat.not_lt.2 c13)
       (try (have c13n := c13;simp only [ByteArray.size_append,size_of_lit,List.size_toArray,List.length_cons,List.length_nil,Nat.zero_add,Nat.reduceAdd] at c13n;have c13n1 := eq_false (Nat.not_lt.2 c13n)))
       by_cases c14 : ((((a0_0 ++ (⟨#[32,40]⟩ : ByteArray)) ++ t233) ++ (⟨#[32]⟩ : ByteArray)) ++ a0_2).size + 1 ≤ 9223372036854775807
       ·rw [if_pos c14] at H
        have c14b0 := eq_true c14
        have c14b1 : decide (((((a0_0 ++ (⟨#[32,40]⟩ : ByteArray)) ++ t233) ++ (⟨#[32]⟩ : ByteArray)) ++ a0_2).size + 1 ≤ 9223372036854775807) = true := decide_eq_true c14
        try have c14b2 : (9223372036854775807 < ((((a0_0 ++ (⟨#[32,40]⟩ : ByteArray)) ++ t233) ++ (⟨#[32]⟩ : ByteArray)) ++ a0_2).size + 1) = False := eq_false (Nat.not_lt.2 c14)
        (try (have c14n := c14;simp only [ByteArray.size_append,size_of_lit,List.size_toArray,List.length_cons,List.length_nil,Nat.zero_add,Nat.reduceAdd] at c14n;have c14n1 := eq_false (Nat.not_lt.2 c14n)))
        obtain rfl := Option.some.inj H
        go_enter Tryz.func129,Tryz.ntmps129
        try go_wp2_with (first|((with_reducible refine gate_dst (N := 1) rfl ?_);refine box_event ?hg (N := 1) ?hd (cs := #[.string a0_0,.int .i64 a0_1,.string a0_2]) (t := 27) ?hr ?_;(case hd => rfl);(case hg => rfl);(case hr => first|(go_simp;done)|(go_simp;rfl));intro gb231 hg w15 hbox hb;have n0_ := Aside0.mk (qan (by repeat (with_reducible first|exact HB.out|apply qab|apply qaa|apply qac)) hb);have n1_ := Aside0.mk (hbox);have n2_ := Aside0.mk ((by rw [hg];exact (qao (by repeat (with_reducible first|exact HB.out|apply qab|apply qaa|apply qac))) : w.heap.size ≤ gb231));have n3_ := Aside0.mk ((by rw [hg];exact (qao (by repeat (with_reducible first|exact HB.out|apply qab|apply qaa|apply qac))) : w.heap.size ≤ gb231));clear HB;have HB := n0_;have BK231 := n1_;have GW231 := n2_;have GE231 := n3_;clear n0_ n1_ n2_ n3_;clear hb hbox hg;have hcz16_0 : w15.cell? ⟨gb231,0,none⟩ = some (.string a0_0) := (qae BK231.out 0).trans rfl;have hcz16_1 : w15.cell? ⟨gb231,1,none⟩ = some (.int .i64 a0_1) := (qae BK231.out 1).trans rfl;have hcz16_2 : w15.cell? ⟨gb231,2,none⟩ = some (.string a0_2) := (qae BK231.out 2).trans rfl;have hfz16_0 := qad BK231.out 0;have hfz16_1 := qad BK231.out 1;have hfz16_2 := qad BK231.out 2)|((with_reducible refine qal (f := 62) rfl ?_);refine goesL_ (some 5) rfl rfl Tryz.func62 (by kernel_rfl) rfl #[.agg #[.string a0_0,.int .i64 a0_1,.string a0_2]] rfl (by first|rfl|(simp only [List.map_toArray,List.map_cons,List.map_nil,List.length_drop,List.length_take];rfl)|simp only [List.map_toArray,List.map_cons,List.map_nil]) ?_;(with_reducible refine (relation_Right.calls k a0_0 a0_1 a0_2 true _ (by first|exact hG|exact GL.below hG (by repeat (first|(with_reducible first|exact HB.out|apply qab|apply qaa|apply qac|refine qaf ?_ GE231.out)|exact HB.out)))  A2.out).mono ?_);rintro e w17 ⟨rfl,hb⟩;refine ⟨_,rfl,?_⟩;have n0_ := Aside0.mk (qaq (g := gb231) (o := .cells #[.string a0_0,.int .i64 a0_1,.string a0_2] 27 (0,0)) (by (with_reducible repeat (first|refine qah ?_ _|refine qai ?_|refine qag ?_ _));exact BK231.out) hb);have n1_ := Aside0.mk (qan (by repeat (first|(with_reducible first|exact HB.out|apply qab|apply qaa|apply qac|refine qaf ?_ GE231.out)|exact HB.out)) hb);clear BK231;clear HB;have BK231 := n0_;have HB := n1_;clear n0_ n1_;(try clear hb);(try clear hb2);(try clear hk);(try clear hi);have hcz18_0 : w17.cell? ⟨gb231,0,none⟩ = some (.string a0_0) := (qae BK231.out 0).trans rfl;have hcz18_1 : w17.cell? ⟨gb231,1,none⟩ = some (.int .i64 a0_1) := (qae BK231.out 1).trans rfl;have hcz18_2 : w17.cell? ⟨gb231,2,none⟩ = some (.string a0_2) := (qae BK231.out 2).trans rfl;have hfz18_0 := qad BK231.out 0;have hfz18_1 := qad BK231.out 1;have hfz18_2 := qad BK231.out 2))
        have n0_ := Aside0.mk (qai BK231.out)
        have n1_ := Aside0.mk (qac HB.out)
        clear BK231
        clear HB
        have BK231 := n0_
        have HB := n1_
        clear n0_ n1_
        refine start_ (n := 13) (S := fun w' => w'.cell? ⟨gb231,0,none⟩ = some (.string a0_0) ∧ w'.cell? ⟨gb231,1,none⟩ = some (.int .i64 a0_1) ∧ w'.cell? ⟨gb231,2,none⟩ = some (.string a0_2)) (ds := []) #[false,false,false,false,false,false,false,false,false,false,false,false,false] (by kernel_rfl) rfl rfl ⟨(qae BK231.out 0).trans rfl,(qae BK231.out 1).trans rfl,(qae BK231.out 2).trans rfl⟩ (fun hHeld => ?_);refine with_tabW relation_Print.tab5 relation_Print.bits5 (fun HT_ HW_ => ?_)
        generalize w17.drew = w19 at BK231 HB hHeld ⊢
        refine pure_ (i := 0) (N := some 13) (v := ?_) (a' := ?_) #[true,false,false,false,false,false,false,false,false,false,false,false,false] rfl rfl (any_of HT_.out (by kernel_rfl)) (fun _ _ _ h => h) (Or.inl ⟨by rfl,?_⟩) ?_ ?_
        rotate_left
        ·intro w'
         go_simp
         with_reducible rfl
        rotate_left
        ·simp only [Act.put,List.setIfInBounds_toArray,List.set_cons_zero,List.set_cons_succ,i64_w,i32_w]
         rfl
        refine pure_ (i := 3) (N := some 16) (v := ?_) (a' := ?_) #[true,false,false,true,false,false,false,false,false,false,false,false,false] rfl rfl (any_of HT_.out (by kernel_rfl)) (fun _ _ _ h => h) (Or.inl ⟨by rfl,?_⟩) ?_ ?_
        rotate_left
        ·intro w'
         go_simp
         with_reducible rfl
        rotate_left
        ·simp only [Act.put,List.setIfInBounds_toArray,List.set_cons_zero,List.set_cons_succ,i64_w,i32_w]
         rfl
        refine pure_ (i := 8) (N := some 21) (v := ?_) (a' := ?_) #[true,false,false,true,false,false,false,false,true,false,false,false,false] rfl rfl (any_of HT_.out (by kernel_rfl)) (fun _ _ _ h => h) (Or.inl ⟨by rfl,?_⟩) ?_ ?_
        rotate_left
        ·intro w'
         go_simp
         with_reducible rfl
        rotate_left
        ·simp only [Act.put,List.setIfInBounds_toArray,List.set_cons_zero,List.set_cons_succ,i64_w,i32_w]
         rfl
        refine take_ (i := 1) (N := some 14) (v := ?_) (a' := ?_) #[true,true,false,true,false,false,false,false,true,false,false,false,false] rfl rfl (take_ofW HT_.out HW_.out (by kernel_rfl)) (fun _ _ _ h => h) (Or.inl ⟨by rfl,?_⟩) hHeld ?_ ?_
        rotate_left
        ·rintro w' ⟨s0,s1,s2⟩
         go_simp
         with_reducible rfl
        rotate_left
        ·simp only [Act.put,List.setIfInBounds_toArray,List.set_cons_zero,List.set_cons_succ,i64_w,i32_w]
         rfl
        refine pure_ (i := 2) (N := some 15) (v := ?_) (a' := ?_) #[true,true,true,true,false,false,false,false,true,false,false,false,false] rfl rfl (any_of HT_.out (by kernel_rfl)) (fun _ _ _ h => h) (Or.inl ⟨by rfl,?_⟩) ?_ ?_
        rotate_left
        ·intro w'
         go_simp
         with_reducible rfl
        rotate_left
        ·simp only [Act.put,List.setIfInBounds_toArray,List.set_cons_zero,List.set_cons_succ,i64_w,i32_w]
         rfl
        refine take_ (i := 4) (N := some 17) (v := ?_) (a' := ?_) #[true,true,true,true,true,false,false,false,true,false,false,false,false] rfl rfl (take_ofW HT_.out HW_.out (by kernel_rfl)) (fun _ _ _ h => h) (Or.inl ⟨by rfl,?_⟩) hHeld ?_ ?_
        rotate_left
        ·rintro w' ⟨s0,s1,s2⟩
         go_simp
         with_reducible rfl
        rotate_left
        ·simp only [Act.put,List.setIfInBounds_toArray,List.set_cons_zero,List.set_cons_succ,i64_w,i32_w]
         rfl
        refine take_ (i := 9) (N := some 22) (v := ?_) (a' := ?_) #[true,true,true,true,true,false,false,false,true,true,false,false,false] rfl rfl (take_ofW HT_.out HW_.out (by kernel_rfl)) (fun _ _ _ h => h) (Or.inl ⟨by rfl,?_⟩) hHeld ?_ ?_
        rotate_left
        ·rintro w' ⟨s0,s1,s2⟩
         go_simp
         with_reducible rfl
        rotate_left
        ·simp only [Act.put,List.setIfInBounds_toArray,List.set_cons_zero,List.set_cons_succ,i64_w,i32_w]
         rfl
        refine one_ (i := 5) (N := some 18) #[true,true,true,true,true,true,false,false,true,true,false,false,false] rfl rfl (one_of HT_.out (by kernel_rfl)) (by decide) (fun K hK => ?_)
        refine goes_ Tryz.func184 (by kernel_rfl) rfl #[.int .i64 a0_1] (by rfl) rfl rfl (by first|rfl|(simp only [List.map_toArray,List.map_cons,List.map_nil,List.length_drop,List.length_take];rfl)|simp only [List.map_toArray,List.map_cons,List.map_nil]) ?_
        with_reducible refine (relation_Sign.calls a0_1 t233 _ (by first|exact hG|exact GL.below hG (by repeat (first|(with_reducible first|exact HB.out|apply qab|apply qaa|apply qac|refine qaf ?_ GE231.out)|exact HB.out)))  A10.out).mono ?_
        rintro e w20 ⟨rfl,hb⟩
        refine ⟨_,rfl,?_⟩
        have n0_ := Aside0.mk (qaq (g := gb231) (o := .cells #[.string a0_0,.int .i64 a0_1,.string a0_2] 27 (0,0)) (by (with_reducible repeat (first|refine qah ?_ _|refine qai ?_|refine qag ?_ _));exact BK231.out) hb)
        have n1_ := Aside0.mk (qan (by repeat (first|(with_reducible first|exact HB.out|apply qab|apply qaa|apply qac|refine qaf ?_ GE231.out)|exact HB.out)) hb)
        clear BK231
        clear HB
        have BK231 := n0_
        have HB := n1_
        clear n0_ n1_
        (try clear hb)
        (try clear hb2)
        (try clear hk)
        (try clear hi)
        refine hK.out _ _ ⟨(qae BK231.out 0).trans rfl,(qae BK231.out 1).trans rfl,(qae BK231.out 2).trans rfl⟩ (fun hHeld => ?_)
        clear hK K
        refine norm_ (a' := ?_) ?_ ?_
        rotate_left
        ·show Act.put _ (some 18) _ = _
         simp only [Act.put,List.setIfInBounds_toArray,List.set_cons_zero,List.set_cons_succ,i64_w,i32_w]
         rfl
        refine pure_ (i := 6) (N := some 19) (v := ?_) (a' := ?_) #[true,true,true,true,true,true,true,false,true,true,false,false,false] rfl rfl (any_of HT_.out (by kernel_rfl)) (fun _ _ _ h => h) (Or.inl ⟨by rfl,?_⟩) ?_ ?_
        rotate_left
        ·intro w'
         go_simp
         with_reducible rfl
        rotate_left
        ·simp only [Act.put,List.setIfInBounds_toArray,List.set_cons_zero,List.set_cons_succ,i64_w,i32_w]
         rfl
        refine pure_ (i := 7) (N := some 20) (v := ?_) (a' := ?_) #[true,true,true,true,true,true,true,true,true,true,false,false,false] rfl rfl (any_of HT_.out (by kernel_rfl)) (fun _ _ _ h => h) (Or.inl ⟨by rfl,?_⟩) ?_ ?_
        rotate_left
        ·intro w'
         go_simp
         with_reducible rfl
        rotate_left
        ·simp only [Act.put,List.setIfInBounds_toArray,List.set_cons_zero,List.set_cons_succ,i64_w,i32_w]
         rfl
        refine pure_ (i := 10) (N := some 23) (v := ?_) (a' := ?_) #[true,true,true,true,true,true,true,true,true,true,true,false,false] rfl rfl (any_of HT_.out (by kernel_rfl)) (fun _ _ _ h => h) (Or.inl ⟨by rfl,?_⟩) ?_ ?_
        rotate_left
        ·intro w'
         go_simp
         with_reducible rfl
        rotate_left
        ·simp only [Act.put,List.setIfInBounds_toArray,List.set_cons_zero,List.set_cons_succ,i64_w,i32_w]
         rfl
        refine pure_ (i := 11) (N := some 24) (v := ?_) (a' := ?_) #[true,true,true,true,true,true,true,true,true,true,true,true,false] rfl rfl (any_of HT_.out (by kernel_rfl)) (fun _ _ _ h => h) (Or.inl ⟨by rfl,?_⟩) ?_ ?_
        rotate_left
        ·intro w'
         go_simp
         with_reducible rfl
        rotate_left
        ·simp only [Act.put,List.setIfInBounds_toArray,List.set_cons_zero,List.set_cons_succ,i64_w,i32_w]
         rfl
        refine pure_ (i := 12) (N := some 2) (v := ?_) (a' := ?_) #[true,true,true,true,true,true,true,true,true,true,true,true,true] rfl rfl (any_of HT_.out (by kernel_rfl)) (fun _ _ _ h => h) (Or.inl ⟨by rfl,?_⟩) ?_ ?_
        rotate_left
        ·intro w'
         go_simp
         with_reducible rfl
        rotate_left
        ·simp only [Act.put,List.setIfInBounds_toArray,List.set_cons_zero,List.set_cons_succ,i64_w,i32_w]
         rfl
        refine done_ (done_of HT_.out (by kernel_rfl)) ?_
        try go_wp2
        go_ret
        exact ⟨by first|rfl|(simp [qaj,qak]<;>rfl)|(simp [*,qaj,qak]<;>rfl),by repeat (first|(with_reducible first|exact HB.out|apply qab|apply qaa|apply qac|refine qaf ?_ GE231.out)|exact HB.out)⟩
       ·rw [if_neg c14] at H
        exact absurd H (by simp)
      ·rw [if_neg c13] at H
       exact absurd H (by simp)
     ·rw [if_neg c12] at H
      exact absurd H (by simp)
    ·rw [if_neg c11] at H
     exact absurd H (by simp)
   ·rw [if_neg c9] at H
    exact absurd H (by simp)
 ·replace c3 := Bool.eq_false_iff.mpr c3
  subst c3
  have H1 : (some (⟨#[]⟩ : ByteArray)) = some r := by rw [if_neg (show ¬ (false = true) by decide)] at H;exact H
  clear H
  have H := H1
  clear H1
  obtain rfl := Option.some.inj H
  go_enter Tryz.func129,Tryz.ntmps129
  go_wp2_with (first|((with_reducible refine gate_dst (N := 1) rfl ?_);refine box_event ?hg (N := 1) ?hd (cs := #[.string a0_0,.int .i64 a0_1,.string a0_2]) (t := 27) ?hr ?_;(case hd => rfl);(case hg => rfl);(case hr => first|(go_simp;done)|(go_simp;rfl));intro gb231 hg w21 hbox hb;have n0_ := Aside0.mk (qan (by repeat (with_reducible first|exact HB.out|apply qab|apply qaa|apply qac)) hb);have n1_ := Aside0.mk (hbox);have n2_ := Aside0.mk ((by rw [hg];exact (qao (by repeat (with_reducible first|exact HB.out|apply qab|apply qaa|apply qac))) : w.heap.size ≤ gb231));have n3_ := Aside0.mk ((by rw [hg];exact (qao (by repeat (with_reducible first|exact HB.out|apply qab|apply qaa|apply qac))) : w.heap.size ≤ gb231));clear HB;have HB := n0_;have BK231 := n1_;have GW231 := n2_;have GE231 := n3_;clear n0_ n1_ n2_ n3_;clear hb hbox hg;have hcz22_0 : w21.cell? ⟨gb231,0,none⟩ = some (.string a0_0) := (qae BK231.out 0).trans rfl;have hcz22_1 : w21.cell? ⟨gb231,1,none⟩ = some (.int .i64 a0_1) := (qae BK231.out 1).trans rfl;have hcz22_2 : w21.cell? ⟨gb231,2,none⟩ = some (.string a0_2) := (qae BK231.out 2).trans rfl;have hfz22_0 := qad BK231.out 0;have hfz22_1 := qad BK231.out 1;have hfz22_2 := qad BK231.out 2)|((with_reducible refine qal (f := 62) rfl ?_);refine goesL_ (some 5) rfl rfl Tryz.func62 (by kernel_rfl) rfl #[.agg #[.string a0_0,.int .i64 a0_1,.string a0_2]] rfl (by first|rfl|(simp only [List.map_toArray,List.map_cons,List.map_nil,List.length_drop,List.length_take];rfl)|simp only [List.map_toArray,List.map_cons,List.map_nil]) ?_;(with_reducible refine (relation_Right.calls k a0_0 a0_1 a0_2 false _ (by first|exact hG|exact GL.below hG (by repeat (first|(with_reducible first|exact HB.out|apply qab|apply qaa|apply qac|refine qaf ?_ GE231.out)|exact HB.out)))  A2.out).mono ?_);rintro e w23 ⟨rfl,hb⟩;refine ⟨_,rfl,?_⟩;have n0_ := Aside0.mk (qaq (g := gb231) (o := .cells #[.string a0_0,.int .i64 a0_1,.string a0_2] 27 (0,0)) (by (with_reducible repeat (first|refine qah ?_ _|refine qai ?_|refine qag ?_ _));exact BK231.out) hb);have n1_ := Aside0.mk (qan (by repeat (first|(with_reducible first|exact HB.out|apply qab|apply qaa|apply qac|refine qaf ?_ GE231.out)|exact HB.out)) hb);clear BK231;clear HB;have BK231 := n0_;have HB := n1_;clear n0_ n1_;(try clear hb);(try clear hb2);(try clear hk);(try clear hi)))
  go_ret
  exact ⟨by first|rfl|(simp [qaj,qak]<;>rfl)|(simp [*,qaj,qak]<;>rfl),by repeat (first|(with_reducible first|exact HB.out|apply qab|apply qaa|apply qac|refine qaf ?_ GE231.out)|exact HB.out)⟩
mutual
def depends_Print.l0 : Nat → List ByteArray → List (List (S27)) → Int → Int → Option (ByteArray)
 | 0,_,_,_,_ => none
 | k + 1,x3,x12,x13,x14 => if x14 < x13 then (if 0 ≤ x14 then (if x14 < (x12.length : Int) then (depends_Print.l1 k x3 ([] : List ByteArray) x12 x13 x14 (rd_L3 x12 x14) ((rd_L3 x12 x14).length : Int) 0) else (none)) else (none)) else ((strings_Join.f x3 (⟨#[44,32]⟩ : ByteArray)).bind fun t235 => (some t235))
def depends_Print.l1 : Nat → List ByteArray → List ByteArray → List (List (S27)) → Int → Int → List (S27) → Int → Int → Option (ByteArray)
 | 0,_,_,_,_,_,_,_,_ => none
 | k + 1,x3,x6,x12,x13,x14,x18,x19,x20 => if x20 < x19 then (if 0 ≤ x20 then (if x20 < (x18.length : Int) then ((relation_Print.f k ((rd_T27 x18 x20).f0) ((rd_T27 x18 x20).f1) ((rd_T27 x18 x20).f2)).bind fun t239 => (if x6.length < 8796093022208 then (depends_Print.l1 k x3 (x6 ++ [t239]) x12 x13 x14 x18 x19 (wrap64 (x20 + 1))) else (none))) else (none)) else (none)) else ((strings_Join.f x6 (⟨#[32,124,32]⟩ : ByteArray)).bind fun t243 => (if x3.length < 8796093022208 then (depends_Print.l0 k (x3 ++ [t243]) x12 x13 (wrap64 (x14 + 1))) else (none)))
end
def depends_Print.f (k : Nat) (l0 : List (List (S27))) : Option (ByteArray) := (depends_Right.f k l0).bind fun t234 => (if t234 = true then (depends_Print.l0 k ([] : List ByteArray) l0 (l0.length : Int) 0) else (some (⟨#[]⟩ : ByteArray)))
theorem depends_Print.mono_l : ∀ k,(∀ y0 y1 y2 y3,LeO (depends_Print.l0 k y0 y1 y2 y3) (depends_Print.l0 (k + 1) y0 y1 y2 y3)) ∧ (∀ y0 y1 y2 y3 y4 y5 y6 y7,LeO (depends_Print.l1 k y0 y1 y2 y3 y4 y5 y6 y7) (depends_Print.l1 (k + 1) y0 y1 y2 y3 y4 y5 y6 y7))
 | 0 => ⟨fun _ _ _ _ r h => by simp [depends_Print.l0] at h,fun _ _ _ _ _ _ _ _ r h => by simp [depends_Print.l1] at h⟩
 | k + 1 => by
  obtain ⟨ih0,ih1⟩ := depends_Print.mono_l k
  refine ⟨?_,?_⟩
  ·intro y0 y1 y2 y3
   unfold depends_Print.l0
   repeat' first
   | (with_reducible exact ih0 _ _ _ _)
   | (with_reducible exact ih1 _ _ _ _ _ _ _ _)
   | (with_reducible exact depends_Right.mono _ _)
   | (with_reducible exact relation_Print.mono _ _ _ _)
   | (with_reducible exact LeO.refl _)
   | (with_reducible exact LeO.none _)
   | (with_reducible refine LeO.ite ?_ ?_)
   | (with_reducible refine LeO.bind ?_ (fun _ => ?_))
   | exact ih0 _ _ _ _
   | exact ih1 _ _ _ _ _ _ _ _
   | exact depends_Right.mono _ _
   | exact relation_Print.mono _ _ _ _
   | exact LeO.none _
   | refine LeO.ite ?_ ?_
   | refine LeO.bind ?_ (fun _ => ?_)
  ·intro y0 y1 y2 y3 y4 y5 y6 y7
   unfold depends_Print.l1
   repeat' first
   | (with_reducible exact ih0 _ _ _ _)
   | (with_reducible exact ih1 _ _ _ _ _ _ _ _)
   | (with_reducible exact depends_Right.mono _ _)
   | (with_reducible exact relation_Print.mono _ _ _ _)
   | (with_reducible exact LeO.refl _)
   | (with_reducible exact LeO.none _)
   | (with_reducible refine LeO.ite ?_ ?_)
   | (with_reducible refine LeO.bind ?_ (fun _ => ?_))
   | exact ih0 _ _ _ _
   | exact ih1 _ _ _ _ _ _ _ _
   | exact depends_Right.mono _ _
   | exact relation_Print.mono _ _ _ _
   | exact LeO.none _
   | refine LeO.ite ?_ ?_
   | refine LeO.bind ?_ (fun _ => ?_)
theorem depends_Print.mono : ∀ a0 k,LeO (depends_Print.f k a0) (depends_Print.f (k + 1) a0) := by
 intro a0 k
 obtain ⟨ih0,ih1⟩ := depends_Print.mono_l k
 unfold depends_Print.f
 repeat' first
   | (with_reducible exact ih0 _ _ _ _)
   | (with_reducible exact ih1 _ _ _ _ _ _ _ _)
   | (with_reducible exact depends_Right.mono _ _)
   | (with_reducible exact relation_Print.mono _ _ _ _)
   | (with_reducible exact LeO.refl _)
   | (with_reducible exact LeO.none _)
   | (with_reducible refine LeO.ite ?_ ?_)
   | (with_reducible refine LeO.bind ?_ (fun _ => ?_))
   | exact ih0 _ _ _ _
   | exact ih1 _ _ _ _ _ _ _ _
   | exact depends_Right.mono _ _
   | exact relation_Print.mono _ _ _ _
   | exact LeO.none _
   | refine LeO.ite ?_ ?_
   | refine LeO.bind ?_ (fun _ => ?_)
theorem depends_Print.calls (k : Nat) (A0 : Option Addr) (c0 : Nat) (l0 : List (List (S27))) (r : ByteArray) (w : World) (hG : GL w) (hr0 : Kd.C (Kd.slice 27 k27) w A0 l0.length l0) (hc0 : l0.length ≤ c0) (h : depends_Print.f k l0 = some r) :
  Calls Tryz.prog 69 #[.slice A0 l0.length c0] w fun e w' => e = .returned (.string r) ∧ Below w.heap.size w w' := by
 have hu27 := Tryz.underlying27
 have HR0 := Aside0.mk hr0
 have HC0 := Aside0.mk hc0
 clear hr0 hc0
 have HB := Aside0.mk (Below.refl w.heap.size w)
 have H : ((depends_Right.f k l0).bind fun t234 => (if t234 = true then (depends_Print.l0 k ([] : List ByteArray) l0 (l0.length : Int) 0) else (some (⟨#[]⟩ : ByteArray)))) = some r := h
 clear h
 replace H := Option.bind_eq_some_iff.mp H
 obtain ⟨t234,A20,H⟩ := H
 replace H : (if t234 = true then (depends_Print.l0 k ([] : List ByteArray) l0 (l0.length : Int) 0) else (some (⟨#[]⟩ : ByteArray))) = some r := H
 have A2 := Aside0.mk A20
 clear A20
 by_cases c3 : t234 = true
 ·subst c3
  have H1 : (depends_Print.l0 k ([] : List ByteArray) l0 (l0.length : Int) 0) = some r := by rw [if_pos rfl] at H;exact H
  clear H
  have H := H1
  clear H1
  have H' := Aside0.mk H
  clear H
  go_enter Tryz.func69,Tryz.ntmps69
  go_wp2_with (first|((with_reducible refine qal (f := 60) rfl ?_);refine goesL_ (some 10) rfl rfl Tryz.func60 (by kernel_rfl) rfl #[.slice A0 l0.length c0] rfl (by first|rfl|(simp only [List.map_toArray,List.map_cons,List.map_nil,List.length_drop,List.length_take];rfl)|simp only [List.map_toArray,List.map_cons,List.map_nil]) ?_;(with_reducible refine (depends_Right.calls k _ _ l0 true _ (by first|exact hG|exact GL.below hG (by repeat (with_reducible first|exact HB.out|apply qab|apply qaa|apply qac)))  ?side1 ?side2 A2.out).mono ?_);(case side1 => repeat (first|exact HR0.out|(with_reducible refine Kd.C_alloc ?_ _)|(with_reducible refine Kd.C_drewN ?_ _)|(with_reducible refine Kd.C_drew ?_)));(case side2 => exact HC0.out);rintro e w4 ⟨rfl,hb⟩;refine ⟨_,rfl,?_⟩;have n0_ := Aside0.mk (qan (by repeat (with_reducible first|exact HB.out|apply qab|apply qaa|apply qac)) hb);clear HB;have HB := n0_;clear n0_;(try clear hb);(try clear hb2);(try clear hk);(try clear hi)))
  go_loopg [3,14] k (fun kq v3 v14 w' => ∃ (x3_1 : List ByteArray) (x14_1 : Int),v14 = .int .i64 x14_1 ∧ Aside0 (depends_Print.l0 kq x3_1 l0 (l0.length : Int) x14_1 = some r) ∧ Aside0 (kq ≤ k) ∧ Aside0 (Kd.R Kd.string 9 w' w.heap.size (fun _ => True) v3 x3_1) ∧ Aside0 (Below w.heap.size w w'))
  case atStart => exact ⟨(([] : List ByteArray)),(0),(by first|rfl|(simp;done)|(simp [*];done)|(simp [qam];done)),H',⟨Nat.le_refl _⟩,⟨by first|exact Kd.R_nil _ _ _ _ _|exact Kd.N_nil _ _ _ _ _|exact Kd.V_nil _ _ _ _ _|exact Kd.Q_nil _ _ _ _ _|exact Kd.S_nil _ _ _ _ _⟩,⟨by repeat (with_reducible first|exact HB.out|apply qab|apply qaa|apply qac)⟩⟩
  case round =>
   clear H'
   try clear p2
   try clear c3
   obtain ⟨x3_1,x14_1,rfl,HA,HK1,HO_3,HB⟩ := hrel
   cases gk with
   | zero => exact absurd HA.out (by simp [depends_Print.l0])
   | succ k1 =>
    have H := HA.out
    clear HA
    simp only [depends_Print.l0] at H
    by_cases c5 : x14_1 < (l0.length : Int)
    ·rw [if_pos c5] at H
     have c5b0 : decide (x14_1 < (l0.length : Int)) = true := decide_eq_true c5
     clear c5
     by_cases c6 : 0 ≤ x14_1
     ·rw [if_pos c6] at H
      have c6b0 : decide (0 ≤ x14_1) = true := decide_eq_true c6
      clear c6
      by_cases c7 : x14_1 < (l0.length : Int)
      ·rw [if_pos c7] at H
       have c7b0 : decide (x14_1 < (l0.length : Int)) = true := decide_eq_true c7
       clear c7
       have H' := Aside0.mk H
       clear H
       have p236 : 0 ≤ (x14_1 : Int) := of_decide_eq_true (by assumption)
       have q236 : x14_1 < (l0.length : Int) := of_decide_eq_true (by assumption)
       obtain ⟨ad236,A236_0,c236_0,e236,hx236_0,hl236_0,hi236_0⟩ := at_L3 HR0.out x14_1 p236 q236
       cases e236
       replace hx236_0 := (HB.out.cell (World.block_lt_of_cell? w _ hx236_0)).trans hx236_0
       have HR236_0 := Aside0.mk hi236_0
       have HC236_0 := Aside0.mk hl236_0
       clear hi236_0 hl236_0
       replace p236 := eq_true p236
       replace q236 := eq_true q236
       go_wp2
       go_loopg [6,20] k1 (fun kq v6 v20 w' => ∃ (x6_2 : List ByteArray) (x20_2 : Int),v20 = .int .i64 x20_2 ∧ Aside0 (depends_Print.l1 kq x3_1 x6_2 l0 (l0.length : Int) x14_1 (rd_L3 l0 x14_1) ((rd_L3 l0 x14_1).length : Int) x20_2 = some r) ∧ Aside0 (kq ≤ k1) ∧ Aside0 (Kd.R Kd.string 9 w' w.heap.size (fun k_ => some k_ ≠ (v6 : Value).ownBlock) u3 x3_1) ∧ Aside0 (Kd.R Kd.string 9 w' w.heap.size (fun k_ => some k_ ≠ (u3 : Value).ownBlock) v6 x6_2) ∧ Aside0 (Below w.heap.size w w'))
       case atStart => exact ⟨(([] : List ByteArray)),(0),(by first|rfl|(simp;done)|(simp [*];done)|(simp [qam];done)),H',⟨Nat.le_refl _⟩,⟨by (with_reducible repeat (first|apply Kd.R_alloc|apply Kd.R_drewN|apply Kd.R_drew));exact Kd.R_mono HO_3.out (fun _ hk => (by simp [Value.ownBlock]))⟩,⟨by first|exact Kd.R_nil _ _ _ _ _|exact Kd.N_nil _ _ _ _ _|exact Kd.V_nil _ _ _ _ _|exact Kd.Q_nil _ _ _ _ _|exact Kd.S_nil _ _ _ _ _⟩,⟨by repeat (with_reducible first|exact HB.out|apply qab|apply qaa|apply qac)⟩⟩
       case round =>
        clear H'
        try clear c2
        try clear p2
        try clear q2
        try clear hx2
        try clear c3
        try clear c5
        try clear c5b0
        try clear c6
        try clear c6b0
        try clear c7
        try clear c7b0
        try clear hx236_0
        try clear p2
        try clear p236
        try clear q236
        obtain ⟨x6_2,x20_2,rfl,HA,HK2,HO_3,HO_6,HB⟩ := hrel
        cases gk with
        | zero => exact absurd HA.out (by simp [depends_Print.l1])
        | succ k2 =>
         have H := HA.out
         clear HA
         simp only [depends_Print.l1] at H
         by_cases c8 : x20_2 < ((rd_L3 l0 x14_1).length : Int)
         ·rw [if_pos c8] at H
          have c8b0 : decide (x20_2 < ((rd_L3 l0 x14_1).length : Int)) = true := decide_eq_true c8
          clear c8
          by_cases c9 : 0 ≤ x20_2
          ·rw [if_pos c9] at H
           have c9b0 : decide (0 ≤ x20_2) = true := decide_eq_true c9
           clear c9
           by_cases c10 : x20_2 < ((rd_L3 l0 x14_1).length : Int)
           ·rw [if_pos c10] at H
            have c10b0 : decide (x20_2 < ((rd_L3 l0 x14_1).length : Int)) = true := decide_eq_true c10
            clear c10
            replace H := Option.bind_eq_some_iff.mp H
            obtain ⟨t239,A110,H⟩ := H
            replace H : (if x6_2.length < 8796093022208 then (depends_Print.l1 k2 x3_1 (x6_2 ++ [t239]) l0 (l0.length : Int) x14_1 (rd_L3 l0 x14_1) ((rd_L3 l0 x14_1).length : Int) (wrap64 (x20_2 + 1))) else (none)) = some r := H
            have A11 := Aside0.mk A110
            clear A110
            by_cases c12 : x6_2.length < 8796093022208
            ·rw [if_pos c12] at H
             have LMc12 := Aside0.mk c12
             clear c12
             obtain ⟨y240,hy240⟩ : ∃ y_ : List ByteArray,y_ = (x6_2 ++ [t239]) := ⟨_,rfl⟩
             replace H : (depends_Print.l1 k2 x3_1 y240 l0 (l0.length : Int) x14_1 (rd_L3 l0 x14_1) ((rd_L3 l0 x14_1).length : Int) (wrap64 (x20_2 + 1))) = some r := by first|(rw [hy240];with_reducible exact H)|(have H2_ := (Option.bind_some _ _).symm.trans H;rw [hy240];with_reducible exact H2_)|(have H2_ := (Option.bind_some _ _).symm.trans H;with_reducible exact H2_) | with_reducible exact H|(rw [hy240];exact H)|exact H
             have Ny240 := Aside0.mk hy240
             clear hy240
             have H' := Aside0.mk H
             clear H
             have p237 : 0 ≤ (x20_2 : Int) := of_decide_eq_true (by assumption)
             have q237 : x20_2 < ((rd_L3 l0 x14_1).length : Int) := of_decide_eq_true (by assumption)
             obtain ⟨ad237,e237,hx237_0,hx237_1,hx237_2⟩ := at_T27 HR236_0.out x20_2 p237 q237
             cases e237
             replace hx237_0 := (HB.out.cell (World.block_lt_of_cell? w _ hx237_0)).trans hx237_0
             replace hx237_1 := (HB.out.cell (World.block_lt_of_cell? w _ hx237_1)).trans hx237_1
             replace hx237_2 := (HB.out.cell (World.block_lt_of_cell? w _ hx237_2)).trans hx237_2
             replace p237 := eq_true p237
             replace q237 := eq_true q237
             go_wp2_with (first|((with_reducible refine gate_dst (N := 8) rfl ?_);refine box_event ?hg (N := 8) ?hd (cs := #[.string (⟨#[]⟩ : ByteArray),.int .i64 0,.string (⟨#[]⟩ : ByteArray)]) (t := 27) ?hr ?_;(case hd => rfl);(case hg => rfl);(case hr => first|(go_simp;done)|(go_simp;rfl));intro gb238 hg w13 hbox hb;have n0_ := Aside0.mk (Kd.R_below (by (with_reducible repeat (first|apply Kd.R_alloc|apply Kd.R_drewN|apply Kd.R_drew));exact HO_3.out) hb);have n1_ := Aside0.mk (Kd.R_below (by (with_reducible repeat (first|apply Kd.R_alloc|apply Kd.R_drewN|apply Kd.R_drew));exact HO_6.out) hb);have n2_ := Aside0.mk (qan (by repeat (with_reducible first|exact HB.out|apply qab|apply qaa|apply qac)) hb);have n3_ := Aside0.mk (hbox);have n4_ := Aside0.mk ((by rw [hg];exact (qao (by repeat (with_reducible first|exact HB.out|apply qab|apply qaa|apply qac))) : w.heap.size ≤ gb238));have n5_ := Aside0.mk ((by rw [hg];exact (qao (by repeat (with_reducible first|exact HB.out|apply qab|apply qaa|apply qac))) : w.heap.size ≤ gb238));clear HO_3;clear HO_6;clear HB;have HO_3 := n0_;have HO_6 := n1_;have HB := n2_;have BK238 := n3_;have GW238 := n4_;have GE238 := n5_;clear n0_ n1_ n2_ n3_ n4_ n5_;clear hb hbox hg;have hcz14_0 : w13.cell? ⟨gb238,0,none⟩ = some (.string (⟨#[]⟩ : ByteArray)) := (qae BK238.out 0).trans rfl;have hcz14_1 : w13.cell? ⟨gb238,1,none⟩ = some (.int .i64 0) := (qae BK238.out 1).trans rfl;have hcz14_2 : w13.cell? ⟨gb238,2,none⟩ = some (.string (⟨#[]⟩ : ByteArray)) := (qae BK238.out 2).trans rfl;have hfz14_0 := qad BK238.out 0;have hfz14_1 := qad BK238.out 1;have hfz14_2 := qad BK238.out 2)|((with_reducible refine qal (f := 129) rfl ?_);refine goesL_ (some 26) rfl rfl Tryz.func129 (by kernel_rfl) rfl #[.agg #[.string ((rd_T27 (rd_L3 l0 x14_1) x20_2).f0),.int .i64 ((rd_T27 (rd_L3 l0 x14_1) x20_2).f1),.string ((rd_T27 (rd_L3 l0 x14_1) x20_2).f2)]] rfl (by first|rfl|(simp only [List.map_toArray,List.map_cons,List.map_nil,List.length_drop,List.length_take];rfl)|simp only [List.map_toArray,List.map_cons,List.map_nil]) ?_;(with_reducible refine (relation_Print.calls k2 ((rd_T27 (rd_L3 l0 x14_1) x20_2).f0) ((rd_T27 (rd_L3 l0 x14_1) x20_2).f1) ((rd_T27 (rd_L3 l0 x14_1) x20_2).f2) t239 _ (by first|exact hG|exact GL.below hG (by repeat (first|(with_reducible first|exact HB.out|apply qab|apply qaa|apply qac|refine qaf ?_ GE238.out)|exact HB.out)))  A11.out).mono ?_);rintro e w15 ⟨rfl,hb⟩;refine ⟨_,rfl,?_⟩;have n0_ := Aside0.mk (Kd.R_below (by (with_reducible repeat (first|apply Kd.R_alloc|apply Kd.R_drewN|apply Kd.R_drew));exact (Kd.R_mono (Kd.R_far (p := ⟨gb238,2,none⟩) (Kd.R_far (p := ⟨gb238,1,none⟩) (Kd.R_far (p := ⟨gb238,0,none⟩) (Kd.R_types HO_3.out BK238.out (by decide)) (fun _ hk => hk.2) (.string ((rd_T27 (rd_L3 l0 x14_1) x20_2).f0))) (fun _ hk => hk.2) (.int .i64 ((rd_T27 (rd_L3 l0 x14_1) x20_2).f1))) (fun _ hk => hk.2) (.string ((rd_T27 (rd_L3 l0 x14_1) x20_2).f2))) (fun _ h_ => h_.1))) hb);have n1_ := Aside0.mk (Kd.R_below (by (with_reducible repeat (first|apply Kd.R_alloc|apply Kd.R_drewN|apply Kd.R_drew));exact (Kd.R_mono (Kd.R_far (p := ⟨gb238,2,none⟩) (Kd.R_far (p := ⟨gb238,1,none⟩) (Kd.R_far (p := ⟨gb238,0,none⟩) (Kd.R_types HO_6.out BK238.out (by decide)) (fun _ hk => hk.2) (.string ((rd_T27 (rd_L3 l0 x14_1) x20_2).f0))) (fun _ hk => hk.2) (.int .i64 ((rd_T27 (rd_L3 l0 x14_1) x20_2).f1))) (fun _ hk => hk.2) (.string ((rd_T27 (rd_L3 l0 x14_1) x20_2).f2))) (fun _ h_ => h_.1))) hb);have n2_ := Aside0.mk (qaq (g := gb238) (o := .cells #[.string ((rd_T27 (rd_L3 l0 x14_1) x20_2).f0),.int .i64 ((rd_T27 (rd_L3 l0 x14_1) x20_2).f1),.string ((rd_T27 (rd_L3 l0 x14_1) x20_2).f2)] 27 (0,0)) (by (with_reducible repeat (first|refine qah ?_ _|refine qai ?_|refine qag ?_ _));refine blk_put (cs := #[.string ((rd_T27 (rd_L3 l0 x14_1) x20_2).f0),.int .i64 ((rd_T27 (rd_L3 l0 x14_1) x20_2).f1),.string (⟨#[]⟩ : ByteArray)]) ?_ 2 _ rfl;(with_reducible repeat (first|refine qah ?_ _|refine qai ?_|refine qag ?_ _));refine blk_put (cs := #[.string ((rd_T27 (rd_L3 l0 x14_1) x20_2).f0),.int .i64 0,.string (⟨#[]⟩ : ByteArray)]) ?_ 1 _ rfl;(with_reducible repeat (first|refine qah ?_ _|refine qai ?_|refine qag ?_ _));refine blk_put (cs := #[.string (⟨#[]⟩ : ByteArray),.int .i64 0,.string (⟨#[]⟩ : ByteArray)]) ?_ 0 _ rfl;(with_reducible repeat (first|refine qah ?_ _|refine qai ?_|refine qag ?_ _));exact BK238.out) hb);have n3_ := Aside0.mk (qan (by repeat (first|(with_reducible first|exact HB.out|apply qab|apply qaa|apply qac|refine qaf ?_ GE238.out)|exact HB.out)) hb);clear HO_3;clear HO_6;clear BK238;clear HB;have HO_3 := n0_;have HO_6 := n1_;have BK238 := n2_;have HB := n3_;clear n0_ n1_ n2_ n3_;(try clear hb);(try clear hb2);(try clear hk);(try clear hi))|((with_reducible refine gate_builtin (b := .append) (xs := #[.tmp 24,.tmp 27]) rfl ?_);at_builtin;refine Kd.R_append Kd.string (w0 := w) w.heap.size rfl (.tmp 24) (.tmp 27) 70 9 (.string ⟨#[]⟩) 16 rfl Tryz.underlying70 info9 rfl (by decide) (by omega) u6 x6_2 t239 [.string t239] (fun k_ => some k_ ≠ (u3 : Value).ownBlock) (fun _ => False) rfl rfl ?aP (fun _ hk => hk.elim) ?aF ?aO ?aB ?aS ?aL ?_;(case aP => exact rfl);(case aB => exact (by repeat (first|(with_reducible first|exact HB.out|apply qab|apply qaa|apply qac|refine qaf ?_ GE238.out)|exact HB.out)));(case aF => exact (fun k_ hk => Kd.fresh' (Kd.R_lt (by (with_reducible repeat (first|apply Kd.R_alloc|apply Kd.R_drewN|apply Kd.R_drew));exact HO_3.out)) k_ hk));(case aO => exact (by (with_reducible repeat (first|apply Kd.R_alloc|apply Kd.R_drewN|apply Kd.R_drew));exact HO_6.out));(case aS => exact (qao (by repeat (first|(with_reducible first|exact HB.out|apply qab|apply qaa|apply qac|refine qaf ?_ GE238.out)|exact HB.out))));(case aL => have := LMc12.out;omega);intro v241 w16 ho hb hg hat;rw [← Ny240.out] at ho;have n0_ := Aside0.mk (Kd.R_after (ok := (fun _ => True)) (by (with_reducible repeat (first|apply Kd.R_alloc|apply Kd.R_drewN|apply Kd.R_drew));exact Kd.R_mono HO_3.out (fun _ hk => ⟨trivial,hk⟩)) hg hat);have n1_ := Aside0.mk (blk_grown (g := gb238) (o := .cells #[.string ((rd_T27 (rd_L3 l0 x14_1) x20_2).f0),.int .i64 ((rd_T27 (rd_L3 l0 x14_1) x20_2).f1),.string ((rd_T27 (rd_L3 l0 x14_1) x20_2).f2)] 27 (0,0)) (by (with_reducible repeat (first|refine qah ?_ _|refine qai ?_|refine qag ?_ _));exact BK238.out) hg (Kd.R_ne HO_6.out BK238.out (by decide)));have n2_ := Aside0.mk (hb);have n3_ := Aside0.mk (ho);clear HO_3;clear BK238;clear HB;clear HO_6;have HO_3 := n0_;have BK238 := n1_;have HB := n2_;have HO242 := n3_;clear n0_ n1_ n2_ n3_;clear ho hb hg hat))
             go_roundg k2
             case measure => have := HK1.out;have := HK2.out;omega
             case rel => exact ⟨(y240),(wrap64 (x20_2 + 1)),(by first|rfl|(simp;done)|(simp [*];done)|(simp [qam];done)),H',⟨by have := HK1.out;have := HK2.out;omega⟩,⟨by (with_reducible repeat (first|apply Kd.R_alloc|apply Kd.R_drewN|apply Kd.R_drew));exact Kd.R_mono HO_3.out (fun _ hk => hk.2)⟩,⟨by (with_reducible repeat (first|apply Kd.R_alloc|apply Kd.R_drewN|apply Kd.R_drew));exact HO242.out⟩,⟨by repeat (first|(with_reducible first|exact HB.out|apply qab|apply qaa|apply qac|refine qaf ?_ GE238.out)|exact HB.out)⟩⟩
            ·rw [if_neg c12] at H
             exact absurd H (by simp)
           ·rw [if_neg c10] at H
            exact absurd H (by simp)
          ·rw [if_neg c9] at H
           exact absurd H (by simp)
         ·rw [if_neg c8] at H
          have c8b0 : decide (x20_2 < ((rd_L3 l0 x14_1).length : Int)) = false := decide_eq_false c8
          clear c8
          replace H := Option.bind_eq_some_iff.mp H
          obtain ⟨t243,A170,H⟩ := H
          replace H : (if x3_1.length < 8796093022208 then (depends_Print.l0 k2 (x3_1 ++ [t243]) l0 (l0.length : Int) (wrap64 (x14_1 + 1))) else (none)) = some r := H
          have A17 := Aside0.mk A170
          clear A170
          by_cases c18 : x3_1.length < 8796093022208
          ·rw [if_pos c18] at H
           have LMc18 := Aside0.mk c18
           clear c18
           obtain ⟨y244,hy244⟩ : ∃ y_ : List ByteArray,y_ = (x3_1 ++ [t243]) := ⟨_,rfl⟩
           replace H : (depends_Print.l0 k2 y244 l0 (l0.length : Int) (wrap64 (x14_1 + 1))) = some r := by first|(rw [hy244];with_reducible exact H)|(have H2_ := (Option.bind_some _ _).symm.trans H;rw [hy244];with_reducible exact H2_)|(have H2_ := (Option.bind_some _ _).symm.trans H;with_reducible exact H2_) | with_reducible exact H|(rw [hy244];exact H)|exact H
           have Ny244 := Aside0.mk hy244
           clear hy244
           have H' := Aside0.mk H
           clear H
           obtain ⟨Ao19,co19,eo19⟩ := Kd.R_slice HO_6.out
           subst eo19
           go_wp2_with (first|((with_reducible refine qal (f := 130) rfl ?_);refine goesL_ (some 32) rfl rfl Tryz.func130 (by kernel_rfl) rfl #[.slice Ao19 x6_2.length co19,.string (⟨#[32,124,32]⟩ : ByteArray)] rfl (by first|rfl|(simp only [List.map_toArray,List.map_cons,List.map_nil,List.length_drop,List.length_take];rfl)|simp only [List.map_toArray,List.map_cons,List.map_nil]) ?_;(with_reducible refine (strings_Join.calls _ _ x6_2 (⟨#[32,124,32]⟩ : ByteArray) t243 _ (by first|exact hG|exact GL.below hG (by repeat (with_reducible first|exact HB.out|apply qab|apply qaa|apply qac)))  ?side1 ?side2 A17.out).mono ?_);(case side1 => repeat (first|exact (Kd.R_reads' HO_6.out).2.2|(with_reducible refine Kd.C_alloc ?_ _)|(with_reducible refine Kd.C_drewN ?_ _)|(with_reducible refine Kd.C_drew ?_)));(case side2 => exact (Kd.R_reads' HO_6.out).2.1);rintro e w20 ⟨rfl,hb⟩;refine ⟨_,rfl,?_⟩;have n0_ := Aside0.mk (Kd.R_below (by (with_reducible repeat (first|apply Kd.R_alloc|apply Kd.R_drewN|apply Kd.R_drew));exact HO_3.out) hb);have n1_ := Aside0.mk (Kd.R_below (by (with_reducible repeat (first|apply Kd.R_alloc|apply Kd.R_drewN|apply Kd.R_drew));exact HO_6.out) hb);have n2_ := Aside0.mk (qan (by repeat (with_reducible first|exact HB.out|apply qab|apply qaa|apply qac)) hb);clear HO_3;clear HO_6;clear HB;have HO_3 := n0_;have HO_6 := n1_;have HB := n2_;clear n0_ n1_ n2_;(try clear hb);(try clear hb2);(try clear hk);(try clear hi))|((with_reducible refine gate_builtin (b := .append) (xs := #[.tmp 30,.tmp 33]) rfl ?_);at_builtin;refine Kd.R_append Kd.string (w0 := w) w.heap.size rfl (.tmp 30) (.tmp 33) 70 9 (.string ⟨#[]⟩) 16 rfl Tryz.underlying70 info9 rfl (by decide) (by omega) u3 x3_1 t243 [.string t243] (fun k_ => some k_ ≠ (.slice Ao19 x6_2.length co19 : Value).ownBlock) (fun _ => False) rfl rfl ?aP (fun _ hk => hk.elim) ?aF ?aO ?aB ?aS ?aL ?_;(case aP => exact rfl);(case aB => exact (by repeat (with_reducible first|exact HB.out|apply qab|apply qaa|apply qac)));(case aF => exact (fun k_ hk => Kd.fresh' (Kd.R_lt (by (with_reducible repeat (first|apply Kd.R_alloc|apply Kd.R_drewN|apply Kd.R_drew));exact HO_6.out)) k_ hk));(case aO => exact (by (with_reducible repeat (first|apply Kd.R_alloc|apply Kd.R_drewN|apply Kd.R_drew));exact HO_3.out));(case aS => exact (qao (by repeat (with_reducible first|exact HB.out|apply qab|apply qaa|apply qac))));(case aL => have := LMc18.out;omega);intro v245 w21 ho hb hg hat;rw [← Ny244.out] at ho;have n0_ := Aside0.mk (Kd.R_after (ok := (fun _ => True)) (by (with_reducible repeat (first|apply Kd.R_alloc|apply Kd.R_drewN|apply Kd.R_drew));exact Kd.R_mono HO_6.out (fun _ hk => ⟨trivial,hk⟩)) hg hat);have n1_ := Aside0.mk (hb);have n2_ := Aside0.mk (ho);clear HO_6;clear HB;clear HO_3;have HO_6 := n0_;have HB := n1_;have HO246 := n2_;clear n0_ n1_ n2_;clear ho hb hg hat))
           go_roundg k2
           case measure => have := HK1.out;have := HK2.out;omega
           case rel => exact ⟨(y244),(wrap64 (x14_1 + 1)),(by first|rfl|(simp;done)|(simp [*];done)|(simp [qam];done)),H',⟨by have := HK1.out;have := HK2.out;omega⟩,⟨by (with_reducible repeat (first|apply Kd.R_alloc|apply Kd.R_drewN|apply Kd.R_drew));exact Kd.R_mono HO246.out (fun _ hk => trivial)⟩,⟨by repeat (with_reducible first|exact HB.out|apply qab|apply qaa|apply qac)⟩⟩
          ·rw [if_neg c18] at H
           exact absurd H (by simp)
      ·rw [if_neg c7] at H
       exact absurd H (by simp)
     ·rw [if_neg c6] at H
      exact absurd H (by simp)
    ·rw [if_neg c5] at H
     have c5b0 : decide (x14_1 < (l0.length : Int)) = false := decide_eq_false c5
     clear c5
     replace H := Option.bind_eq_some_iff.mp H
     obtain ⟨t235,A220,H⟩ := H
     replace H : (some t235) = some r := H
     have A22 := Aside0.mk A220
     clear A220
     obtain rfl := Option.some.inj H
     obtain ⟨Ao23,co23,eo23⟩ := Kd.R_slice HO_3.out
     subst eo23
     go_wp2_with (first|((with_reducible refine qal (f := 130) rfl ?_);refine goesL_ (some 37) rfl rfl Tryz.func130 (by kernel_rfl) rfl #[.slice Ao23 x3_1.length co23,.string (⟨#[44,32]⟩ : ByteArray)] rfl (by first|rfl|(simp only [List.map_toArray,List.map_cons,List.map_nil,List.length_drop,List.length_take];rfl)|simp only [List.map_toArray,List.map_cons,List.map_nil]) ?_;(with_reducible refine (strings_Join.calls _ _ x3_1 (⟨#[44,32]⟩ : ByteArray) t235 _ (by first|exact hG|exact GL.below hG (by repeat (with_reducible first|exact HB.out|apply qab|apply qaa|apply qac)))  ?side1 ?side2 A22.out).mono ?_);(case side1 => repeat (first|exact (Kd.R_reads' HO_3.out).2.2|(with_reducible refine Kd.C_alloc ?_ _)|(with_reducible refine Kd.C_drewN ?_ _)|(with_reducible refine Kd.C_drew ?_)));(case side2 => exact (Kd.R_reads' HO_3.out).2.1);rintro e w24 ⟨rfl,hb⟩;refine ⟨_,rfl,?_⟩;have n0_ := Aside0.mk (Kd.R_below (by (with_reducible repeat (first|apply Kd.R_alloc|apply Kd.R_drewN|apply Kd.R_drew));exact HO_3.out) hb);have n1_ := Aside0.mk (qan (by repeat (with_reducible first|exact HB.out|apply qab|apply qaa|apply qac)) hb);clear HO_3;clear HB;have HO_3 := n0_;have HB := n1_;clear n0_ n1_;(try clear hb);(try clear hb2);(try clear hk);(try clear hi)))
     go_ret
     exact ⟨by first|rfl|(simp [qaj,qak]<;>rfl)|(simp [*,qaj,qak]<;>rfl),by repeat (with_reducible first|exact HB.out|apply qab|apply qaa|apply qac)⟩
 ·replace c3 := Bool.eq_false_iff.mpr c3
  subst c3
  have H1 : (some (⟨#[]⟩ : ByteArray)) = some r := by rw [if_neg (show ¬ (false = true) by decide)] at H;exact H
  clear H
  have H := H1
  clear H1
  obtain rfl := Option.some.inj H
  go_enter Tryz.func69,Tryz.ntmps69
  go_wp2_with (first|((with_reducible refine qal (f := 60) rfl ?_);refine goesL_ (some 10) rfl rfl Tryz.func60 (by kernel_rfl) rfl #[.slice A0 l0.length c0] rfl (by first|rfl|(simp only [List.map_toArray,List.map_cons,List.map_nil,List.length_drop,List.length_take];rfl)|simp only [List.map_toArray,List.map_cons,List.map_nil]) ?_;(with_reducible refine (depends_Right.calls k _ _ l0 false _ (by first|exact hG|exact GL.below hG (by repeat (with_reducible first|exact HB.out|apply qab|apply qaa|apply qac)))  ?side1 ?side2 A2.out).mono ?_);(case side1 => repeat (first|exact HR0.out|(with_reducible refine Kd.C_alloc ?_ _)|(with_reducible refine Kd.C_drewN ?_ _)|(with_reducible refine Kd.C_drew ?_)));(case side2 => exact HC0.out);rintro e w25 ⟨rfl,hb⟩;refine ⟨_,rfl,?_⟩;have n0_ := Aside0.mk (qan (by repeat (with_reducible first|exact HB.out|apply qab|apply qaa|apply qac)) hb);clear HB;have HB := n0_;clear n0_;(try clear hb);(try clear hb2);(try clear hk);(try clear hi)))
  go_ret
  exact ⟨by first|rfl|(simp [qaj,qak]<;>rfl)|(simp [*,qaj,qak]<;>rfl),by repeat (with_reducible first|exact HB.out|apply qab|apply qaa|apply qac)⟩
end Go.Proofs.YtooomjcdlfdnmaaGreatDoor.PA
