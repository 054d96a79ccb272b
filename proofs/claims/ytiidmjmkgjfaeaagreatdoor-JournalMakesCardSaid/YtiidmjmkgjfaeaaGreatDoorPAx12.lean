
import Derived.Test.YtiidmjmkgjfaeaaGreatDoorPAx0
namespace Go.Proofs.YtiidmjmkgjfaeaaGreatDoor.PA
open Go.RowKit Go.Proofs.YtiidmjmkgjfaeaaGreatDoorW.PrintWords Go.Proofs.YtiidmjmkgjfaeaaGreatDoorW.PrintLast Go.Proofs.YtiidmjmkgjfaeaaGreatDoorW.PrintMore
attribute [local go_sem] max2_int min2_int max_two min_two max_three min_three max_four min_four
set_option maxHeartbeats 8000000
set_option maxRecDepth 100000
set_option linter.unusedVariables false
set_option linter.unusedSimpArgs false
def keelsonlaw22_without.l0 : Nat → List ByteArray → ByteArray → List ByteArray → Int → Option (List ByteArray)
 | 0,_,_,_,_ => none
 | k + 1,x0,x1,x5,x6 => if x6 < (x0.length : Int) then (if 0 ≤ x6 then (if (rdOf ByteArray.empty x0 x6).toList = x1.toList then (keelsonlaw22_without.l0 k x0 x1 x5 (wrap64 (x6 + 1))) else (if x5.length < 8796093022208 then (keelsonlaw22_without.l0 k x0 x1 (x5 ++ [rdOf ByteArray.empty x0 x6]) (wrap64 (x6 + 1))) else (none))) else (none)) else (some x5)
def keelsonlaw22_without.f (k : Nat) (l0 : List ByteArray) (a1 : ByteArray) : Option (List ByteArray) := keelsonlaw22_without.l0 k l0 a1 ([] : List ByteArray) 0
theorem keelsonlaw22_without.mono_l : ∀ k,(∀ y0 y1 y2 y3,LeO (keelsonlaw22_without.l0 k y0 y1 y2 y3) (keelsonlaw22_without.l0 (k + 1) y0 y1 y2 y3))
 | 0 => fun _ _ _ _ r h => by simp [keelsonlaw22_without.l0] at h
 | k + 1 => by
  have ih0 := keelsonlaw22_without.mono_l k
  ·intro y0 y1 y2 y3
   unfold keelsonlaw22_without.l0
   repeat' first
   | (with_reducible exact ih0 _ _ _ _)
   | (with_reducible exact LeO.refl _)
   | (with_reducible exact LeO.none _)
   | (with_reducible refine LeO.ite ?_ ?_)
   | (with_reducible refine LeO.bind ?_ (fun _ => ?_))
theorem keelsonlaw22_without.mono : ∀ a0 a1 k,LeO (keelsonlaw22_without.f k a0 a1) (keelsonlaw22_without.f (k + 1) a0 a1) := by
 intro a0 a1 k
 have ih0 := keelsonlaw22_without.mono_l k
 unfold keelsonlaw22_without.f
 repeat' first
   | (with_reducible exact ih0 _ _ _ _)
   | (with_reducible exact LeO.refl _)
   | (with_reducible exact LeO.none _)
   | (with_reducible refine LeO.ite ?_ ?_)
   | (with_reducible refine LeO.bind ?_ (fun _ => ?_))
theorem keelsonlaw22_without.calls (k : Nat) (A0 : Option Addr) (c0 : Nat) (l0 : List ByteArray) (a1 : ByteArray) (r : List ByteArray) (w : World) (hG : GL w) (hr0 : Kd.C Kd.string w A0 l0.length l0) (hc0 : l0.length ≤ c0) (h : keelsonlaw22_without.f k l0 a1 = some r) :
  Calls Tryz.prog 16 #[.slice A0 l0.length c0,.string a1] w fun e w' => ∃ v0_ : Value,e = .returned (v0_) ∧ Kd.R Kd.string 9 w' w.heap.size (fun _ => True) v0_ r ∧ Below w.heap.size w w' := by
 have HR0 := Aside0.mk hr0
 have HC0 := Aside0.mk hc0
 clear hr0 hc0
 have HB := Aside0.mk (Below.refl w.heap.size w)
 have H : (keelsonlaw22_without.l0 k l0 a1 ([] : List ByteArray) 0) = some r := h
 clear h
 have H' := Aside0.mk H
 clear H
 go_enter Tryz.func16,Tryz.ntmps16
 go_wp2
 go_loopg [5,6] k (fun kq v5 v6 w' => ∃ (x5_1 : List ByteArray) (x6_1 : Int),v6 = .int .i64 x6_1 ∧ Aside0 (keelsonlaw22_without.l0 kq l0 a1 x5_1 x6_1 = some r) ∧ Aside0 (kq ≤ k) ∧ Aside0 (Kd.R Kd.string 9 w' w.heap.size (fun _ => True) v5 x5_1) ∧ Aside0 (Below w.heap.size w w'))
 case atStart => exact ⟨(([] : List ByteArray)),(0),(by first|rfl|(simp;done)|(simp [*];done)|(simp [qam];done)),H',⟨Nat.le_refl _⟩,⟨by first|exact Kd.R_nil _ _ _ _ _|exact Kd.N_nil _ _ _ _ _|exact Kd.V_nil _ _ _ _ _|exact Kd.Q_nil _ _ _ _ _|exact Kd.S_nil _ _ _ _ _⟩,⟨by repeat (with_reducible first|exact HB.out|apply qab|apply qaa|apply qac)⟩⟩
 case round =>
  clear H'
  try clear c1
  try clear p2
  obtain ⟨x5_1,x6_1,rfl,HA,HK1,HO_5,HB⟩ := hrel
  cases gk with
  | zero => exact absurd HA.out (by simp [keelsonlaw22_without.l0])
  | succ k1 =>
   have H := HA.out
   clear HA
   simp only [keelsonlaw22_without.l0] at H
   by_cases c3 : x6_1 < (l0.length : Int)
   ·rw [if_pos c3] at H
    have c3b0 : decide (x6_1 < (l0.length : Int)) = true := decide_eq_true c3
    clear c3
    by_cases c4 : 0 ≤ x6_1
    ·rw [if_pos c4] at H
     have c4b0 : decide (0 ≤ x6_1) = true := decide_eq_true c4
     clear c4
     by_cases c5 : (rdOf ByteArray.empty l0 x6_1).toList = a1.toList
     ·rw [if_pos c5] at H
      have c5b0 : ((rdOf ByteArray.empty l0 x6_1).toList == a1.toList) = true := beq_iff_eq.mpr c5
      have c5b1 : ((rdOf ByteArray.empty l0 x6_1).toList != a1.toList) = false := bne_eq_false_iff_eq.mpr c5
      clear c5
      have H' := Aside0.mk H
      clear H
      have p335 : 0 ≤ (x6_1 : Int) := of_decide_eq_true (by assumption)
      have q335 : x6_1 < (l0.length : Int) := of_decide_eq_true (by assumption)
      obtain ⟨ad335,e335,hx335_0⟩ := Kd.at_string HR0.out x6_1 p335 q335
      cases e335
      replace hx335_0 := (HB.out.cell (World.block_lt_of_cell? w _ hx335_0)).trans hx335_0
      replace p335 := eq_true p335
      replace q335 := eq_true q335
      go_wp2
      go_roundg k1
      case measure => have := HK1.out;omega
      case rel => exact ⟨(x5_1),(wrap64 (x6_1 + 1)),(by first|rfl|(simp;done)|(simp [*];done)|(simp [qam];done)),H',⟨by have := HK1.out;omega⟩,⟨by (with_reducible repeat (first|apply Kd.R_alloc|apply Kd.R_drewN|apply Kd.R_drew));exact HO_5.out⟩,⟨by repeat (with_reducible first|exact HB.out|apply qab|apply qaa|apply qac)⟩⟩
     ·rw [if_neg c5] at H
      have c5b0 : ((rdOf ByteArray.empty l0 x6_1).toList == a1.toList) = false := beq_eq_false_iff_ne.mpr c5
      have c5b1 : ((rdOf ByteArray.empty l0 x6_1).toList != a1.toList) = true := bne_iff_ne.mpr c5
      by_cases c6 : x5_1.length < 8796093022208
      ·rw [if_pos c6] at H
       have LMc6 := Aside0.mk c6
       clear c6
       obtain ⟨y337,hy337⟩ : ∃ y_ : List ByteArray,y_ = (x5_1 ++ [rdOf ByteArray.empty l0 x6_1]) := ⟨_,rfl⟩
       replace H : (keelsonlaw22_without.l0 k1 l0 a1 y337 (wrap64 (x6_1 + 1))) = some r := by first|(rw [hy337];with_reducible exact H)|(have H2_ := (Option.bind_some _ _).symm.trans H;rw [hy337];with_reducible exact H2_)|(have H2_ := (Option.bind_some _ _).symm.trans H;with_reducible exact H2_) | with_reducible exact H|(rw [hy337];exact H)|exact H
       have Ny337 := Aside0.mk hy337
       clear hy337
       have H' := Aside0.mk H
       clear H
       have p335 : 0 ≤ (x6_1 : Int) := of_decide_eq_true (by assumption)
       have q335 : x6_1 < (l0.length : Int) := of_decide_eq_true (by assumption)
       obtain ⟨ad335,e335,hx335_0⟩ := Kd.at_string HR0.out x6_1 p335 q335
       cases e335
       replace hx335_0 := (HB.out.cell (World.block_lt_of_cell? w _ hx335_0)).trans hx335_0
       replace p335 := eq_true p335
       replace q335 := eq_true q335
       have p336 : 0 ≤ (x6_1 : Int) := of_decide_eq_true (by assumption)
       have q336 : x6_1 < (l0.length : Int) := of_decide_eq_true (by assumption)
       obtain ⟨ad336,e336,hx336_0⟩ := Kd.at_string HR0.out x6_1 p336 q336
       obtain rfl : ad335 = ad336 := (by injection e336)
       replace hx336_0 := (HB.out.cell (World.block_lt_of_cell? w _ hx336_0)).trans hx336_0
       replace p336 := eq_true p336
       replace q336 := eq_true q336
       go_wp2_with (first|((with_reducible refine gate_builtin (b := .append) (xs := #[.tmp 19,.tmp 24]) rfl ?_);at_builtin;refine Kd.R_append Kd.string (w0 := w) w.heap.size rfl (.tmp 19) (.tmp 24) 33 9 (.string ⟨#[]⟩) 16 rfl Tryz.underlying33 info9 rfl (by decide) (by omega) u5 x5_1 (rdOf ByteArray.empty l0 x6_1) [.string (rdOf ByteArray.empty l0 x6_1)] (fun _ => True) (fun _ => False) rfl rfl ?aP (fun _ hk => hk.elim) ?aF ?aO ?aB ?aS ?aL ?_;(case aP => exact rfl);(case aB => exact (by repeat (with_reducible first|exact HB.out|apply qab|apply qaa|apply qac)));(case aF => exact (fun _ _ => trivial));(case aO => exact (by (with_reducible repeat (first|apply Kd.R_alloc|apply Kd.R_drewN|apply Kd.R_drew));exact HO_5.out));(case aS => exact (qao (by repeat (with_reducible first|exact HB.out|apply qab|apply qaa|apply qac))));(case aL => have := LMc6.out;omega);intro v338 w7 ho hb hg hat;rw [← Ny337.out] at ho;have n0_ := Aside0.mk (hb);have n1_ := Aside0.mk (ho);clear HB;clear HO_5;have HB := n0_;have HO339 := n1_;clear n0_ n1_;clear ho hb hg hat))
       go_roundg k1
       case measure => have := HK1.out;omega
       case rel => exact ⟨(y337),(wrap64 (x6_1 + 1)),(by first|rfl|(simp;done)|(simp [*];done)|(simp [qam];done)),H',⟨by have := HK1.out;omega⟩,⟨by (with_reducible repeat (first|apply Kd.R_alloc|apply Kd.R_drewN|apply Kd.R_drew));exact HO339.out⟩,⟨by repeat (with_reducible first|exact HB.out|apply qab|apply qaa|apply qac)⟩⟩
      ·rw [if_neg c6] at H
       exact absurd H (by simp)
    ·rw [if_neg c4] at H
     exact absurd H (by simp)
   ·rw [if_neg c3] at H
    have c3b0 : decide (x6_1 < (l0.length : Int)) = false := decide_eq_false c3
    clear c3
    obtain rfl := Option.some.inj H
    go_wp2
    go_ret
    exact ⟨_,by first|rfl|(simp [qaj,qak]<;>rfl)|(simp [*,qaj,qak]<;>rfl),by (with_reducible repeat (first|apply Kd.R_alloc|apply Kd.R_drewN|apply Kd.R_drew));exact HO_5.out,by repeat (with_reducible first|exact HB.out|apply qab|apply qaa|apply qac)⟩
def keelsonlaw22_versions.l0 : Nat → List (S39) → List (S39) → Int → Option (Bool)
 | 0,_,_,_ => none
 | k + 1,x0,x1,x5 => if x5 < (x0.length : Int) then (if 0 ≤ x5 then (if x5 < (x1.length : Int) then (if ((rd_T39 x0 x5).f0.f0).toList = ((rd_T39 x1 x5).f0.f0).toList then (if ((rd_T39 x0 x5).f0.f1).toList = ((rd_T39 x1 x5).f0.f1).toList then (keelsonlaw22_versions.l0 k x0 x1 (wrap64 (x5 + 1))) else (some false)) else (some false)) else (none)) else (none)) else (some true)
def keelsonlaw22_versions.f (k : Nat) (l0 : List (S39)) (l1 : List (S39)) : Option (Bool) := if (l0.length : Int) = (l1.length : Int) then (keelsonlaw22_versions.l0 k l0 l1 0) else (some false)
theorem keelsonlaw22_versions.mono_l : ∀ k,(∀ y0 y1 y2,LeO (keelsonlaw22_versions.l0 k y0 y1 y2) (keelsonlaw22_versions.l0 (k + 1) y0 y1 y2))
 | 0 => fun _ _ _ r h => by simp [keelsonlaw22_versions.l0] at h
 | k + 1 => by
  have ih0 := keelsonlaw22_versions.mono_l k
  ·intro y0 y1 y2
   unfold keelsonlaw22_versions.l0
   repeat' first
   | (with_reducible exact ih0 _ _ _)
   | (with_reducible exact LeO.refl _)
   | (with_reducible exact LeO.none _)
   | (with_reducible refine LeO.ite ?_ ?_)
   | (with_reducible refine LeO.bind ?_ (fun _ => ?_))
theorem keelsonlaw22_versions.mono : ∀ a0 a1 k,LeO (keelsonlaw22_versions.f k a0 a1) (keelsonlaw22_versions.f (k + 1) a0 a1) := by
 intro a0 a1 k
 have ih0 := keelsonlaw22_versions.mono_l k
 unfold keelsonlaw22_versions.f
 repeat' first
   | (with_reducible exact ih0 _ _ _)
   | (with_reducible exact LeO.refl _)
   | (with_reducible exact LeO.none _)
   | (with_reducible refine LeO.ite ?_ ?_)
   | (with_reducible refine LeO.bind ?_ (fun _ => ?_))
theorem keelsonlaw22_versions.calls (k : Nat) (A0 : Option Addr) (c0 : Nat) (l0 : List (S39)) (A1 : Option Addr) (c1 : Nat) (l1 : List (S39)) (r : Bool) (w : World) (hG : GL w) (hr0 : Kd.C k39 w A0 l0.length l0) (hc0 : l0.length ≤ c0) (hr1 : Kd.C k39 w A1 l1.length l1) (hc1 : l1.length ≤ c1) (h : keelsonlaw22_versions.f k l0 l1 = some r) :
  Calls Tryz.prog 17 #[.slice A0 l0.length c0,.slice A1 l1.length c1] w fun e w' => e = .returned (.bool r) ∧ Drawn0 w w' := by
 have HR0 := Aside0.mk hr0
 have HC0 := Aside0.mk hc0
 clear hr0 hc0
 have HR1 := Aside0.mk hr1
 have HC1 := Aside0.mk hc1
 clear hr1 hc1
 have H : (if (l0.length : Int) = (l1.length : Int) then (keelsonlaw22_versions.l0 k l0 l1 0) else (some false)) = some r := h
 clear h
 by_cases c3 : (l0.length : Int) = (l1.length : Int)
 ·rw [if_pos c3] at H
  have c3b0 : ((l0.length : Int) == (l1.length : Int)) = true := beq_iff_eq.mpr c3
  have c3b1 : ((l0.length : Int) != (l1.length : Int)) = false := bne_eq_false_iff_eq.mpr c3
  have c3b2 : (l0.length == l1.length) = true := by first|simpa using c3|(simp at c3 ⊢;omega)
  clear c3
  have H' := Aside0.mk H
  clear H
  go_enter Tryz.func17,Tryz.ntmps17
  go_wp2
  repeat (go_quiet (fail);try go_wp2)
  go_loopg [5] k (fun kq v5 w' => ∃ (x5_1 : Int),v5 = .int .i64 x5_1 ∧ Aside0 (keelsonlaw22_versions.l0 kq l0 l1 x5_1 = some r) ∧ Aside0 (kq ≤ k) ∧ Drawn0 w w')
  case atStart => exact ⟨(0),(by first|rfl|(simp;done)|(simp [*];done)|(simp [qam];done)),H',⟨Nat.le_refl _⟩,by repeat (first|exact Drawn0.refl _|apply Drawn0.step)⟩
  case round =>
   clear H'
   try clear c1
   try clear p2
   try clear c3
   try clear c3b0
   try clear c3b1
   try clear c3b2
   obtain ⟨x5_1,rfl,HA,HK1,⟨m1,rfl⟩⟩ := hrel
   cases gk with
   | zero => exact absurd HA.out (by simp [keelsonlaw22_versions.l0])
   | succ k1 =>
    have H := HA.out
    clear HA
    simp only [keelsonlaw22_versions.l0] at H
    by_cases c4 : x5_1 < (l0.length : Int)
    ·rw [if_pos c4] at H
     have c4b0 : decide (x5_1 < (l0.length : Int)) = true := decide_eq_true c4
     clear c4
     by_cases c5 : 0 ≤ x5_1
     ·rw [if_pos c5] at H
      have c5b0 : decide (0 ≤ x5_1) = true := decide_eq_true c5
      clear c5
      by_cases c6 : x5_1 < (l1.length : Int)
      ·rw [if_pos c6] at H
       have c6b0 : decide (x5_1 < (l1.length : Int)) = true := decide_eq_true c6
       clear c6
       by_cases c7 : ((rd_T39 l0 x5_1).f0.f0).toList = ((rd_T39 l1 x5_1).f0.f0).toList
       ·rw [if_pos c7] at H
        have c7b0 : (((rd_T39 l0 x5_1).f0.f0).toList == ((rd_T39 l1 x5_1).f0.f0).toList) = true := beq_iff_eq.mpr c7
        have c7b1 : (((rd_T39 l0 x5_1).f0.f0).toList != ((rd_T39 l1 x5_1).f0.f0).toList) = false := bne_eq_false_iff_eq.mpr c7
        clear c7
        by_cases c8 : ((rd_T39 l0 x5_1).f0.f1).toList = ((rd_T39 l1 x5_1).f0.f1).toList
        ·rw [if_pos c8] at H
         have c8b0 : (((rd_T39 l0 x5_1).f0.f1).toList == ((rd_T39 l1 x5_1).f0.f1).toList) = true := beq_iff_eq.mpr c8
         have c8b1 : (((rd_T39 l0 x5_1).f0.f1).toList != ((rd_T39 l1 x5_1).f0.f1).toList) = false := bne_eq_false_iff_eq.mpr c8
         clear c8
         have H' := Aside0.mk H
         clear H
         have p340 : 0 ≤ (x5_1 : Int) := of_decide_eq_true (by assumption)
         have q340 : x5_1 < (l0.length : Int) := of_decide_eq_true (by assumption)
         obtain ⟨ad340,A340_2,c340_2,A340_3,c340_3,A340_4,c340_4,A340_5,c340_5,e340,hx340_0,hx340_1,hx340_2,hx340_3,hx340_4,hx340_5,hx340_6,hx340_7,hl340_2,hi340_2,hl340_3,hi340_3,hl340_4,hi340_4,hl340_5,hi340_5⟩ := at_T39 HR0.out x5_1 p340 q340
         cases e340
         have HR340_2 := Aside0.mk hi340_2
         have HC340_2 := Aside0.mk hl340_2
         clear hi340_2 hl340_2
         have HR340_3 := Aside0.mk hi340_3
         have HC340_3 := Aside0.mk hl340_3
         clear hi340_3 hl340_3
         have HR340_4 := Aside0.mk hi340_4
         have HC340_4 := Aside0.mk hl340_4
         clear hi340_4 hl340_4
         have HR340_5 := Aside0.mk hi340_5
         have HC340_5 := Aside0.mk hl340_5
         clear hi340_5 hl340_5
         replace p340 := eq_true p340
         replace q340 := eq_true q340
         have p341 : 0 ≤ (x5_1 : Int) := of_decide_eq_true (by assumption)
         have q341 : x5_1 < (l1.length : Int) := of_decide_eq_true (by assumption)
         obtain ⟨ad341,A341_2,c341_2,A341_3,c341_3,A341_4,c341_4,A341_5,c341_5,e341,hx341_0,hx341_1,hx341_2,hx341_3,hx341_4,hx341_5,hx341_6,hx341_7,hl341_2,hi341_2,hl341_3,hi341_3,hl341_4,hi341_4,hl341_5,hi341_5⟩ := at_T39 HR1.out x5_1 p341 q341
         cases e341
         have HR341_2 := Aside0.mk hi341_2
         have HC341_2 := Aside0.mk hl341_2
         clear hi341_2 hl341_2
         have HR341_3 := Aside0.mk hi341_3
         have HC341_3 := Aside0.mk hl341_3
         clear hi341_3 hl341_3
         have HR341_4 := Aside0.mk hi341_4
         have HC341_4 := Aside0.mk hl341_4
         clear hi341_4 hl341_4
         have HR341_5 := Aside0.mk hi341_5
         have HC341_5 := Aside0.mk hl341_5
         clear hi341_5 hl341_5
         replace p341 := eq_true p341
         replace q341 := eq_true q341
         have p342 : 0 ≤ (x5_1 : Int) := of_decide_eq_true (by assumption)
         have q342 : x5_1 < (l0.length : Int) := of_decide_eq_true (by assumption)
         obtain ⟨ad342,A342_2,c342_2,A342_3,c342_3,A342_4,c342_4,A342_5,c342_5,e342,hx342_0,hx342_1,hx342_2,hx342_3,hx342_4,hx342_5,hx342_6,hx342_7,hl342_2,hi342_2,hl342_3,hi342_3,hl342_4,hi342_4,hl342_5,hi342_5⟩ := at_T39 HR0.out x5_1 p342 q342
         obtain rfl : ad340 = ad342 := (by injection e342)
         have HR342_2 := Aside0.mk hi342_2
         have HC342_2 := Aside0.mk hl342_2
         clear hi342_2 hl342_2
         have HR342_3 := Aside0.mk hi342_3
         have HC342_3 := Aside0.mk hl342_3
         clear hi342_3 hl342_3
         have HR342_4 := Aside0.mk hi342_4
         have HC342_4 := Aside0.mk hl342_4
         clear hi342_4 hl342_4
         have HR342_5 := Aside0.mk hi342_5
         have HC342_5 := Aside0.mk hl342_5
         clear hi342_5 hl342_5
         replace p342 := eq_true p342
         replace q342 := eq_true q342
         have ea_ := Option.some.inj (hx340_2.symm.trans hx342_2)
         injection ea_ with ea_ en_ ec_
         subst ea_
         subst ec_
         clear en_
         have ea_ := Option.some.inj (hx340_3.symm.trans hx342_3)
         injection ea_ with ea_ en_ ec_
         subst ea_
         subst ec_
         clear en_
         have ea_ := Option.some.inj (hx340_4.symm.trans hx342_4)
         injection ea_ with ea_ en_ ec_
         subst ea_
         subst ec_
         clear en_
         have ea_ := Option.some.inj (hx340_5.symm.trans hx342_5)
         injection ea_ with ea_ en_ ec_
         subst ea_
         subst ec_
         clear en_
         have p343 : 0 ≤ (x5_1 : Int) := of_decide_eq_true (by assumption)
         have q343 : x5_1 < (l1.length : Int) := of_decide_eq_true (by assumption)
         obtain ⟨ad343,A343_2,c343_2,A343_3,c343_3,A343_4,c343_4,A343_5,c343_5,e343,hx343_0,hx343_1,hx343_2,hx343_3,hx343_4,hx343_5,hx343_6,hx343_7,hl343_2,hi343_2,hl343_3,hi343_3,hl343_4,hi343_4,hl343_5,hi343_5⟩ := at_T39 HR1.out x5_1 p343 q343
         obtain rfl : ad341 = ad343 := (by injection e343)
         have HR343_2 := Aside0.mk hi343_2
         have HC343_2 := Aside0.mk hl343_2
         clear hi343_2 hl343_2
         have HR343_3 := Aside0.mk hi343_3
         have HC343_3 := Aside0.mk hl343_3
         clear hi343_3 hl343_3
         have HR343_4 := Aside0.mk hi343_4
         have HC343_4 := Aside0.mk hl343_4
         clear hi343_4 hl343_4
         have HR343_5 := Aside0.mk hi343_5
         have HC343_5 := Aside0.mk hl343_5
         clear hi343_5 hl343_5
         replace p343 := eq_true p343
         replace q343 := eq_true q343
         have ea_ := Option.some.inj (hx341_2.symm.trans hx343_2)
         injection ea_ with ea_ en_ ec_
         subst ea_
         subst ec_
         clear en_
         have ea_ := Option.some.inj (hx341_3.symm.trans hx343_3)
         injection ea_ with ea_ en_ ec_
         subst ea_
         subst ec_
         clear en_
         have ea_ := Option.some.inj (hx341_4.symm.trans hx343_4)
         injection ea_ with ea_ en_ ec_
         subst ea_
         subst ec_
         clear en_
         have ea_ := Option.some.inj (hx341_5.symm.trans hx343_5)
         injection ea_ with ea_ en_ ec_
         subst ea_
         subst ec_
         clear en_
         go_wp2
         repeat (go_quiet (fail);try go_wp2)
         go_roundg k1
         case measure => have := HK1.out;omega
         case rel => exact ⟨(wrap64 (x5_1 + 1)),(by first|rfl|(simp;done)|(simp [*];done)|(simp [qam];done)),H',⟨by have := HK1.out;omega⟩,by repeat (first|exact Drawn0.refl _|apply Drawn0.step)⟩
        ·rw [if_neg c8] at H
         have c8b0 : (((rd_T39 l0 x5_1).f0.f1).toList == ((rd_T39 l1 x5_1).f0.f1).toList) = false := beq_eq_false_iff_ne.mpr c8
         have c8b1 : (((rd_T39 l0 x5_1).f0.f1).toList != ((rd_T39 l1 x5_1).f0.f1).toList) = true := bne_iff_ne.mpr c8
         obtain rfl := Option.some.inj H
         have p340 : 0 ≤ (x5_1 : Int) := of_decide_eq_true (by assumption)
         have q340 : x5_1 < (l0.length : Int) := of_decide_eq_true (by assumption)
         obtain ⟨ad340,A340_2,c340_2,A340_3,c340_3,A340_4,c340_4,A340_5,c340_5,e340,hx340_0,hx340_1,hx340_2,hx340_3,hx340_4,hx340_5,hx340_6,hx340_7,hl340_2,hi340_2,hl340_3,hi340_3,hl340_4,hi340_4,hl340_5,hi340_5⟩ := at_T39 HR0.out x5_1 p340 q340
         cases e340
         have HR340_2 := Aside0.mk hi340_2
         have HC340_2 := Aside0.mk hl340_2
         clear hi340_2 hl340_2
         have HR340_3 := Aside0.mk hi340_3
         have HC340_3 := Aside0.mk hl340_3
         clear hi340_3 hl340_3
         have HR340_4 := Aside0.mk hi340_4
         have HC340_4 := Aside0.mk hl340_4
         clear hi340_4 hl340_4
         have HR340_5 := Aside0.mk hi340_5
         have HC340_5 := Aside0.mk hl340_5
         clear hi340_5 hl340_5
         replace p340 := eq_true p340
         replace q340 := eq_true q340
         have p341 : 0 ≤ (x5_1 : Int) := of_decide_eq_true (by assumption)
         have q341 : x5_1 < (l1.length : Int) := of_decide_eq_true (by assumption)
         obtain ⟨ad341,A341_2,c341_2,A341_3,c341_3,A341_4,c341_4,A341_5,c341_5,e341,hx341_0,hx341_1,hx341_2,hx341_3,hx341_4,hx341_5,hx341_6,hx341_7,hl341_2,hi341_2,hl341_3,hi341_3,hl341_4,hi341_4,hl341_5,hi341_5⟩ := at_T39 HR1.out x5_1 p341 q341
         cases e341
         have HR341_2 := Aside0.mk hi341_2
         have HC341_2 := Aside0.mk hl341_2
         clear hi341_2 hl341_2
         have HR341_3 := Aside0.mk hi341_3
         have HC341_3 := Aside0.mk hl341_3
         clear hi341_3 hl341_3
         have HR341_4 := Aside0.mk hi341_4
         have HC341_4 := Aside0.mk hl341_4
         clear hi341_4 hl341_4
         have HR341_5 := Aside0.mk hi341_5
         have HC341_5 := Aside0.mk hl341_5
         clear hi341_5 hl341_5
         replace p341 := eq_true p341
         replace q341 := eq_true q341
         have p342 : 0 ≤ (x5_1 : Int) := of_decide_eq_true (by assumption)
         have q342 : x5_1 < (l0.length : Int) := of_decide_eq_true (by assumption)
         obtain ⟨ad342,A342_2,c342_2,A342_3,c342_3,A342_4,c342_4,A342_5,c342_5,e342,hx342_0,hx342_1,hx342_2,hx342_3,hx342_4,hx342_5,hx342_6,hx342_7,hl342_2,hi342_2,hl342_3,hi342_3,hl342_4,hi342_4,hl342_5,hi342_5⟩ := at_T39 HR0.out x5_1 p342 q342
         obtain rfl : ad340 = ad342 := (by injection e342)
         have HR342_2 := Aside0.mk hi342_2
         have HC342_2 := Aside0.mk hl342_2
         clear hi342_2 hl342_2
         have HR342_3 := Aside0.mk hi342_3
         have HC342_3 := Aside0.mk hl342_3
         clear hi342_3 hl342_3
         have HR342_4 := Aside0.mk hi342_4
         have HC342_4 := Aside0.mk hl342_4
         clear hi342_4 hl342_4
         have HR342_5 := Aside0.mk hi342_5
         have HC342_5 := Aside0.mk hl342_5
         clear hi342_5 hl342_5
         replace p342 := eq_true p342
         replace q342 := eq_true q342
         have ea_ := Option.some.inj (hx340_2.symm.trans hx342_2)
         injection ea_ with ea_ en_ ec_
         subst ea_
         subst ec_
         clear en_
         have ea_ := Option.some.inj (hx340_3.symm.trans hx342_3)
         injection ea_ with ea_ en_ ec_
         subst ea_
         subst ec_
         clear en_
         have ea_ := Option.some.inj (hx340_4.symm.trans hx342_4)
         injection ea_ with ea_ en_ ec_
         subst ea_
         subst ec_
         clear en_
         have ea_ := Option.some.inj (hx340_5.symm.trans hx342_5)
         injection ea_ with ea_ en_ ec_
         subst ea_
         subst ec_
         clear en_
         have p343 : 0 ≤ (x5_1 : Int) := of_decide_eq_true (by assumption)
         have q343 : x5_1 < (l1.length : Int) := of_decide_eq_true (by assumption)
         obtain ⟨ad343,A343_2,c343_2,A343_3,c343_3,A343_4,c343_4,A343_5,c343_5,e343,hx343_0,hx343_1,hx343_2,hx343_3,hx343_4,hx343_5,hx343_6,hx343_7,hl343_2,hi343_2,hl343_3,hi343_3,hl343_4,hi343_4,hl343_5,hi343_5⟩ := at_T39 HR1.out x5_1 p343 q343
         obtain rfl : ad341 = ad343 := (by injection e343)
         have HR343_2 := Aside0.mk hi343_2
         have HC343_2 := Aside0.mk hl343_2
         clear hi343_2 hl343_2
         have HR343_3 := Aside0.mk hi343_3
         have HC343_3 := Aside0.mk hl343_3
         clear hi343_3 hl343_3
         have HR343_4 := Aside0.mk hi343_4
         have HC343_4 := Aside0.mk hl343_4
         clear hi343_4 hl343_4
         have HR343_5 := Aside0.mk hi343_5
         have HC343_5 := Aside0.mk hl343_5
         clear hi343_5 hl343_5
         replace p343 := eq_true p343
         replace q343 := eq_true q343
         have ea_ := Option.some.inj (hx341_2.symm.trans hx343_2)
         injection ea_ with ea_ en_ ec_
         subst ea_
         subst ec_
         clear en_
         have ea_ := Option.some.inj (hx341_3.symm.trans hx343_3)
         injection ea_ with ea_ en_ ec_
         subst ea_
         subst ec_
         clear en_
         have ea_ := Option.some.inj (hx341_4.symm.trans hx343_4)
         injection ea_ with ea_ en_ ec_
         subst ea_
         subst ec_
         clear en_
         have ea_ := Option.some.inj (hx341_5.symm.trans hx343_5)
         injection ea_ with ea_ en_ ec_
         subst ea_
         subst ec_
         clear en_
         go_wp2
         repeat (go_quiet (fail);try go_wp2)
         go_ret
         exact ⟨by first|rfl|(simp;done)|(simp [*];done)|(simp [qam];done),by repeat (first|exact Drawn0.refl _|apply Drawn0.step)⟩
       ·rw [if_neg c7] at H
        have c7b0 : (((rd_T39 l0 x5_1).f0.f0).toList == ((rd_T39 l1 x5_1).f0.f0).toList) = false := beq_eq_false_iff_ne.mpr c7
        have c7b1 : (((rd_T39 l0 x5_1).f0.f0).toList != ((rd_T39 l1 x5_1).f0.f0).toList) = true := bne_iff_ne.mpr c7
        obtain rfl := Option.some.inj H
        have p340 : 0 ≤ (x5_1 : Int) := of_decide_eq_true (by assumption)
        have q340 : x5_1 < (l0.length : Int) := of_decide_eq_true (by assumption)
        obtain ⟨ad340,A340_2,c340_2,A340_3,c340_3,A340_4,c340_4,A340_5,c340_5,e340,hx340_0,hx340_1,hx340_2,hx340_3,hx340_4,hx340_5,hx340_6,hx340_7,hl340_2,hi340_2,hl340_3,hi340_3,hl340_4,hi340_4,hl340_5,hi340_5⟩ := at_T39 HR0.out x5_1 p340 q340
        cases e340
        have HR340_2 := Aside0.mk hi340_2
        have HC340_2 := Aside0.mk hl340_2
        clear hi340_2 hl340_2
        have HR340_3 := Aside0.mk hi340_3
        have HC340_3 := Aside0.mk hl340_3
        clear hi340_3 hl340_3
        have HR340_4 := Aside0.mk hi340_4
        have HC340_4 := Aside0.mk hl340_4
        clear hi340_4 hl340_4
        have HR340_5 := Aside0.mk hi340_5
        have HC340_5 := Aside0.mk hl340_5
        clear hi340_5 hl340_5
        replace p340 := eq_true p340
        replace q340 := eq_true q340
        have p341 : 0 ≤ (x5_1 : Int) := of_decide_eq_true (by assumption)
        have q341 : x5_1 < (l1.length : Int) := of_decide_eq_true (by assumption)
        obtain ⟨ad341,A341_2,c341_2,A341_3,c341_3,A341_4,c341_4,A341_5,c341_5,e341,hx341_0,hx341_1,hx341_2,hx341_3,hx341_4,hx341_5,hx341_6,hx341_7,hl341_2,hi341_2,hl341_3,hi341_3,hl341_4,hi341_4,hl341_5,hi341_5⟩ := at_T39 HR1.out x5_1 p341 q341
        cases e341
        have HR341_2 := Aside0.mk hi341_2
        have HC341_2 := Aside0.mk hl341_2
        clear hi341_2 hl341_2
        have HR341_3 := Aside0.mk hi341_3
        have HC341_3 := Aside0.mk hl341_3
        clear hi341_3 hl341_3
        have HR341_4 := Aside0.mk hi341_4
        have HC341_4 := Aside0.mk hl341_4
        clear hi341_4 hl341_4
        have HR341_5 := Aside0.mk hi341_5
        have HC341_5 := Aside0.mk hl341_5
        clear hi341_5 hl341_5
        replace p341 := eq_true p341
        replace q341 := eq_true q341
        go_wp2
        repeat (go_quiet (fail);try go_wp2)
        go_ret
        exact ⟨by first|rfl|(simp;done)|(simp [*];done)|(simp [qam];done),by repeat (first|exact Drawn0.refl _|apply Drawn0.step)⟩
      ·rw [if_neg c6] at H
       exact absurd H (by simp)
     ·rw [if_neg c5] at H
      exact absurd H (by simp)
    ·rw [if_neg c4] at H
     have c4b0 : decide (x5_1 < (l0.length : Int)) = false := decide_eq_false c4
     clear c4
     obtain rfl := Option.some.inj H
     go_wp2
     repeat (go_quiet (fail);try go_wp2)
     go_ret
     exact ⟨by first|rfl|(simp;done)|(simp [*];done)|(simp [qam];done),by repeat (first|exact Drawn0.refl _|apply Drawn0.step)⟩
 ·rw [if_neg c3] at H
  have c3b0 : ((l0.length : Int) == (l1.length : Int)) = false := beq_eq_false_iff_ne.mpr c3
  have c3b1 : ((l0.length : Int) != (l1.length : Int)) = true := bne_iff_ne.mpr c3
  have c3b2 : (l0.length == l1.length) = false := by first|simpa using c3|(simp at c3 ⊢;omega)
  obtain rfl := Option.some.inj H
  go_enter Tryz.func17,Tryz.ntmps17
  go_wp2
  repeat (go_quiet (fail);try go_wp2)
  go_ret
  exact ⟨by first|rfl|(simp;done)|(simp [*];done)|(simp [qam];done),by repeat (first|exact Drawn0.refl _|apply Drawn0.step)⟩
end Go.Proofs.YtiidmjmkgjfaeaaGreatDoor.PA
