
import Derived.Test.YtohijjobmmibcaaDoorPAx0
import Derived.Test.YtohijjobmmibcaaDoorPAx5
import Derived.Test.YtohijjobmmibcaaDoorPAx7
namespace Go.Proofs.YtohijjobmmibcaaDoor.PA
open Go.RowKit Go.Proofs.YtohijjobmmibcaaDoorW.PrintWords Go.Proofs.YtohijjobmmibcaaDoorW.PrintLast Go.Proofs.YtohijjobmmibcaaDoorW.PrintMore
attribute [local go_sem] max2_int min2_int max_two min_two max_three min_three max_four min_four
set_option linter.unusedVariables false
set_option linter.unusedSimpArgs false
mutual
def keelsonlaw3_RelationOne.j0 : Nat → ByteArray → ByteArray → Bool → Bool → Option (Bool)
  | 0, _, _, _, _ => none
  | k + 1, x0, x1, x5, x23 => if x23 = true then (some x5) else ((relation_Holds.f k 1 x0 x1).bind fun t238 => ((relation_Holds.f k 3 x0 x1).bind fun t239 => ((relation_Holds.f k 5 x0 x1).bind fun t240 => (if t238 = true then (keelsonlaw3_RelationOne.j1 k x0 x1 t238 t239 t240 (0 + 1)) else (keelsonlaw3_RelationOne.j1 k x0 x1 t238 t239 t240 0)))))
def keelsonlaw3_RelationOne.j1 : Nat → ByteArray → ByteArray → Bool → Bool → Bool → Int → Option (Bool)
  | 0, _, _, _, _, _, _ => none
  | k + 1, x0, x1, x6, x7, x8, x9 => if x7 = true then (keelsonlaw3_RelationOne.j2 k x0 x1 x6 x7 x8 (wrap64 (x9 + 1))) else (keelsonlaw3_RelationOne.j2 k x0 x1 x6 x7 x8 x9)
def keelsonlaw3_RelationOne.j2 : Nat → ByteArray → ByteArray → Bool → Bool → Bool → Int → Option (Bool)
  | 0, _, _, _, _, _, _ => none
  | k + 1, x0, x1, x6, x7, x8, x9 => if x8 = true then (keelsonlaw3_RelationOne.j3 k x0 x1 x6 x7 x8 (wrap64 (x9 + 1))) else (keelsonlaw3_RelationOne.j3 k x0 x1 x6 x7 x8 x9)
def keelsonlaw3_RelationOne.j3 : Nat → ByteArray → ByteArray → Bool → Bool → Bool → Int → Option (Bool)
  | 0, _, _, _, _, _, _ => none
  | k + 1, x0, x1, x6, x7, x8, x9 => (relation_Holds.f k 3 x0 x0).bind fun t241 => (if t241 = true then ((relation_Holds.f k 3 x1 x1).bind fun t242 => (keelsonlaw3_RelationOne.j4 k x0 x1 x6 x7 x8 x9 t242)) else (keelsonlaw3_RelationOne.j4 k x0 x1 x6 x7 x8 x9 false))
def keelsonlaw3_RelationOne.j4 : Nat → ByteArray → ByteArray → Bool → Bool → Bool → Int → Bool → Option (Bool)
  | 0, _, _, _, _, _, _, _ => none
  | k + 1, x0, x1, x6, x7, x8, x9, x10 => if (x10 != (x9 == 1)) = true then (keelsonlaw3_RelationOne.j5 k x0 x1 x6 x7 x8 true) else (if x10 = true then ((relation_Holds.f k 0 x0 x1).bind fun t243 => (keelsonlaw3_RelationOne.j5 k x0 x1 x6 x7 x8 (!t243))) else (if x9 = 0 then ((relation_Holds.f k 0 x0 x1).bind fun t244 => (keelsonlaw3_RelationOne.j5 k x0 x1 x6 x7 x8 (!t244))) else (keelsonlaw3_RelationOne.j5 k x0 x1 x6 x7 x8 true)))
def keelsonlaw3_RelationOne.j5 : Nat → ByteArray → ByteArray → Bool → Bool → Bool → Bool → Option (Bool)
  | 0, _, _, _, _, _, _ => none
  | k + 1, x0, x1, x6, x7, x8, x68 => if x68 = true then (some false) else ((relation_Holds.f k 2 x0 x1).bind fun t245 => (if x6 = true then (if (t245 == true) = true then ((relation_Holds.f k 4 x0 x1).bind fun t246 => (if x8 = true then (if (t246 == true) = true then ((relation_Holds.f k 5 x1 x0).bind fun t247 => (if (t247 == x6) = true then ((relation_Holds.f k 3 x1 x0).bind fun t248 => (some (t248 == x7))) else (some false))) else (some false)) else (if (t246 == x7) = true then ((relation_Holds.f k 5 x1 x0).bind fun t249 => (if (t249 == x6) = true then ((relation_Holds.f k 3 x1 x0).bind fun t250 => (some (t250 == x7))) else (some false))) else (some false)))) else (some false)) else (if (t245 == x7) = true then ((relation_Holds.f k 4 x0 x1).bind fun t251 => (if x8 = true then (if (t251 == true) = true then ((relation_Holds.f k 5 x1 x0).bind fun t252 => (if (t252 == x6) = true then ((relation_Holds.f k 3 x1 x0).bind fun t253 => (some (t253 == x7))) else (some false))) else (some false)) else (if (t251 == x7) = true then ((relation_Holds.f k 5 x1 x0).bind fun t254 => (if (t254 == x6) = true then ((relation_Holds.f k 3 x1 x0).bind fun t255 => (some (t255 == x7))) else (some false))) else (some false)))) else (some false))))
end
def keelsonlaw3_RelationOne.f (k : Nat) (a0 : ByteArray) (a1 : ByteArray) : Option (Bool) := (keelsonlaw3_shown.f k).bind fun t237 => (if t237 = true then (if (a0.size : Int) > 300 then (keelsonlaw3_RelationOne.j0 k a0 a1 t237 true) else (keelsonlaw3_RelationOne.j0 k a0 a1 t237 (decide ((a1.size : Int) > 300)))) else (keelsonlaw3_RelationOne.j0 k a0 a1 t237 true))
theorem keelsonlaw3_RelationOne.mono_l : ∀ k, (∀ y0 y1 y2 y3, LeO (keelsonlaw3_RelationOne.j0 k y0 y1 y2 y3) (keelsonlaw3_RelationOne.j0 (k + 1) y0 y1 y2 y3)) ∧ (∀ y0 y1 y2 y3 y4 y5, LeO (keelsonlaw3_RelationOne.j1 k y0 y1 y2 y3 y4 y5) (keelsonlaw3_RelationOne.j1 (k + 1) y0 y1 y2 y3 y4 y5)) ∧ (∀ y0 y1 y2 y3 y4 y5, LeO (keelsonlaw3_RelationOne.j2 k y0 y1 y2 y3 y4 y5) (keelsonlaw3_RelationOne.j2 (k + 1) y0 y1 y2 y3 y4 y5)) ∧ (∀ y0 y1 y2 y3 y4 y5, LeO (keelsonlaw3_RelationOne.j3 k y0 y1 y2 y3 y4 y5) (keelsonlaw3_RelationOne.j3 (k + 1) y0 y1 y2 y3 y4 y5)) ∧ (∀ y0 y1 y2 y3 y4 y5 y6, LeO (keelsonlaw3_RelationOne.j4 k y0 y1 y2 y3 y4 y5 y6) (keelsonlaw3_RelationOne.j4 (k + 1) y0 y1 y2 y3 y4 y5 y6)) ∧ (∀ y0 y1 y2 y3 y4 y5, LeO (keelsonlaw3_RelationOne.j5 k y0 y1 y2 y3 y4 y5) (keelsonlaw3_RelationOne.j5 (k + 1) y0 y1 y2 y3 y4 y5))
  | 0 => ⟨fun _ _ _ _ r h => by simp [keelsonlaw3_RelationOne.j0] at h, fun _ _ _ _ _ _ r h => by simp [keelsonlaw3_RelationOne.j1] at h, fun _ _ _ _ _ _ r h => by simp [keelsonlaw3_RelationOne.j2] at h, fun _ _ _ _ _ _ r h => by simp [keelsonlaw3_RelationOne.j3] at h, fun _ _ _ _ _ _ _ r h => by simp [keelsonlaw3_RelationOne.j4] at h, fun _ _ _ _ _ _ r h => by simp [keelsonlaw3_RelationOne.j5] at h⟩
  | k + 1 => by
    obtain ⟨ih0, ih1, ih2, ih3, ih4, ih5⟩ := keelsonlaw3_RelationOne.mono_l k
    refine ⟨?_, ?_, ?_, ?_, ?_, ?_⟩
    · intro y0 y1 y2 y3
      unfold keelsonlaw3_RelationOne.j0
      repeat' first
      | (with_reducible exact ih0 _ _ _ _)
      | (with_reducible exact ih1 _ _ _ _ _ _)
      | (with_reducible exact ih2 _ _ _ _ _ _)
      | (with_reducible exact ih3 _ _ _ _ _ _)
      | (with_reducible exact ih4 _ _ _ _ _ _ _)
      | (with_reducible exact ih5 _ _ _ _ _ _)
      | (with_reducible exact keelsonlaw3_shown.mono _)
      | (with_reducible exact relation_Holds.mono _ _ _ _)
      | (with_reducible exact LeO.refl _)
      | (with_reducible exact LeO.none _)
      | (with_reducible refine LeO.ite ?_ ?_)
      | (with_reducible refine LeO.bind ?_ (fun _ => ?_))
      | exact ih0 _ _ _ _
      | exact ih1 _ _ _ _ _ _
      | exact ih2 _ _ _ _ _ _
      | exact ih3 _ _ _ _ _ _
      | exact ih4 _ _ _ _ _ _ _
      | exact ih5 _ _ _ _ _ _
      | exact keelsonlaw3_shown.mono _
      | exact relation_Holds.mono _ _ _ _
      | exact LeO.none _
      | refine LeO.ite ?_ ?_
      | refine LeO.bind ?_ (fun _ => ?_)
    · intro y0 y1 y2 y3 y4 y5
      unfold keelsonlaw3_RelationOne.j1
      repeat' first
      | (with_reducible exact ih0 _ _ _ _)
      | (with_reducible exact ih1 _ _ _ _ _ _)
      | (with_reducible exact ih2 _ _ _ _ _ _)
      | (with_reducible exact ih3 _ _ _ _ _ _)
      | (with_reducible exact ih4 _ _ _ _ _ _ _)
      | (with_reducible exact ih5 _ _ _ _ _ _)
      | (with_reducible exact keelsonlaw3_shown.mono _)
      | (with_reducible exact relation_Holds.mono _ _ _ _)
      | (with_reducible exact LeO.refl _)
      | (with_reducible exact LeO.none _)
      | (with_reducible refine LeO.ite ?_ ?_)
      | (with_reducible refine LeO.bind ?_ (fun _ => ?_))
      | exact ih0 _ _ _ _
      | exact ih1 _ _ _ _ _ _
      | exact ih2 _ _ _ _ _ _
      | exact ih3 _ _ _ _ _ _
      | exact ih4 _ _ _ _ _ _ _
      | exact ih5 _ _ _ _ _ _
      | exact keelsonlaw3_shown.mono _
      | exact relation_Holds.mono _ _ _ _
      | exact LeO.none _
      | refine LeO.ite ?_ ?_
      | refine LeO.bind ?_ (fun _ => ?_)
    · intro y0 y1 y2 y3 y4 y5
      unfold keelsonlaw3_RelationOne.j2
      repeat' first
      | (with_reducible exact ih0 _ _ _ _)
      | (with_reducible exact ih1 _ _ _ _ _ _)
      | (with_reducible exact ih2 _ _ _ _ _ _)
      | (with_reducible exact ih3 _ _ _ _ _ _)
      | (with_reducible exact ih4 _ _ _ _ _ _ _)
      | (with_reducible exact ih5 _ _ _ _ _ _)
      | (with_reducible exact keelsonlaw3_shown.mono _)
      | (with_reducible exact relation_Holds.mono _ _ _ _)
      | (with_reducible exact LeO.refl _)
      | (with_reducible exact LeO.none _)
      | (with_reducible refine LeO.ite ?_ ?_)
      | (with_reducible refine LeO.bind ?_ (fun _ => ?_))
      | exact ih0 _ _ _ _
      | exact ih1 _ _ _ _ _ _
      | exact ih2 _ _ _ _ _ _
      | exact ih3 _ _ _ _ _ _
      | exact ih4 _ _ _ _ _ _ _
      | exact ih5 _ _ _ _ _ _
      | exact keelsonlaw3_shown.mono _
      | exact relation_Holds.mono _ _ _ _
      | exact LeO.none _
      | refine LeO.ite ?_ ?_
      | refine LeO.bind ?_ (fun _ => ?_)
    · intro y0 y1 y2 y3 y4 y5
      unfold keelsonlaw3_RelationOne.j3
      repeat' first
      | (with_reducible exact ih0 _ _ _ _)
      | (with_reducible exact ih1 _ _ _ _ _ _)
      | (with_reducible exact ih2 _ _ _ _ _ _)
      | (with_reducible exact ih3 _ _ _ _ _ _)
      | (with_reducible exact ih4 _ _ _ _ _ _ _)
      | (with_reducible exact ih5 _ _ _ _ _ _)
      | (with_reducible exact keelsonlaw3_shown.mono _)
      | (with_reducible exact relation_Holds.mono _ _ _ _)
      | (with_reducible exact LeO.refl _)
      | (with_reducible exact LeO.none _)
      | (with_reducible refine LeO.ite ?_ ?_)
      | (with_reducible refine LeO.bind ?_ (fun _ => ?_))
      | exact ih0 _ _ _ _
      | exact ih1 _ _ _ _ _ _
      | exact ih2 _ _ _ _ _ _
      | exact ih3 _ _ _ _ _ _
      | exact ih4 _ _ _ _ _ _ _
      | exact ih5 _ _ _ _ _ _
      | exact keelsonlaw3_shown.mono _
      | exact relation_Holds.mono _ _ _ _
      | exact LeO.none _
      | refine LeO.ite ?_ ?_
      | refine LeO.bind ?_ (fun _ => ?_)
    · intro y0 y1 y2 y3 y4 y5 y6
      unfold keelsonlaw3_RelationOne.j4
      repeat' first
      | (with_reducible exact ih0 _ _ _ _)
      | (with_reducible exact ih1 _ _ _ _ _ _)
      | (with_reducible exact ih2 _ _ _ _ _ _)
      | (with_reducible exact ih3 _ _ _ _ _ _)
      | (with_reducible exact ih4 _ _ _ _ _ _ _)
      | (with_reducible exact ih5 _ _ _ _ _ _)
      | (with_reducible exact keelsonlaw3_shown.mono _)
      | (with_reducible exact relation_Holds.mono _ _ _ _)
      | (with_reducible exact LeO.refl _)
      | (with_reducible exact LeO.none _)
      | (with_reducible refine LeO.ite ?_ ?_)
      | (with_reducible refine LeO.bind ?_ (fun _ => ?_))
      | exact ih0 _ _ _ _
      | exact ih1 _ _ _ _ _ _
      | exact ih2 _ _ _ _ _ _
      | exact ih3 _ _ _ _ _ _
      | exact ih4 _ _ _ _ _ _ _
      | exact ih5 _ _ _ _ _ _
      | exact keelsonlaw3_shown.mono _
      | exact relation_Holds.mono _ _ _ _
      | exact LeO.none _
      | refine LeO.ite ?_ ?_
      | refine LeO.bind ?_ (fun _ => ?_)
    · intro y0 y1 y2 y3 y4 y5
      unfold keelsonlaw3_RelationOne.j5
      repeat' first
      | (with_reducible exact ih0 _ _ _ _)
      | (with_reducible exact ih1 _ _ _ _ _ _)
      | (with_reducible exact ih2 _ _ _ _ _ _)
      | (with_reducible exact ih3 _ _ _ _ _ _)
      | (with_reducible exact ih4 _ _ _ _ _ _ _)
      | (with_reducible exact ih5 _ _ _ _ _ _)
      | (with_reducible exact keelsonlaw3_shown.mono _)
      | (with_reducible exact relation_Holds.mono _ _ _ _)
      | (with_reducible exact LeO.refl _)
      | (with_reducible exact LeO.none _)
      | (with_reducible refine LeO.ite ?_ ?_)
      | (with_reducible refine LeO.bind ?_ (fun _ => ?_))
      | exact ih0 _ _ _ _
      | exact ih1 _ _ _ _ _ _
      | exact ih2 _ _ _ _ _ _
      | exact ih3 _ _ _ _ _ _
      | exact ih4 _ _ _ _ _ _ _
      | exact ih5 _ _ _ _ _ _
      | exact keelsonlaw3_shown.mono _
      | exact relation_Holds.mono _ _ _ _
      | exact LeO.none _
      | refine LeO.ite ?_ ?_
      | refine LeO.bind ?_ (fun _ => ?_)
theorem keelsonlaw3_RelationOne.mono : ∀ a0 a1 k, LeO (keelsonlaw3_RelationOne.f k a0 a1) (keelsonlaw3_RelationOne.f (k + 1) a0 a1) := by
  intro a0 a1 k
  obtain ⟨ih0, ih1, ih2, ih3, ih4, ih5⟩ := keelsonlaw3_RelationOne.mono_l k
  unfold keelsonlaw3_RelationOne.f
  repeat' first
      | (with_reducible exact ih0 _ _ _ _)
      | (with_reducible exact ih1 _ _ _ _ _ _)
      | (with_reducible exact ih2 _ _ _ _ _ _)
      | (with_reducible exact ih3 _ _ _ _ _ _)
      | (with_reducible exact ih4 _ _ _ _ _ _ _)
      | (with_reducible exact ih5 _ _ _ _ _ _)
      | (with_reducible exact keelsonlaw3_shown.mono _)
      | (with_reducible exact relation_Holds.mono _ _ _ _)
      | (with_reducible exact LeO.refl _)
      | (with_reducible exact LeO.none _)
      | (with_reducible refine LeO.ite ?_ ?_)
      | (with_reducible refine LeO.bind ?_ (fun _ => ?_))
      | exact ih0 _ _ _ _
      | exact ih1 _ _ _ _ _ _
      | exact ih2 _ _ _ _ _ _
      | exact ih3 _ _ _ _ _ _
      | exact ih4 _ _ _ _ _ _ _
      | exact ih5 _ _ _ _ _ _
      | exact keelsonlaw3_shown.mono _
      | exact relation_Holds.mono _ _ _ _
      | exact LeO.none _
      | refine LeO.ite ?_ ?_
      | refine LeO.bind ?_ (fun _ => ?_)
set_option maxHeartbeats 8000000 in
set_option maxRecDepth 100000 in
theorem keelsonlaw3_RelationOne.calls (k : Nat) (a0 : ByteArray) (a1 : ByteArray) (r : Bool) (w : World) (hG : GL w) (h : keelsonlaw3_RelationOne.f k a0 a1 = some r) :
    Calls Tryd.prog 3 #[.string a0, .string a1] w fun e w' => e = .returned (.bool r) ∧ Below w.heap.size w w' := by
  have HB := Aside0.mk (Below.refl w.heap.size w)
  have H : ((keelsonlaw3_shown.f k).bind fun t237 => (if t237 = true then (if (a0.size : Int) > 300 then (keelsonlaw3_RelationOne.j0 k a0 a1 t237 true) else (keelsonlaw3_RelationOne.j0 k a0 a1 t237 (decide ((a1.size : Int) > 300)))) else (keelsonlaw3_RelationOne.j0 k a0 a1 t237 true))) = some r := h
  clear h
  replace H := Option.bind_eq_some_iff.mp H
  obtain ⟨t237, A30, H⟩ := H
  replace H : (if t237 = true then (if (a0.size : Int) > 300 then (keelsonlaw3_RelationOne.j0 k a0 a1 t237 true) else (keelsonlaw3_RelationOne.j0 k a0 a1 t237 (decide ((a1.size : Int) > 300)))) else (keelsonlaw3_RelationOne.j0 k a0 a1 t237 true)) = some r := H
  have A3 := Aside0.mk A30
  clear A30
  have HC4 := Aside0.mk H
  clear H
  go_enter Tryd.func3, Tryd.ntmps3
  go_upto_region 2 with (first | ((with_reducible refine gate_callee (f := 7) rfl ?_); refine goesL_ (some 11) rfl rfl Tryd.func7 (by kernel_rfl) rfl #[] rfl (by (try simp only [List.map_toArray, List.map_cons, List.map_nil]); first | done | rfl | (simp only [List.length_drop, List.length_take]; rfl)) ?_; (with_reducible refine (keelsonlaw3_shown.calls k  t237 _ (by first | exact hG | exact GL.below hG (by repeat (first | (with_reducible first | exact HB.out | apply below_alloc | apply pw_below_drewN | apply below_drew1) | exact HB.out)))  A3.out).mono ?_); rintro e w5 ⟨rfl, hb⟩; refine ⟨_, rfl, ?_⟩; have n0_ := Aside0.mk (below_step (by repeat (first | (with_reducible first | exact HB.out | apply below_alloc | apply pw_below_drewN | apply below_drew1) | exact HB.out)) hb); clear HB; have HB := n0_; clear n0_; (try clear hb); (try clear hb2); (try clear hk); (try clear hi)))
  (try simp only [Act.put, List.setIfInBounds_toArray, List.set_cons_zero, List.set_cons_succ])
  go_cut [23] (fun v23 wc => ∃ (kq : Nat) (x23_3 : Bool), v23 = .bool x23_3 ∧ Aside0 (keelsonlaw3_RelationOne.j0 kq a0 a1 t237 x23_3 = some r) ∧ Aside0 (kq ≤ k) ∧ Aside0 (Below w.heap.size w wc))
  case first =>
    have H := HC4.out
    clear HC4
    by_cases c6 : t237 = true
    · subst c6
      have H1 : (if (a0.size : Int) > 300 then (keelsonlaw3_RelationOne.j0 k a0 a1 true true) else (keelsonlaw3_RelationOne.j0 k a0 a1 true (decide ((a1.size : Int) > 300)))) = some r := by rw [if_pos rfl] at H; exact H
      clear H
      have H := H1
      clear H1
      by_cases c7 : (a0.size : Int) > 300
      · rw [if_pos c7] at H
        have c7b0 : decide (300 < (a0.size : Int)) = true := decide_eq_true c7
        have c7b1 : decide (300 < a0.size) = true := decide_eq_true (by omega)
        clear c7
        (first | rw [c7b0] | (simp only [i64_w, i32_w]; rw [c7b0]) | skip)
        have H' := Aside0.mk H
        clear H
        go_wp2
        go_meet
        case rel => exact ⟨_, (true), (by first | rfl | (simp; done) | (simp [*]; done) | (simp [isEmpty_bne]; done)), H', ⟨by first | omega | exact Nat.le_refl _⟩, ⟨by repeat (first | (with_reducible first | exact HB.out | apply below_alloc | apply pw_below_drewN | apply below_drew1) | exact HB.out)⟩⟩
      · rw [if_neg c7] at H
        have c7b0 : decide (300 < (a0.size : Int)) = false := decide_eq_false c7
        have c7b1 : decide (300 < a0.size) = false := decide_eq_false (by omega)
        clear c7
        (first | rw [c7b0] | (simp only [i64_w, i32_w]; rw [c7b0]) | skip)
        have H' := Aside0.mk H
        clear H
        go_wp2
        go_meet
        case rel => exact ⟨_, (decide ((a1.size : Int) > 300)), (by first | rfl | (simp; done) | (simp [*]; done) | (simp [isEmpty_bne]; done)), H', ⟨by first | omega | exact Nat.le_refl _⟩, ⟨by repeat (first | (with_reducible first | exact HB.out | apply below_alloc | apply pw_below_drewN | apply below_drew1) | exact HB.out)⟩⟩
    · replace c6 := Bool.eq_false_iff.mpr c6
      subst c6
      have H1 : (keelsonlaw3_RelationOne.j0 k a0 a1 false true) = some r := by rw [if_neg (show ¬ (false = true) by decide)] at H; exact H
      clear H
      have H := H1
      clear H1
      have H' := Aside0.mk H
      clear H
      go_wp2
      go_meet
      case rel => exact ⟨_, (true), (by first | rfl | (simp; done) | (simp [*]; done) | (simp [isEmpty_bne]; done)), H', ⟨by first | omega | exact Nat.le_refl _⟩, ⟨by repeat (first | (with_reducible first | exact HB.out | apply below_alloc | apply pw_below_drewN | apply below_drew1) | exact HB.out)⟩⟩
  case rest =>
    clear HC4
    try clear p2
    try clear c3
    try clear c6
    try clear c7
    try clear c7b0
    try clear c7b1
    obtain ⟨kq, x23_3, rfl, HA, HJ3, HB⟩ := hcut
    cases kq with
    | zero => exact absurd HA.out (by simp [keelsonlaw3_RelationOne.j0])
    | succ kj3 =>
      have H := HA.out
      clear HA
      simp only [keelsonlaw3_RelationOne.j0] at H
      by_cases c8 : x23_3 = true
      · subst c8
        have H1 : (some t237) = some r := by rw [if_pos rfl] at H; exact H
        clear H
        have H := H1
        clear H1
        obtain rfl := Option.some.inj H
        go_wp2
        go_ret
        exact ⟨by first | rfl | (simp [errW_none, errW_some] <;> rfl) | (simp [*, errW_none, errW_some] <;> rfl), by repeat (first | (with_reducible first | exact HB.out | apply below_alloc | apply pw_below_drewN | apply below_drew1) | exact HB.out)⟩
      · replace c8 := Bool.eq_false_iff.mpr c8
        subst c8
        have H1 : ((relation_Holds.f kj3 1 a0 a1).bind fun t238 => ((relation_Holds.f kj3 3 a0 a1).bind fun t239 => ((relation_Holds.f kj3 5 a0 a1).bind fun t240 => (if t238 = true then (keelsonlaw3_RelationOne.j1 kj3 a0 a1 t238 t239 t240 (0 + 1)) else (keelsonlaw3_RelationOne.j1 kj3 a0 a1 t238 t239 t240 0))))) = some r := by rw [if_neg (show ¬ (false = true) by decide)] at H; exact H
        clear H
        have H := H1
        clear H1
        replace H := Option.bind_eq_some_iff.mp H
        obtain ⟨t238, A90, H⟩ := H
        replace H : ((relation_Holds.f kj3 3 a0 a1).bind fun t239 => ((relation_Holds.f kj3 5 a0 a1).bind fun t240 => (if t238 = true then (keelsonlaw3_RelationOne.j1 kj3 a0 a1 t238 t239 t240 (0 + 1)) else (keelsonlaw3_RelationOne.j1 kj3 a0 a1 t238 t239 t240 0)))) = some r := H
        have A9 := Aside0.mk A90
        clear A90
        replace H := Option.bind_eq_some_iff.mp H
        obtain ⟨t239, A100, H⟩ := H
        replace H : ((relation_Holds.f kj3 5 a0 a1).bind fun t240 => (if t238 = true then (keelsonlaw3_RelationOne.j1 kj3 a0 a1 t238 t239 t240 (0 + 1)) else (keelsonlaw3_RelationOne.j1 kj3 a0 a1 t238 t239 t240 0))) = some r := H
        have A10 := Aside0.mk A100
        clear A100
        replace H := Option.bind_eq_some_iff.mp H
        obtain ⟨t240, A110, H⟩ := H
        replace H : (if t238 = true then (keelsonlaw3_RelationOne.j1 kj3 a0 a1 t238 t239 t240 (0 + 1)) else (keelsonlaw3_RelationOne.j1 kj3 a0 a1 t238 t239 t240 0)) = some r := H
        have A11 := Aside0.mk A110
        clear A110
        have HC12 := Aside0.mk H
        clear H
        go_upto_if 34 with (first | ((with_reducible refine gate_callee (f := 8) rfl ?_); refine goesL_ (some 27) rfl rfl Tryd.func8 (by kernel_rfl) rfl #[.int .i64 1, .string a0, .string a1] rfl (by (try simp only [List.map_toArray, List.map_cons, List.map_nil]); first | done | rfl | (simp only [List.length_drop, List.length_take]; rfl)) ?_; (with_reducible refine (relation_Holds.calls kj3 1 a0 a1 t238 _ (by first | exact hG | exact GL.below hG (by repeat (first | (with_reducible first | exact HB.out | apply below_alloc | apply pw_below_drewN | apply below_drew1) | exact HB.out)))  A9.out).mono ?_); rintro e w13 ⟨rfl, hb⟩; refine ⟨_, rfl, ?_⟩; have n0_ := Aside0.mk (below_step (by repeat (first | (with_reducible first | exact HB.out | apply below_alloc | apply pw_below_drewN | apply below_drew1) | exact HB.out)) hb); clear HB; have HB := n0_; clear n0_; (try clear hb); (try clear hb2); (try clear hk); (try clear hi)) | ((with_reducible refine gate_callee (f := 8) rfl ?_); refine goesL_ (some 30) rfl rfl Tryd.func8 (by kernel_rfl) rfl #[.int .i64 3, .string a0, .string a1] rfl (by (try simp only [List.map_toArray, List.map_cons, List.map_nil]); first | done | rfl | (simp only [List.length_drop, List.length_take]; rfl)) ?_; (with_reducible refine (relation_Holds.calls kj3 3 a0 a1 t239 _ (by first | exact hG | exact GL.below hG (by repeat (first | (with_reducible first | exact HB.out | apply below_alloc | apply pw_below_drewN | apply below_drew1) | exact HB.out)))  A10.out).mono ?_); rintro e w14 ⟨rfl, hb⟩; refine ⟨_, rfl, ?_⟩; have n0_ := Aside0.mk (below_step (by repeat (first | (with_reducible first | exact HB.out | apply below_alloc | apply pw_below_drewN | apply below_drew1) | exact HB.out)) hb); clear HB; have HB := n0_; clear n0_; (try clear hb); (try clear hb2); (try clear hk); (try clear hi)) | ((with_reducible refine gate_callee (f := 8) rfl ?_); refine goesL_ (some 33) rfl rfl Tryd.func8 (by kernel_rfl) rfl #[.int .i64 5, .string a0, .string a1] rfl (by (try simp only [List.map_toArray, List.map_cons, List.map_nil]); first | done | rfl | (simp only [List.length_drop, List.length_take]; rfl)) ?_; (with_reducible refine (relation_Holds.calls kj3 5 a0 a1 t240 _ (by first | exact hG | exact GL.below hG (by repeat (first | (with_reducible first | exact HB.out | apply below_alloc | apply pw_below_drewN | apply below_drew1) | exact HB.out)))  A11.out).mono ?_); rintro e w15 ⟨rfl, hb⟩; refine ⟨_, rfl, ?_⟩; have n0_ := Aside0.mk (below_step (by repeat (first | (with_reducible first | exact HB.out | apply below_alloc | apply pw_below_drewN | apply below_drew1) | exact HB.out)) hb); clear HB; have HB := n0_; clear n0_; (try clear hb); (try clear hb2); (try clear hk); (try clear hi)))
        (try simp only [Act.put, List.setIfInBounds_toArray, List.set_cons_zero, List.set_cons_succ])
        go_cut [9] (fun v9 wc => ∃ (kq : Nat) (x9_11 : Int), v9 = .int .i64 x9_11 ∧ Aside0 (keelsonlaw3_RelationOne.j1 kq a0 a1 t238 t239 t240 x9_11 = some r) ∧ Aside0 (kq ≤ kj3) ∧ Aside0 (Below w.heap.size w wc))
        case first =>
          have H := HC12.out
          clear HC12
          by_cases c16 : t238 = true
          · subst c16
            have H1 : (keelsonlaw3_RelationOne.j1 kj3 a0 a1 true t239 t240 (0 + 1)) = some r := by rw [if_pos rfl] at H; exact H
            clear H
            have H := H1
            clear H1
            have H' := Aside0.mk H
            clear H
            go_wp2
            go_meet
            case rel => exact ⟨_, (0 + 1), (by first | rfl | (simp; done) | (simp [*]; done) | (simp [isEmpty_bne]; done)), H', ⟨by have := HJ3.out; first | omega | exact Nat.le_refl _⟩, ⟨by repeat (first | (with_reducible first | exact HB.out | apply below_alloc | apply pw_below_drewN | apply below_drew1) | exact HB.out)⟩⟩
          · replace c16 := Bool.eq_false_iff.mpr c16
            subst c16
            have H1 : (keelsonlaw3_RelationOne.j1 kj3 a0 a1 false t239 t240 0) = some r := by rw [if_neg (show ¬ (false = true) by decide)] at H; exact H
            clear H
            have H := H1
            clear H1
            have H' := Aside0.mk H
            clear H
            go_wp2
            go_meet
            case rel => exact ⟨_, (0), (by first | rfl | (simp; done) | (simp [*]; done) | (simp [isEmpty_bne]; done)), H', ⟨by have := HJ3.out; first | omega | exact Nat.le_refl _⟩, ⟨by repeat (first | (with_reducible first | exact HB.out | apply below_alloc | apply pw_below_drewN | apply below_drew1) | exact HB.out)⟩⟩
        case rest =>
          clear HC12
          try clear c1
          try clear p2
          try clear c3
          try clear c6
          try clear c7
          try clear c7b0
          try clear c7b1
          try clear c8
          try clear c16
          try clear p2
          obtain ⟨kq, x9_11, rfl, HA, HJ11, HB⟩ := hcut
          cases kq with
          | zero => exact absurd HA.out (by simp [keelsonlaw3_RelationOne.j1])
          | succ kj11 =>
            have H := HA.out
            clear HA
            simp only [keelsonlaw3_RelationOne.j1] at H
            have HC17 := Aside0.mk H
            clear H
            go_upto_if 37 with (fail)
            go_cut [9] (fun v9 wc => ∃ (kq : Nat) (x9_16 : Int), v9 = .int .i64 x9_16 ∧ Aside0 (keelsonlaw3_RelationOne.j2 kq a0 a1 t238 t239 t240 x9_16 = some r) ∧ Aside0 (kq ≤ kj11) ∧ Aside0 (Below w.heap.size w wc))
            case first =>
              have H := HC17.out
              clear HC17
              by_cases c18 : t239 = true
              · subst c18
                have H1 : (keelsonlaw3_RelationOne.j2 kj11 a0 a1 t238 true t240 (wrap64 (x9_11 + 1))) = some r := by rw [if_pos rfl] at H; exact H
                clear H
                have H := H1
                clear H1
                have H' := Aside0.mk H
                clear H
                go_wp2
                go_meet
                case rel => exact ⟨_, (wrap64 (x9_11 + 1)), (by first | rfl | (simp; done) | (simp [*]; done) | (simp [isEmpty_bne]; done)), H', ⟨by have := HJ3.out; have := HJ11.out; first | omega | exact Nat.le_refl _⟩, ⟨by repeat (first | (with_reducible first | exact HB.out | apply below_alloc | apply pw_below_drewN | apply below_drew1) | exact HB.out)⟩⟩
              · replace c18 := Bool.eq_false_iff.mpr c18
                subst c18
                have H1 : (keelsonlaw3_RelationOne.j2 kj11 a0 a1 t238 false t240 x9_11) = some r := by rw [if_neg (show ¬ (false = true) by decide)] at H; exact H
                clear H
                have H := H1
                clear H1
                have H' := Aside0.mk H
                clear H
                go_wp2
                go_meet
                case rel => exact ⟨_, (x9_11), (by first | rfl | (simp; done) | (simp [*]; done) | (simp [isEmpty_bne]; done)), H', ⟨by have := HJ3.out; have := HJ11.out; first | omega | exact Nat.le_refl _⟩, ⟨by repeat (first | (with_reducible first | exact HB.out | apply below_alloc | apply pw_below_drewN | apply below_drew1) | exact HB.out)⟩⟩
            case rest =>
              clear HC17
              try clear c1
              try clear p2
              try clear c3
              try clear c6
              try clear p6
              try clear c7
              try clear c7b0
              try clear c7b1
              try clear c8
              try clear c16
              try clear c18
              try clear p2
              obtain ⟨kq, x9_16, rfl, HA, HJ16, HB⟩ := hcut
              cases kq with
              | zero => exact absurd HA.out (by simp [keelsonlaw3_RelationOne.j2])
              | succ kj16 =>
                have H := HA.out
                clear HA
                simp only [keelsonlaw3_RelationOne.j2] at H
                have HC19 := Aside0.mk H
                clear H
                go_upto_if 40 with (fail)
                go_cut [9] (fun v9 wc => ∃ (kq : Nat) (x9_18 : Int), v9 = .int .i64 x9_18 ∧ Aside0 (keelsonlaw3_RelationOne.j3 kq a0 a1 t238 t239 t240 x9_18 = some r) ∧ Aside0 (kq ≤ kj16) ∧ Aside0 (Below w.heap.size w wc))
                case first =>
                  have H := HC19.out
                  clear HC19
                  by_cases c20 : t240 = true
                  · subst c20
                    have H1 : (keelsonlaw3_RelationOne.j3 kj16 a0 a1 t238 t239 true (wrap64 (x9_16 + 1))) = some r := by rw [if_pos rfl] at H; exact H
                    clear H
                    have H := H1
                    clear H1
                    have H' := Aside0.mk H
                    clear H
                    go_wp2
                    go_meet
                    case rel => exact ⟨_, (wrap64 (x9_16 + 1)), (by first | rfl | (simp; done) | (simp [*]; done) | (simp [isEmpty_bne]; done)), H', ⟨by have := HJ3.out; have := HJ11.out; have := HJ16.out; first | omega | exact Nat.le_refl _⟩, ⟨by repeat (first | (with_reducible first | exact HB.out | apply below_alloc | apply pw_below_drewN | apply below_drew1) | exact HB.out)⟩⟩
                  · replace c20 := Bool.eq_false_iff.mpr c20
                    subst c20
                    have H1 : (keelsonlaw3_RelationOne.j3 kj16 a0 a1 t238 t239 false x9_16) = some r := by rw [if_neg (show ¬ (false = true) by decide)] at H; exact H
                    clear H
                    have H := H1
                    clear H1
                    have H' := Aside0.mk H
                    clear H
                    go_wp2
                    go_meet
                    case rel => exact ⟨_, (x9_16), (by first | rfl | (simp; done) | (simp [*]; done) | (simp [isEmpty_bne]; done)), H', ⟨by have := HJ3.out; have := HJ11.out; have := HJ16.out; first | omega | exact Nat.le_refl _⟩, ⟨by repeat (first | (with_reducible first | exact HB.out | apply below_alloc | apply pw_below_drewN | apply below_drew1) | exact HB.out)⟩⟩
                case rest =>
                  clear HC19
                  try clear c1
                  try clear c2
                  try clear p2
                  try clear c3
                  try clear c6
                  try clear p6
                  try clear c7
                  try clear c7b0
                  try clear c7b1
                  try clear c8
                  try clear c16
                  try clear c18
                  try clear c20
                  try clear p2
                  try clear p6
                  obtain ⟨kq, x9_18, rfl, HA, HJ18, HB⟩ := hcut
                  cases kq with
                  | zero => exact absurd HA.out (by simp [keelsonlaw3_RelationOne.j3])
                  | succ kj18 =>
                    have H := HA.out
                    clear HA
                    simp only [keelsonlaw3_RelationOne.j3] at H
                    have HC21 := Aside0.mk H
                    clear H
                    go_upto_region 14 with (fail)
                    go_cut [10] (fun v10 wc => ∃ (kq : Nat) (x10_20 : Bool), v10 = .bool x10_20 ∧ Aside0 (keelsonlaw3_RelationOne.j4 kq a0 a1 t238 t239 t240 x9_18 x10_20 = some r) ∧ Aside0 (kq ≤ kj18) ∧ Aside0 (Below w.heap.size w wc))
                    case first =>
                      have H := HC21.out
                      clear HC21
                      replace H := Option.bind_eq_some_iff.mp H
                      obtain ⟨t241, A220, H⟩ := H
                      replace H : (if t241 = true then ((relation_Holds.f kj18 3 a1 a1).bind fun t242 => (keelsonlaw3_RelationOne.j4 kj18 a0 a1 t238 t239 t240 x9_18 t242)) else (keelsonlaw3_RelationOne.j4 kj18 a0 a1 t238 t239 t240 x9_18 false)) = some r := H
                      have A22 := Aside0.mk A220
                      clear A220
                      by_cases c23 : t241 = true
                      · subst c23
                        have H1 : ((relation_Holds.f kj18 3 a1 a1).bind fun t242 => (keelsonlaw3_RelationOne.j4 kj18 a0 a1 t238 t239 t240 x9_18 t242)) = some r := by rw [if_pos rfl] at H; exact H
                        clear H
                        have H := H1
                        clear H1
                        replace H := Option.bind_eq_some_iff.mp H
                        obtain ⟨t242, A240, H⟩ := H
                        replace H : (keelsonlaw3_RelationOne.j4 kj18 a0 a1 t238 t239 t240 x9_18 t242) = some r := H
                        have A24 := Aside0.mk A240
                        clear A240
                        have H' := Aside0.mk H
                        clear H
                        go_wp2_with (first | ((with_reducible refine gate_callee (f := 8) rfl ?_); refine goesL_ (some 45) rfl rfl Tryd.func8 (by kernel_rfl) rfl #[.int .i64 3, .string a0, .string a0] rfl (by (try simp only [List.map_toArray, List.map_cons, List.map_nil]); first | done | rfl | (simp only [List.length_drop, List.length_take]; rfl)) ?_; (with_reducible refine (relation_Holds.calls kj18 3 a0 a0 true _ (by first | exact hG | exact GL.below hG (by repeat (first | (with_reducible first | exact HB.out | apply below_alloc | apply pw_below_drewN | apply below_drew1) | exact HB.out)))  A22.out).mono ?_); rintro e w25 ⟨rfl, hb⟩; refine ⟨_, rfl, ?_⟩; have n0_ := Aside0.mk (below_step (by repeat (first | (with_reducible first | exact HB.out | apply below_alloc | apply pw_below_drewN | apply below_drew1) | exact HB.out)) hb); clear HB; have HB := n0_; clear n0_; (try clear hb); (try clear hb2); (try clear hk); (try clear hi)) | (go_at_call 8; (with_reducible refine (relation_Holds.calls kj18 3 a1 a1 t242 _ (by first | exact hG | exact GL.below hG (by repeat (first | (with_reducible first | exact HB.out | apply below_alloc | apply pw_below_drewN | apply below_drew1) | exact HB.out)))  A24.out).mono ?_); rintro e w26 ⟨rfl, hb⟩; have n0_ := Aside0.mk (below_step (by repeat (first | (with_reducible first | exact HB.out | apply below_alloc | apply pw_below_drewN | apply below_drew1) | exact HB.out)) hb); clear HB; have HB := n0_; clear n0_; (try clear hb); (try clear hb2); (try clear hk); (try clear hi)))
                        go_meet
                        case rel => exact ⟨_, (t242), (by first | rfl | (simp; done) | (simp [*]; done) | (simp [isEmpty_bne]; done)), H', ⟨by have := HJ3.out; have := HJ11.out; have := HJ16.out; have := HJ18.out; first | omega | exact Nat.le_refl _⟩, ⟨by repeat (first | (with_reducible first | exact HB.out | apply below_alloc | apply pw_below_drewN | apply below_drew1) | exact HB.out)⟩⟩
                      · replace c23 := Bool.eq_false_iff.mpr c23
                        subst c23
                        have H1 : (keelsonlaw3_RelationOne.j4 kj18 a0 a1 t238 t239 t240 x9_18 false) = some r := by rw [if_neg (show ¬ (false = true) by decide)] at H; exact H
                        clear H
                        have H := H1
                        clear H1
                        have H' := Aside0.mk H
                        clear H
                        go_wp2_with (first | ((with_reducible refine gate_callee (f := 8) rfl ?_); refine goesL_ (some 45) rfl rfl Tryd.func8 (by kernel_rfl) rfl #[.int .i64 3, .string a0, .string a0] rfl (by (try simp only [List.map_toArray, List.map_cons, List.map_nil]); first | done | rfl | (simp only [List.length_drop, List.length_take]; rfl)) ?_; (with_reducible refine (relation_Holds.calls kj18 3 a0 a0 false _ (by first | exact hG | exact GL.below hG (by repeat (first | (with_reducible first | exact HB.out | apply below_alloc | apply pw_below_drewN | apply below_drew1) | exact HB.out)))  A22.out).mono ?_); rintro e w27 ⟨rfl, hb⟩; refine ⟨_, rfl, ?_⟩; have n0_ := Aside0.mk (below_step (by repeat (first | (with_reducible first | exact HB.out | apply below_alloc | apply pw_below_drewN | apply below_drew1) | exact HB.out)) hb); clear HB; have HB := n0_; clear n0_; (try clear hb); (try clear hb2); (try clear hk); (try clear hi)))
                        go_meet
                        case rel => exact ⟨_, (false), (by first | rfl | (simp; done) | (simp [*]; done) | (simp [isEmpty_bne]; done)), H', ⟨by have := HJ3.out; have := HJ11.out; have := HJ16.out; have := HJ18.out; first | omega | exact Nat.le_refl _⟩, ⟨by repeat (first | (with_reducible first | exact HB.out | apply below_alloc | apply pw_below_drewN | apply below_drew1) | exact HB.out)⟩⟩
                    case rest =>
                      clear HC21
                      try clear c1
                      try clear c2
                      try clear p2
                      try clear c3
                      try clear c6
                      try clear p6
                      try clear c7
                      try clear c7b0
                      try clear c7b1
                      try clear c8
                      try clear c16
                      try clear c18
                      try clear c20
                      try clear c23
                      try clear p2
                      try clear p6
                      obtain ⟨kq, x10_20, rfl, HA, HJ20, HB⟩ := hcut
                      cases kq with
                      | zero => exact absurd HA.out (by simp [keelsonlaw3_RelationOne.j4])
                      | succ kj20 =>
                        have H := HA.out
                        clear HA
                        simp only [keelsonlaw3_RelationOne.j4] at H
                        have HC28 := Aside0.mk H
                        clear H
                        go_upto_region 15 with (fail)
                        go_cut [68] (fun v68 wc => ∃ (kq : Nat) (x68_27 : Bool), v68 = .bool x68_27 ∧ Aside0 (keelsonlaw3_RelationOne.j5 kq a0 a1 t238 t239 t240 x68_27 = some r) ∧ Aside0 (kq ≤ kj20) ∧ Aside0 (Below w.heap.size w wc))
                        case first =>
                          have H := HC28.out
                          clear HC28
                          by_cases c29 : (x10_20 != (x9_18 == 1)) = true
                          · rw [if_pos c29] at H
                            have c29b0 : (x10_20 != (x9_18 == 1)) = true := c29
                            (try (have c29b1 : decide (x10_20 = (x9_18 == 1)) = false := by simpa using c29))
                            (try (have c29b2 : (x10_20 == (x9_18 == 1)) = false := by simpa using c29))
                            (try (have c29b3 : ¬ (x10_20 = (x9_18 == 1)) := by simpa using c29))
                            clear c29
                            (first | rw [c29b0] | (simp only [i64_w, i32_w]; rw [c29b0]) | skip)
                            have H' := Aside0.mk H
                            clear H
                            go_wp2
                            go_meet
                            case rel => exact ⟨_, (true), (by first | rfl | (simp; done) | (simp [*]; done) | (simp [isEmpty_bne]; done)), H', ⟨by have := HJ3.out; have := HJ11.out; have := HJ16.out; have := HJ18.out; have := HJ20.out; first | omega | exact Nat.le_refl _⟩, ⟨by repeat (first | (with_reducible first | exact HB.out | apply below_alloc | apply pw_below_drewN | apply below_drew1) | exact HB.out)⟩⟩
                          · rw [if_neg c29] at H
                            have c29b0 : (x10_20 != (x9_18 == 1)) = false := by simpa using c29
                            (try (have c29b1 : decide (x10_20 = (x9_18 == 1)) = true := by simpa using c29))
                            (try (have c29b2 : (x10_20 == (x9_18 == 1)) = true := by simpa using c29))
                            clear c29
                            (first | rw [c29b0] | (simp only [i64_w, i32_w]; rw [c29b0]) | skip)
                            by_cases c30 : x10_20 = true
                            · subst c30
                              have H1 : ((relation_Holds.f kj20 0 a0 a1).bind fun t243 => (keelsonlaw3_RelationOne.j5 kj20 a0 a1 t238 t239 t240 (!t243))) = some r := by rw [if_pos rfl] at H; exact H
                              clear H
                              have H := H1
                              clear H1
                              replace H := Option.bind_eq_some_iff.mp H
                              obtain ⟨t243, A310, H⟩ := H
                              replace H : (keelsonlaw3_RelationOne.j5 kj20 a0 a1 t238 t239 t240 (!t243)) = some r := H
                              have A31 := Aside0.mk A310
                              clear A310
                              have H' := Aside0.mk H
                              clear H
                              go_wp2_with (first | (go_at_call 8; (with_reducible refine (relation_Holds.calls kj20 0 a0 a1 t243 _ (by first | exact hG | exact GL.below hG (by repeat (first | (with_reducible first | exact HB.out | apply below_alloc | apply pw_below_drewN | apply below_drew1) | exact HB.out)))  A31.out).mono ?_); rintro e w32 ⟨rfl, hb⟩; have n0_ := Aside0.mk (below_step (by repeat (first | (with_reducible first | exact HB.out | apply below_alloc | apply pw_below_drewN | apply below_drew1) | exact HB.out)) hb); clear HB; have HB := n0_; clear n0_; (try clear hb); (try clear hb2); (try clear hk); (try clear hi)))
                              go_meet
                              case rel => exact ⟨_, (!t243), (by first | rfl | (simp; done) | (simp [*]; done) | (simp [isEmpty_bne]; done)), H', ⟨by have := HJ3.out; have := HJ11.out; have := HJ16.out; have := HJ18.out; have := HJ20.out; first | omega | exact Nat.le_refl _⟩, ⟨by repeat (first | (with_reducible first | exact HB.out | apply below_alloc | apply pw_below_drewN | apply below_drew1) | exact HB.out)⟩⟩
                            · replace c30 := Bool.eq_false_iff.mpr c30
                              subst c30
                              have H1 : (if x9_18 = 0 then ((relation_Holds.f kj20 0 a0 a1).bind fun t244 => (keelsonlaw3_RelationOne.j5 kj20 a0 a1 t238 t239 t240 (!t244))) else (keelsonlaw3_RelationOne.j5 kj20 a0 a1 t238 t239 t240 true)) = some r := by rw [if_neg (show ¬ (false = true) by decide)] at H; exact H
                              clear H
                              have H := H1
                              clear H1
                              by_cases c33 : x9_18 = 0
                              · rw [if_pos c33] at H
                                have c33b0 : (x9_18 == 0) = true := beq_iff_eq.mpr c33
                                have c33b1 : (x9_18 != 0) = false := bne_eq_false_iff_eq.mpr c33
                                clear c33
                                replace H := Option.bind_eq_some_iff.mp H
                                obtain ⟨t244, A340, H⟩ := H
                                replace H : (keelsonlaw3_RelationOne.j5 kj20 a0 a1 t238 t239 t240 (!t244)) = some r := H
                                have A34 := Aside0.mk A340
                                clear A340
                                have H' := Aside0.mk H
                                clear H
                                go_wp2_with (first | (go_at_call 8; (with_reducible refine (relation_Holds.calls kj20 0 a0 a1 t244 _ (by first | exact hG | exact GL.below hG (by repeat (first | (with_reducible first | exact HB.out | apply below_alloc | apply pw_below_drewN | apply below_drew1) | exact HB.out)))  A34.out).mono ?_); rintro e w35 ⟨rfl, hb⟩; have n0_ := Aside0.mk (below_step (by repeat (first | (with_reducible first | exact HB.out | apply below_alloc | apply pw_below_drewN | apply below_drew1) | exact HB.out)) hb); clear HB; have HB := n0_; clear n0_; (try clear hb); (try clear hb2); (try clear hk); (try clear hi)))
                                go_meet
                                case rel => exact ⟨_, (!t244), (by first | rfl | (simp; done) | (simp [*]; done) | (simp [isEmpty_bne]; done)), H', ⟨by have := HJ3.out; have := HJ11.out; have := HJ16.out; have := HJ18.out; have := HJ20.out; first | omega | exact Nat.le_refl _⟩, ⟨by repeat (first | (with_reducible first | exact HB.out | apply below_alloc | apply pw_below_drewN | apply below_drew1) | exact HB.out)⟩⟩
                              · rw [if_neg c33] at H
                                have c33b0 : (x9_18 == 0) = false := beq_eq_false_iff_ne.mpr c33
                                have c33b1 : (x9_18 != 0) = true := bne_iff_ne.mpr c33
                                have H' := Aside0.mk H
                                clear H
                                go_wp2
                                go_meet
                                case rel => exact ⟨_, (true), (by first | rfl | (simp; done) | (simp [*]; done) | (simp [isEmpty_bne]; done)), H', ⟨by have := HJ3.out; have := HJ11.out; have := HJ16.out; have := HJ18.out; have := HJ20.out; first | omega | exact Nat.le_refl _⟩, ⟨by repeat (first | (with_reducible first | exact HB.out | apply below_alloc | apply pw_below_drewN | apply below_drew1) | exact HB.out)⟩⟩
                        case rest =>
                          clear HC28
                          try clear c1
                          try clear c2
                          try clear p2
                          try clear c3
                          try clear c6
                          try clear p6
                          try clear c7
                          try clear c7b0
                          try clear c7b1
                          try clear c8
                          try clear c16
                          try clear c18
                          try clear c20
                          try clear c23
                          try clear c29
                          try clear c29b0
                          try clear c29b1
                          try clear c29b2
                          try clear c30
                          try clear c33
                          try clear c33b0
                          try clear c33b1
                          try clear p2
                          try clear p6
                          obtain ⟨kq, x68_27, rfl, HA, HJ27, HB⟩ := hcut
                          cases kq with
                          | zero => exact absurd HA.out (by simp [keelsonlaw3_RelationOne.j5])
                          | succ kj27 =>
                            have H := HA.out
                            clear HA
                            simp only [keelsonlaw3_RelationOne.j5] at H
                            by_cases c36 : x68_27 = true
                            · subst c36
                              have H1 : (some false) = some r := by rw [if_pos rfl] at H; exact H
                              clear H
                              have H := H1
                              clear H1
                              obtain rfl := Option.some.inj H
                              go_wp2
                              go_ret
                              exact ⟨by first | rfl | (simp [errW_none, errW_some] <;> rfl) | (simp [*, errW_none, errW_some] <;> rfl), by repeat (first | (with_reducible first | exact HB.out | apply below_alloc | apply pw_below_drewN | apply below_drew1) | exact HB.out)⟩
                            · replace c36 := Bool.eq_false_iff.mpr c36
                              subst c36
                              have H1 : ((relation_Holds.f kj27 2 a0 a1).bind fun t245 => (if t238 = true then (if (t245 == true) = true then ((relation_Holds.f kj27 4 a0 a1).bind fun t246 => (if t240 = true then (if (t246 == true) = true then ((relation_Holds.f kj27 5 a1 a0).bind fun t247 => (if (t247 == t238) = true then ((relation_Holds.f kj27 3 a1 a0).bind fun t248 => (some (t248 == t239))) else (some false))) else (some false)) else (if (t246 == t239) = true then ((relation_Holds.f kj27 5 a1 a0).bind fun t249 => (if (t249 == t238) = true then ((relation_Holds.f kj27 3 a1 a0).bind fun t250 => (some (t250 == t239))) else (some false))) else (some false)))) else (some false)) else (if (t245 == t239) = true then ((relation_Holds.f kj27 4 a0 a1).bind fun t251 => (if t240 = true then (if (t251 == true) = true then ((relation_Holds.f kj27 5 a1 a0).bind fun t252 => (if (t252 == t238) = true then ((relation_Holds.f kj27 3 a1 a0).bind fun t253 => (some (t253 == t239))) else (some false))) else (some false)) else (if (t251 == t239) = true then ((relation_Holds.f kj27 5 a1 a0).bind fun t254 => (if (t254 == t238) = true then ((relation_Holds.f kj27 3 a1 a0).bind fun t255 => (some (t255 == t239))) else (some false))) else (some false)))) else (some false)))) = some r := by rw [if_neg (show ¬ (false = true) by decide)] at H; exact H
                              clear H
                              have H := H1
                              clear H1
                              replace H := Option.bind_eq_some_iff.mp H
                              obtain ⟨t245, A370, H⟩ := H
                              replace H : (if t238 = true then (if (t245 == true) = true then ((relation_Holds.f kj27 4 a0 a1).bind fun t246 => (if t240 = true then (if (t246 == true) = true then ((relation_Holds.f kj27 5 a1 a0).bind fun t247 => (if (t247 == t238) = true then ((relation_Holds.f kj27 3 a1 a0).bind fun t248 => (some (t248 == t239))) else (some false))) else (some false)) else (if (t246 == t239) = true then ((relation_Holds.f kj27 5 a1 a0).bind fun t249 => (if (t249 == t238) = true then ((relation_Holds.f kj27 3 a1 a0).bind fun t250 => (some (t250 == t239))) else (some false))) else (some false)))) else (some false)) else (if (t245 == t239) = true then ((relation_Holds.f kj27 4 a0 a1).bind fun t251 => (if t240 = true then (if (t251 == true) = true then ((relation_Holds.f kj27 5 a1 a0).bind fun t252 => (if (t252 == t238) = true then ((relation_Holds.f kj27 3 a1 a0).bind fun t253 => (some (t253 == t239))) else (some false))) else (some false)) else (if (t251 == t239) = true then ((relation_Holds.f kj27 5 a1 a0).bind fun t254 => (if (t254 == t238) = true then ((relation_Holds.f kj27 3 a1 a0).bind fun t255 => (some (t255 == t239))) else (some false))) else (some false)))) else (some false))) = some r := H
                              have A37 := Aside0.mk A370
                              clear A370
                              by_cases c38 : t238 = true
                              · subst c38
                                have H1 : (if (t245 == true) = true then ((relation_Holds.f kj27 4 a0 a1).bind fun t246 => (if t240 = true then (if (t246 == true) = true then ((relation_Holds.f kj27 5 a1 a0).bind fun t247 => (if (t247 == true) = true then ((relation_Holds.f kj27 3 a1 a0).bind fun t248 => (some (t248 == t239))) else (some false))) else (some false)) else (if (t246 == t239) = true then ((relation_Holds.f kj27 5 a1 a0).bind fun t249 => (if (t249 == true) = true then ((relation_Holds.f kj27 3 a1 a0).bind fun t250 => (some (t250 == t239))) else (some false))) else (some false)))) else (some false)) = some r := by rw [if_pos rfl] at H; exact H
                                clear H
                                have H := H1
                                clear H1
                                by_cases c39 : (t245 == true) = true
                                · rw [if_pos c39] at H
                                  have c39b0 : (t245 == true) = true := c39
                                  (try (have c39b1 : decide (t245 = true) = true := by simpa using c39))
                                  (try (have c39b2 : (t245 == true) = true := by simpa using c39))
                                  clear c39
                                  replace H := Option.bind_eq_some_iff.mp H
                                  obtain ⟨t246, A400, H⟩ := H
                                  replace H : (if t240 = true then (if (t246 == true) = true then ((relation_Holds.f kj27 5 a1 a0).bind fun t247 => (if (t247 == true) = true then ((relation_Holds.f kj27 3 a1 a0).bind fun t248 => (some (t248 == t239))) else (some false))) else (some false)) else (if (t246 == t239) = true then ((relation_Holds.f kj27 5 a1 a0).bind fun t249 => (if (t249 == true) = true then ((relation_Holds.f kj27 3 a1 a0).bind fun t250 => (some (t250 == t239))) else (some false))) else (some false))) = some r := H
                                  have A40 := Aside0.mk A400
                                  clear A400
                                  by_cases c41 : t240 = true
                                  · subst c41
                                    have H1 : (if (t246 == true) = true then ((relation_Holds.f kj27 5 a1 a0).bind fun t247 => (if (t247 == true) = true then ((relation_Holds.f kj27 3 a1 a0).bind fun t248 => (some (t248 == t239))) else (some false))) else (some false)) = some r := by rw [if_pos rfl] at H; exact H
                                    clear H
                                    have H := H1
                                    clear H1
                                    by_cases c42 : (t246 == true) = true
                                    · rw [if_pos c42] at H
                                      have c42b0 : (t246 == true) = true := c42
                                      (try (have c42b1 : decide (t246 = true) = true := by simpa using c42))
                                      (try (have c42b2 : (t246 == true) = true := by simpa using c42))
                                      clear c42
                                      replace H := Option.bind_eq_some_iff.mp H
                                      obtain ⟨t247, A430, H⟩ := H
                                      replace H : (if (t247 == true) = true then ((relation_Holds.f kj27 3 a1 a0).bind fun t248 => (some (t248 == t239))) else (some false)) = some r := H
                                      have A43 := Aside0.mk A430
                                      clear A430
                                      by_cases c44 : (t247 == true) = true
                                      · rw [if_pos c44] at H
                                        have c44b0 : (t247 == true) = true := c44
                                        (try (have c44b1 : decide (t247 = true) = true := by simpa using c44))
                                        (try (have c44b2 : (t247 == true) = true := by simpa using c44))
                                        clear c44
                                        replace H := Option.bind_eq_some_iff.mp H
                                        obtain ⟨t248, A450, H⟩ := H
                                        replace H : (some (t248 == t239)) = some r := H
                                        have A45 := Aside0.mk A450
                                        clear A450
                                        obtain rfl := Option.some.inj H
                                        have tok50 : True := trivial
                                        have tok51 : True := trivial
                                        have tok52 : True := trivial
                                        go_wp2_with (first | ((with_reducible refine gate_callee (f := 8) rfl ?_); refine goesL_ (some 71) rfl rfl Tryd.func8 (by kernel_rfl) rfl #[.int .i64 2, .string a0, .string a1] rfl (by (try simp only [List.map_toArray, List.map_cons, List.map_nil]); first | done | rfl | (simp only [List.length_drop, List.length_take]; rfl)) ?_; (with_reducible refine (relation_Holds.calls kj27 2 a0 a1 t245 _ (by first | exact hG | exact GL.below hG (by repeat (first | (with_reducible first | exact HB.out | apply below_alloc | apply pw_below_drewN | apply below_drew1) | exact HB.out)))  A37.out).mono ?_); rintro e w46 ⟨rfl, hb⟩; refine ⟨_, rfl, ?_⟩; have n0_ := Aside0.mk (below_step (by repeat (first | (with_reducible first | exact HB.out | apply below_alloc | apply pw_below_drewN | apply below_drew1) | exact HB.out)) hb); clear HB; have HB := n0_; clear n0_; (try clear hb); (try clear hb2); (try clear hk); (try clear hi)) | (go_at_call 8; have _t_ := tok50; clear _t_ tok50; (with_reducible refine (relation_Holds.calls kj27 4 a0 a1 t246 _ (by first | exact hG | exact GL.below hG (by repeat (first | (with_reducible first | exact HB.out | apply below_alloc | apply pw_below_drewN | apply below_drew1) | exact HB.out)))  A40.out).mono ?_); rintro e w47 ⟨rfl, hb⟩; have n0_ := Aside0.mk (below_step (by repeat (first | (with_reducible first | exact HB.out | apply below_alloc | apply pw_below_drewN | apply below_drew1) | exact HB.out)) hb); clear HB; have HB := n0_; clear n0_; (try clear hb); (try clear hb2); (try clear hk); (try clear hi)) | (go_at_call 8; have _t_ := tok51; clear _t_ tok51; (with_reducible refine (relation_Holds.calls kj27 5 a1 a0 t247 _ (by first | exact hG | exact GL.below hG (by repeat (first | (with_reducible first | exact HB.out | apply below_alloc | apply pw_below_drewN | apply below_drew1) | exact HB.out)))  A43.out).mono ?_); rintro e w48 ⟨rfl, hb⟩; have n0_ := Aside0.mk (below_step (by repeat (first | (with_reducible first | exact HB.out | apply below_alloc | apply pw_below_drewN | apply below_drew1) | exact HB.out)) hb); clear HB; have HB := n0_; clear n0_; (try clear hb); (try clear hb2); (try clear hk); (try clear hi)) | (go_at_call 8; have _t_ := tok52; clear _t_ tok52; (with_reducible refine (relation_Holds.calls kj27 3 a1 a0 t248 _ (by first | exact hG | exact GL.below hG (by repeat (first | (with_reducible first | exact HB.out | apply below_alloc | apply pw_below_drewN | apply below_drew1) | exact HB.out)))  A45.out).mono ?_); rintro e w49 ⟨rfl, hb⟩; have n0_ := Aside0.mk (below_step (by repeat (first | (with_reducible first | exact HB.out | apply below_alloc | apply pw_below_drewN | apply below_drew1) | exact HB.out)) hb); clear HB; have HB := n0_; clear n0_; (try clear hb); (try clear hb2); (try clear hk); (try clear hi)))
                                        go_ret
                                        exact ⟨by first | rfl | (simp [errW_none, errW_some] <;> rfl) | (simp [*, errW_none, errW_some] <;> rfl), by repeat (first | (with_reducible first | exact HB.out | apply below_alloc | apply pw_below_drewN | apply below_drew1) | exact HB.out)⟩
                                      · rw [if_neg c44] at H
                                        have c44b0 : (t247 == true) = false := by simpa using c44
                                        (try (have c44b1 : decide (t247 = true) = false := by simpa using c44))
                                        (try (have c44b2 : (t247 == true) = false := by simpa using c44))
                                        (try (have c44b3 : ¬ (t247 = true) := by simpa using c44))
                                        clear c44
                                        obtain rfl := Option.some.inj H
                                        have tok56 : True := trivial
                                        have tok57 : True := trivial
                                        go_wp2_with (first | ((with_reducible refine gate_callee (f := 8) rfl ?_); refine goesL_ (some 71) rfl rfl Tryd.func8 (by kernel_rfl) rfl #[.int .i64 2, .string a0, .string a1] rfl (by (try simp only [List.map_toArray, List.map_cons, List.map_nil]); first | done | rfl | (simp only [List.length_drop, List.length_take]; rfl)) ?_; (with_reducible refine (relation_Holds.calls kj27 2 a0 a1 t245 _ (by first | exact hG | exact GL.below hG (by repeat (first | (with_reducible first | exact HB.out | apply below_alloc | apply pw_below_drewN | apply below_drew1) | exact HB.out)))  A37.out).mono ?_); rintro e w53 ⟨rfl, hb⟩; refine ⟨_, rfl, ?_⟩; have n0_ := Aside0.mk (below_step (by repeat (first | (with_reducible first | exact HB.out | apply below_alloc | apply pw_below_drewN | apply below_drew1) | exact HB.out)) hb); clear HB; have HB := n0_; clear n0_; (try clear hb); (try clear hb2); (try clear hk); (try clear hi)) | (go_at_call 8; have _t_ := tok56; clear _t_ tok56; (with_reducible refine (relation_Holds.calls kj27 4 a0 a1 t246 _ (by first | exact hG | exact GL.below hG (by repeat (first | (with_reducible first | exact HB.out | apply below_alloc | apply pw_below_drewN | apply below_drew1) | exact HB.out)))  A40.out).mono ?_); rintro e w54 ⟨rfl, hb⟩; have n0_ := Aside0.mk (below_step (by repeat (first | (with_reducible first | exact HB.out | apply below_alloc | apply pw_below_drewN | apply below_drew1) | exact HB.out)) hb); clear HB; have HB := n0_; clear n0_; (try clear hb); (try clear hb2); (try clear hk); (try clear hi)) | (go_at_call 8; have _t_ := tok57; clear _t_ tok57; (with_reducible refine (relation_Holds.calls kj27 5 a1 a0 t247 _ (by first | exact hG | exact GL.below hG (by repeat (first | (with_reducible first | exact HB.out | apply below_alloc | apply pw_below_drewN | apply below_drew1) | exact HB.out)))  A43.out).mono ?_); rintro e w55 ⟨rfl, hb⟩; have n0_ := Aside0.mk (below_step (by repeat (first | (with_reducible first | exact HB.out | apply below_alloc | apply pw_below_drewN | apply below_drew1) | exact HB.out)) hb); clear HB; have HB := n0_; clear n0_; (try clear hb); (try clear hb2); (try clear hk); (try clear hi)))
                                        go_ret
                                        exact ⟨by first | rfl | (simp [errW_none, errW_some] <;> rfl) | (simp [*, errW_none, errW_some] <;> rfl), by repeat (first | (with_reducible first | exact HB.out | apply below_alloc | apply pw_below_drewN | apply below_drew1) | exact HB.out)⟩
                                    · rw [if_neg c42] at H
                                      have c42b0 : (t246 == true) = false := by simpa using c42
                                      (try (have c42b1 : decide (t246 = true) = false := by simpa using c42))
                                      (try (have c42b2 : (t246 == true) = false := by simpa using c42))
                                      (try (have c42b3 : ¬ (t246 = true) := by simpa using c42))
                                      clear c42
                                      obtain rfl := Option.some.inj H
                                      go_wp2_with (first | ((with_reducible refine gate_callee (f := 8) rfl ?_); refine goesL_ (some 71) rfl rfl Tryd.func8 (by kernel_rfl) rfl #[.int .i64 2, .string a0, .string a1] rfl (by (try simp only [List.map_toArray, List.map_cons, List.map_nil]); first | done | rfl | (simp only [List.length_drop, List.length_take]; rfl)) ?_; (with_reducible refine (relation_Holds.calls kj27 2 a0 a1 t245 _ (by first | exact hG | exact GL.below hG (by repeat (first | (with_reducible first | exact HB.out | apply below_alloc | apply pw_below_drewN | apply below_drew1) | exact HB.out)))  A37.out).mono ?_); rintro e w58 ⟨rfl, hb⟩; refine ⟨_, rfl, ?_⟩; have n0_ := Aside0.mk (below_step (by repeat (first | (with_reducible first | exact HB.out | apply below_alloc | apply pw_below_drewN | apply below_drew1) | exact HB.out)) hb); clear HB; have HB := n0_; clear n0_; (try clear hb); (try clear hb2); (try clear hk); (try clear hi)) | (go_at_call 8; (with_reducible refine (relation_Holds.calls kj27 4 a0 a1 t246 _ (by first | exact hG | exact GL.below hG (by repeat (first | (with_reducible first | exact HB.out | apply below_alloc | apply pw_below_drewN | apply below_drew1) | exact HB.out)))  A40.out).mono ?_); rintro e w59 ⟨rfl, hb⟩; have n0_ := Aside0.mk (below_step (by repeat (first | (with_reducible first | exact HB.out | apply below_alloc | apply pw_below_drewN | apply below_drew1) | exact HB.out)) hb); clear HB; have HB := n0_; clear n0_; (try clear hb); (try clear hb2); (try clear hk); (try clear hi)))
                                      go_ret
                                      exact ⟨by first | rfl | (simp [errW_none, errW_some] <;> rfl) | (simp [*, errW_none, errW_some] <;> rfl), by repeat (first | (with_reducible first | exact HB.out | apply below_alloc | apply pw_below_drewN | apply below_drew1) | exact HB.out)⟩
                                  · replace c41 := Bool.eq_false_iff.mpr c41
                                    subst c41
                                    have H1 : (if (t246 == t239) = true then ((relation_Holds.f kj27 5 a1 a0).bind fun t249 => (if (t249 == true) = true then ((relation_Holds.f kj27 3 a1 a0).bind fun t250 => (some (t250 == t239))) else (some false))) else (some false)) = some r := by rw [if_neg (show ¬ (false = true) by decide)] at H; exact H
                                    clear H
                                    have H := H1
                                    clear H1
                                    by_cases c60 : (t246 == t239) = true
                                    · rw [if_pos c60] at H
                                      have c60b0 : (t246 == t239) = true := c60
                                      (try (have c60b1 : decide (t246 = t239) = true := by simpa using c60))
                                      (try (have c60b2 : (t246 == t239) = true := by simpa using c60))
                                      clear c60
                                      replace H := Option.bind_eq_some_iff.mp H
                                      obtain ⟨t249, A610, H⟩ := H
                                      replace H : (if (t249 == true) = true then ((relation_Holds.f kj27 3 a1 a0).bind fun t250 => (some (t250 == t239))) else (some false)) = some r := H
                                      have A61 := Aside0.mk A610
                                      clear A610
                                      by_cases c62 : (t249 == true) = true
                                      · rw [if_pos c62] at H
                                        have c62b0 : (t249 == true) = true := c62
                                        (try (have c62b1 : decide (t249 = true) = true := by simpa using c62))
                                        (try (have c62b2 : (t249 == true) = true := by simpa using c62))
                                        clear c62
                                        replace H := Option.bind_eq_some_iff.mp H
                                        obtain ⟨t250, A630, H⟩ := H
                                        replace H : (some (t250 == t239)) = some r := H
                                        have A63 := Aside0.mk A630
                                        clear A630
                                        obtain rfl := Option.some.inj H
                                        have tok68 : True := trivial
                                        have tok69 : True := trivial
                                        have tok70 : True := trivial
                                        go_wp2_with (first | ((with_reducible refine gate_callee (f := 8) rfl ?_); refine goesL_ (some 71) rfl rfl Tryd.func8 (by kernel_rfl) rfl #[.int .i64 2, .string a0, .string a1] rfl (by (try simp only [List.map_toArray, List.map_cons, List.map_nil]); first | done | rfl | (simp only [List.length_drop, List.length_take]; rfl)) ?_; (with_reducible refine (relation_Holds.calls kj27 2 a0 a1 t245 _ (by first | exact hG | exact GL.below hG (by repeat (first | (with_reducible first | exact HB.out | apply below_alloc | apply pw_below_drewN | apply below_drew1) | exact HB.out)))  A37.out).mono ?_); rintro e w64 ⟨rfl, hb⟩; refine ⟨_, rfl, ?_⟩; have n0_ := Aside0.mk (below_step (by repeat (first | (with_reducible first | exact HB.out | apply below_alloc | apply pw_below_drewN | apply below_drew1) | exact HB.out)) hb); clear HB; have HB := n0_; clear n0_; (try clear hb); (try clear hb2); (try clear hk); (try clear hi)) | (go_at_call 8; have _t_ := tok68; clear _t_ tok68; (with_reducible refine (relation_Holds.calls kj27 4 a0 a1 t246 _ (by first | exact hG | exact GL.below hG (by repeat (first | (with_reducible first | exact HB.out | apply below_alloc | apply pw_below_drewN | apply below_drew1) | exact HB.out)))  A40.out).mono ?_); rintro e w65 ⟨rfl, hb⟩; have n0_ := Aside0.mk (below_step (by repeat (first | (with_reducible first | exact HB.out | apply below_alloc | apply pw_below_drewN | apply below_drew1) | exact HB.out)) hb); clear HB; have HB := n0_; clear n0_; (try clear hb); (try clear hb2); (try clear hk); (try clear hi)) | (go_at_call 8; have _t_ := tok69; clear _t_ tok69; (with_reducible refine (relation_Holds.calls kj27 5 a1 a0 t249 _ (by first | exact hG | exact GL.below hG (by repeat (first | (with_reducible first | exact HB.out | apply below_alloc | apply pw_below_drewN | apply below_drew1) | exact HB.out)))  A61.out).mono ?_); rintro e w66 ⟨rfl, hb⟩; have n0_ := Aside0.mk (below_step (by repeat (first | (with_reducible first | exact HB.out | apply below_alloc | apply pw_below_drewN | apply below_drew1) | exact HB.out)) hb); clear HB; have HB := n0_; clear n0_; (try clear hb); (try clear hb2); (try clear hk); (try clear hi)) | (go_at_call 8; have _t_ := tok70; clear _t_ tok70; (with_reducible refine (relation_Holds.calls kj27 3 a1 a0 t250 _ (by first | exact hG | exact GL.below hG (by repeat (first | (with_reducible first | exact HB.out | apply below_alloc | apply pw_below_drewN | apply below_drew1) | exact HB.out)))  A63.out).mono ?_); rintro e w67 ⟨rfl, hb⟩; have n0_ := Aside0.mk (below_step (by repeat (first | (with_reducible first | exact HB.out | apply below_alloc | apply pw_below_drewN | apply below_drew1) | exact HB.out)) hb); clear HB; have HB := n0_; clear n0_; (try clear hb); (try clear hb2); (try clear hk); (try clear hi)))
                                        go_ret
                                        exact ⟨by first | rfl | (simp [errW_none, errW_some] <;> rfl) | (simp [*, errW_none, errW_some] <;> rfl), by repeat (first | (with_reducible first | exact HB.out | apply below_alloc | apply pw_below_drewN | apply below_drew1) | exact HB.out)⟩
                                      · rw [if_neg c62] at H
                                        have c62b0 : (t249 == true) = false := by simpa using c62
                                        (try (have c62b1 : decide (t249 = true) = false := by simpa using c62))
                                        (try (have c62b2 : (t249 == true) = false := by simpa using c62))
                                        (try (have c62b3 : ¬ (t249 = true) := by simpa using c62))
                                        clear c62
                                        obtain rfl := Option.some.inj H
                                        have tok74 : True := trivial
                                        have tok75 : True := trivial
                                        go_wp2_with (first | ((with_reducible refine gate_callee (f := 8) rfl ?_); refine goesL_ (some 71) rfl rfl Tryd.func8 (by kernel_rfl) rfl #[.int .i64 2, .string a0, .string a1] rfl (by (try simp only [List.map_toArray, List.map_cons, List.map_nil]); first | done | rfl | (simp only [List.length_drop, List.length_take]; rfl)) ?_; (with_reducible refine (relation_Holds.calls kj27 2 a0 a1 t245 _ (by first | exact hG | exact GL.below hG (by repeat (first | (with_reducible first | exact HB.out | apply below_alloc | apply pw_below_drewN | apply below_drew1) | exact HB.out)))  A37.out).mono ?_); rintro e w71 ⟨rfl, hb⟩; refine ⟨_, rfl, ?_⟩; have n0_ := Aside0.mk (below_step (by repeat (first | (with_reducible first | exact HB.out | apply below_alloc | apply pw_below_drewN | apply below_drew1) | exact HB.out)) hb); clear HB; have HB := n0_; clear n0_; (try clear hb); (try clear hb2); (try clear hk); (try clear hi)) | (go_at_call 8; have _t_ := tok74; clear _t_ tok74; (with_reducible refine (relation_Holds.calls kj27 4 a0 a1 t246 _ (by first | exact hG | exact GL.below hG (by repeat (first | (with_reducible first | exact HB.out | apply below_alloc | apply pw_below_drewN | apply below_drew1) | exact HB.out)))  A40.out).mono ?_); rintro e w72 ⟨rfl, hb⟩; have n0_ := Aside0.mk (below_step (by repeat (first | (with_reducible first | exact HB.out | apply below_alloc | apply pw_below_drewN | apply below_drew1) | exact HB.out)) hb); clear HB; have HB := n0_; clear n0_; (try clear hb); (try clear hb2); (try clear hk); (try clear hi)) | (go_at_call 8; have _t_ := tok75; clear _t_ tok75; (with_reducible refine (relation_Holds.calls kj27 5 a1 a0 t249 _ (by first | exact hG | exact GL.below hG (by repeat (first | (with_reducible first | exact HB.out | apply below_alloc | apply pw_below_drewN | apply below_drew1) | exact HB.out)))  A61.out).mono ?_); rintro e w73 ⟨rfl, hb⟩; have n0_ := Aside0.mk (below_step (by repeat (first | (with_reducible first | exact HB.out | apply below_alloc | apply pw_below_drewN | apply below_drew1) | exact HB.out)) hb); clear HB; have HB := n0_; clear n0_; (try clear hb); (try clear hb2); (try clear hk); (try clear hi)))
                                        go_ret
                                        exact ⟨by first | rfl | (simp [errW_none, errW_some] <;> rfl) | (simp [*, errW_none, errW_some] <;> rfl), by repeat (first | (with_reducible first | exact HB.out | apply below_alloc | apply pw_below_drewN | apply below_drew1) | exact HB.out)⟩
                                    · rw [if_neg c60] at H
                                      have c60b0 : (t246 == t239) = false := by simpa using c60
                                      (try (have c60b1 : decide (t246 = t239) = false := by simpa using c60))
                                      (try (have c60b2 : (t246 == t239) = false := by simpa using c60))
                                      (try (have c60b3 : ¬ (t246 = t239) := by simpa using c60))
                                      clear c60
                                      obtain rfl := Option.some.inj H
                                      go_wp2_with (first | ((with_reducible refine gate_callee (f := 8) rfl ?_); refine goesL_ (some 71) rfl rfl Tryd.func8 (by kernel_rfl) rfl #[.int .i64 2, .string a0, .string a1] rfl (by (try simp only [List.map_toArray, List.map_cons, List.map_nil]); first | done | rfl | (simp only [List.length_drop, List.length_take]; rfl)) ?_; (with_reducible refine (relation_Holds.calls kj27 2 a0 a1 t245 _ (by first | exact hG | exact GL.below hG (by repeat (first | (with_reducible first | exact HB.out | apply below_alloc | apply pw_below_drewN | apply below_drew1) | exact HB.out)))  A37.out).mono ?_); rintro e w76 ⟨rfl, hb⟩; refine ⟨_, rfl, ?_⟩; have n0_ := Aside0.mk (below_step (by repeat (first | (with_reducible first | exact HB.out | apply below_alloc | apply pw_below_drewN | apply below_drew1) | exact HB.out)) hb); clear HB; have HB := n0_; clear n0_; (try clear hb); (try clear hb2); (try clear hk); (try clear hi)) | (go_at_call 8; (with_reducible refine (relation_Holds.calls kj27 4 a0 a1 t246 _ (by first | exact hG | exact GL.below hG (by repeat (first | (with_reducible first | exact HB.out | apply below_alloc | apply pw_below_drewN | apply below_drew1) | exact HB.out)))  A40.out).mono ?_); rintro e w77 ⟨rfl, hb⟩; have n0_ := Aside0.mk (below_step (by repeat (first | (with_reducible first | exact HB.out | apply below_alloc | apply pw_below_drewN | apply below_drew1) | exact HB.out)) hb); clear HB; have HB := n0_; clear n0_; (try clear hb); (try clear hb2); (try clear hk); (try clear hi)))
                                      go_ret
                                      exact ⟨by first | rfl | (simp [errW_none, errW_some] <;> rfl) | (simp [*, errW_none, errW_some] <;> rfl), by repeat (first | (with_reducible first | exact HB.out | apply below_alloc | apply pw_below_drewN | apply below_drew1) | exact HB.out)⟩
                                · rw [if_neg c39] at H
                                  have c39b0 : (t245 == true) = false := by simpa using c39
                                  (try (have c39b1 : decide (t245 = true) = false := by simpa using c39))
                                  (try (have c39b2 : (t245 == true) = false := by simpa using c39))
                                  (try (have c39b3 : ¬ (t245 = true) := by simpa using c39))
                                  clear c39
                                  obtain rfl := Option.some.inj H
                                  go_wp2_with (first | ((with_reducible refine gate_callee (f := 8) rfl ?_); refine goesL_ (some 71) rfl rfl Tryd.func8 (by kernel_rfl) rfl #[.int .i64 2, .string a0, .string a1] rfl (by (try simp only [List.map_toArray, List.map_cons, List.map_nil]); first | done | rfl | (simp only [List.length_drop, List.length_take]; rfl)) ?_; (with_reducible refine (relation_Holds.calls kj27 2 a0 a1 t245 _ (by first | exact hG | exact GL.below hG (by repeat (first | (with_reducible first | exact HB.out | apply below_alloc | apply pw_below_drewN | apply below_drew1) | exact HB.out)))  A37.out).mono ?_); rintro e w78 ⟨rfl, hb⟩; refine ⟨_, rfl, ?_⟩; have n0_ := Aside0.mk (below_step (by repeat (first | (with_reducible first | exact HB.out | apply below_alloc | apply pw_below_drewN | apply below_drew1) | exact HB.out)) hb); clear HB; have HB := n0_; clear n0_; (try clear hb); (try clear hb2); (try clear hk); (try clear hi)))
                                  go_ret
                                  exact ⟨by first | rfl | (simp [errW_none, errW_some] <;> rfl) | (simp [*, errW_none, errW_some] <;> rfl), by repeat (first | (with_reducible first | exact HB.out | apply below_alloc | apply pw_below_drewN | apply below_drew1) | exact HB.out)⟩
                              · replace c38 := Bool.eq_false_iff.mpr c38
                                subst c38
                                have H1 : (if (t245 == t239) = true then ((relation_Holds.f kj27 4 a0 a1).bind fun t251 => (if t240 = true then (if (t251 == true) = true then ((relation_Holds.f kj27 5 a1 a0).bind fun t252 => (if (t252 == false) = true then ((relation_Holds.f kj27 3 a1 a0).bind fun t253 => (some (t253 == t239))) else (some false))) else (some false)) else (if (t251 == t239) = true then ((relation_Holds.f kj27 5 a1 a0).bind fun t254 => (if (t254 == false) = true then ((relation_Holds.f kj27 3 a1 a0).bind fun t255 => (some (t255 == t239))) else (some false))) else (some false)))) else (some false)) = some r := by rw [if_neg (show ¬ (false = true) by decide)] at H; exact H
                                clear H
                                have H := H1
                                clear H1
                                by_cases c79 : (t245 == t239) = true
                                · rw [if_pos c79] at H
                                  have c79b0 : (t245 == t239) = true := c79
                                  (try (have c79b1 : decide (t245 = t239) = true := by simpa using c79))
                                  (try (have c79b2 : (t245 == t239) = true := by simpa using c79))
                                  clear c79
                                  replace H := Option.bind_eq_some_iff.mp H
                                  obtain ⟨t251, A800, H⟩ := H
                                  replace H : (if t240 = true then (if (t251 == true) = true then ((relation_Holds.f kj27 5 a1 a0).bind fun t252 => (if (t252 == false) = true then ((relation_Holds.f kj27 3 a1 a0).bind fun t253 => (some (t253 == t239))) else (some false))) else (some false)) else (if (t251 == t239) = true then ((relation_Holds.f kj27 5 a1 a0).bind fun t254 => (if (t254 == false) = true then ((relation_Holds.f kj27 3 a1 a0).bind fun t255 => (some (t255 == t239))) else (some false))) else (some false))) = some r := H
                                  have A80 := Aside0.mk A800
                                  clear A800
                                  by_cases c81 : t240 = true
                                  · subst c81
                                    have H1 : (if (t251 == true) = true then ((relation_Holds.f kj27 5 a1 a0).bind fun t252 => (if (t252 == false) = true then ((relation_Holds.f kj27 3 a1 a0).bind fun t253 => (some (t253 == t239))) else (some false))) else (some false)) = some r := by rw [if_pos rfl] at H; exact H
                                    clear H
                                    have H := H1
                                    clear H1
                                    by_cases c82 : (t251 == true) = true
                                    · rw [if_pos c82] at H
                                      have c82b0 : (t251 == true) = true := c82
                                      (try (have c82b1 : decide (t251 = true) = true := by simpa using c82))
                                      (try (have c82b2 : (t251 == true) = true := by simpa using c82))
                                      clear c82
                                      replace H := Option.bind_eq_some_iff.mp H
                                      obtain ⟨t252, A830, H⟩ := H
                                      replace H : (if (t252 == false) = true then ((relation_Holds.f kj27 3 a1 a0).bind fun t253 => (some (t253 == t239))) else (some false)) = some r := H
                                      have A83 := Aside0.mk A830
                                      clear A830
                                      by_cases c84 : (t252 == false) = true
                                      · rw [if_pos c84] at H
                                        have c84b0 : (t252 == false) = true := c84
                                        (try (have c84b1 : decide (t252 = false) = true := by simpa using c84))
                                        (try (have c84b2 : (t252 == false) = true := by simpa using c84))
                                        clear c84
                                        replace H := Option.bind_eq_some_iff.mp H
                                        obtain ⟨t253, A850, H⟩ := H
                                        replace H : (some (t253 == t239)) = some r := H
                                        have A85 := Aside0.mk A850
                                        clear A850
                                        obtain rfl := Option.some.inj H
                                        have tok90 : True := trivial
                                        have tok91 : True := trivial
                                        have tok92 : True := trivial
                                        go_wp2_with (first | ((with_reducible refine gate_callee (f := 8) rfl ?_); refine goesL_ (some 71) rfl rfl Tryd.func8 (by kernel_rfl) rfl #[.int .i64 2, .string a0, .string a1] rfl (by (try simp only [List.map_toArray, List.map_cons, List.map_nil]); first | done | rfl | (simp only [List.length_drop, List.length_take]; rfl)) ?_; (with_reducible refine (relation_Holds.calls kj27 2 a0 a1 t245 _ (by first | exact hG | exact GL.below hG (by repeat (first | (with_reducible first | exact HB.out | apply below_alloc | apply pw_below_drewN | apply below_drew1) | exact HB.out)))  A37.out).mono ?_); rintro e w86 ⟨rfl, hb⟩; refine ⟨_, rfl, ?_⟩; have n0_ := Aside0.mk (below_step (by repeat (first | (with_reducible first | exact HB.out | apply below_alloc | apply pw_below_drewN | apply below_drew1) | exact HB.out)) hb); clear HB; have HB := n0_; clear n0_; (try clear hb); (try clear hb2); (try clear hk); (try clear hi)) | (go_at_call 8; have _t_ := tok90; clear _t_ tok90; (with_reducible refine (relation_Holds.calls kj27 4 a0 a1 t251 _ (by first | exact hG | exact GL.below hG (by repeat (first | (with_reducible first | exact HB.out | apply below_alloc | apply pw_below_drewN | apply below_drew1) | exact HB.out)))  A80.out).mono ?_); rintro e w87 ⟨rfl, hb⟩; have n0_ := Aside0.mk (below_step (by repeat (first | (with_reducible first | exact HB.out | apply below_alloc | apply pw_below_drewN | apply below_drew1) | exact HB.out)) hb); clear HB; have HB := n0_; clear n0_; (try clear hb); (try clear hb2); (try clear hk); (try clear hi)) | (go_at_call 8; have _t_ := tok91; clear _t_ tok91; (with_reducible refine (relation_Holds.calls kj27 5 a1 a0 t252 _ (by first | exact hG | exact GL.below hG (by repeat (first | (with_reducible first | exact HB.out | apply below_alloc | apply pw_below_drewN | apply below_drew1) | exact HB.out)))  A83.out).mono ?_); rintro e w88 ⟨rfl, hb⟩; have n0_ := Aside0.mk (below_step (by repeat (first | (with_reducible first | exact HB.out | apply below_alloc | apply pw_below_drewN | apply below_drew1) | exact HB.out)) hb); clear HB; have HB := n0_; clear n0_; (try clear hb); (try clear hb2); (try clear hk); (try clear hi)) | (go_at_call 8; have _t_ := tok92; clear _t_ tok92; (with_reducible refine (relation_Holds.calls kj27 3 a1 a0 t253 _ (by first | exact hG | exact GL.below hG (by repeat (first | (with_reducible first | exact HB.out | apply below_alloc | apply pw_below_drewN | apply below_drew1) | exact HB.out)))  A85.out).mono ?_); rintro e w89 ⟨rfl, hb⟩; have n0_ := Aside0.mk (below_step (by repeat (first | (with_reducible first | exact HB.out | apply below_alloc | apply pw_below_drewN | apply below_drew1) | exact HB.out)) hb); clear HB; have HB := n0_; clear n0_; (try clear hb); (try clear hb2); (try clear hk); (try clear hi)))
                                        go_ret
                                        exact ⟨by first | rfl | (simp [errW_none, errW_some] <;> rfl) | (simp [*, errW_none, errW_some] <;> rfl), by repeat (first | (with_reducible first | exact HB.out | apply below_alloc | apply pw_below_drewN | apply below_drew1) | exact HB.out)⟩
                                      · rw [if_neg c84] at H
                                        have c84b0 : (t252 == false) = false := by simpa using c84
                                        (try (have c84b1 : decide (t252 = false) = false := by simpa using c84))
                                        (try (have c84b2 : (t252 == false) = false := by simpa using c84))
                                        (try (have c84b3 : ¬ (t252 = false) := by simpa using c84))
                                        clear c84
                                        obtain rfl := Option.some.inj H
                                        have tok96 : True := trivial
                                        have tok97 : True := trivial
                                        go_wp2_with (first | ((with_reducible refine gate_callee (f := 8) rfl ?_); refine goesL_ (some 71) rfl rfl Tryd.func8 (by kernel_rfl) rfl #[.int .i64 2, .string a0, .string a1] rfl (by (try simp only [List.map_toArray, List.map_cons, List.map_nil]); first | done | rfl | (simp only [List.length_drop, List.length_take]; rfl)) ?_; (with_reducible refine (relation_Holds.calls kj27 2 a0 a1 t245 _ (by first | exact hG | exact GL.below hG (by repeat (first | (with_reducible first | exact HB.out | apply below_alloc | apply pw_below_drewN | apply below_drew1) | exact HB.out)))  A37.out).mono ?_); rintro e w93 ⟨rfl, hb⟩; refine ⟨_, rfl, ?_⟩; have n0_ := Aside0.mk (below_step (by repeat (first | (with_reducible first | exact HB.out | apply below_alloc | apply pw_below_drewN | apply below_drew1) | exact HB.out)) hb); clear HB; have HB := n0_; clear n0_; (try clear hb); (try clear hb2); (try clear hk); (try clear hi)) | (go_at_call 8; have _t_ := tok96; clear _t_ tok96; (with_reducible refine (relation_Holds.calls kj27 4 a0 a1 t251 _ (by first | exact hG | exact GL.below hG (by repeat (first | (with_reducible first | exact HB.out | apply below_alloc | apply pw_below_drewN | apply below_drew1) | exact HB.out)))  A80.out).mono ?_); rintro e w94 ⟨rfl, hb⟩; have n0_ := Aside0.mk (below_step (by repeat (first | (with_reducible first | exact HB.out | apply below_alloc | apply pw_below_drewN | apply below_drew1) | exact HB.out)) hb); clear HB; have HB := n0_; clear n0_; (try clear hb); (try clear hb2); (try clear hk); (try clear hi)) | (go_at_call 8; have _t_ := tok97; clear _t_ tok97; (with_reducible refine (relation_Holds.calls kj27 5 a1 a0 t252 _ (by first | exact hG | exact GL.below hG (by repeat (first | (with_reducible first | exact HB.out | apply below_alloc | apply pw_below_drewN | apply below_drew1) | exact HB.out)))  A83.out).mono ?_); rintro e w95 ⟨rfl, hb⟩; have n0_ := Aside0.mk (below_step (by repeat (first | (with_reducible first | exact HB.out | apply below_alloc | apply pw_below_drewN | apply below_drew1) | exact HB.out)) hb); clear HB; have HB := n0_; clear n0_; (try clear hb); (try clear hb2); (try clear hk); (try clear hi)))
                                        go_ret
                                        exact ⟨by first | rfl | (simp [errW_none, errW_some] <;> rfl) | (simp [*, errW_none, errW_some] <;> rfl), by repeat (first | (with_reducible first | exact HB.out | apply below_alloc | apply pw_below_drewN | apply below_drew1) | exact HB.out)⟩
                                    · rw [if_neg c82] at H
                                      have c82b0 : (t251 == true) = false := by simpa using c82
                                      (try (have c82b1 : decide (t251 = true) = false := by simpa using c82))
                                      (try (have c82b2 : (t251 == true) = false := by simpa using c82))
                                      (try (have c82b3 : ¬ (t251 = true) := by simpa using c82))
                                      clear c82
                                      obtain rfl := Option.some.inj H
                                      go_wp2_with (first | ((with_reducible refine gate_callee (f := 8) rfl ?_); refine goesL_ (some 71) rfl rfl Tryd.func8 (by kernel_rfl) rfl #[.int .i64 2, .string a0, .string a1] rfl (by (try simp only [List.map_toArray, List.map_cons, List.map_nil]); first | done | rfl | (simp only [List.length_drop, List.length_take]; rfl)) ?_; (with_reducible refine (relation_Holds.calls kj27 2 a0 a1 t245 _ (by first | exact hG | exact GL.below hG (by repeat (first | (with_reducible first | exact HB.out | apply below_alloc | apply pw_below_drewN | apply below_drew1) | exact HB.out)))  A37.out).mono ?_); rintro e w98 ⟨rfl, hb⟩; refine ⟨_, rfl, ?_⟩; have n0_ := Aside0.mk (below_step (by repeat (first | (with_reducible first | exact HB.out | apply below_alloc | apply pw_below_drewN | apply below_drew1) | exact HB.out)) hb); clear HB; have HB := n0_; clear n0_; (try clear hb); (try clear hb2); (try clear hk); (try clear hi)) | (go_at_call 8; (with_reducible refine (relation_Holds.calls kj27 4 a0 a1 t251 _ (by first | exact hG | exact GL.below hG (by repeat (first | (with_reducible first | exact HB.out | apply below_alloc | apply pw_below_drewN | apply below_drew1) | exact HB.out)))  A80.out).mono ?_); rintro e w99 ⟨rfl, hb⟩; have n0_ := Aside0.mk (below_step (by repeat (first | (with_reducible first | exact HB.out | apply below_alloc | apply pw_below_drewN | apply below_drew1) | exact HB.out)) hb); clear HB; have HB := n0_; clear n0_; (try clear hb); (try clear hb2); (try clear hk); (try clear hi)))
                                      go_ret
                                      exact ⟨by first | rfl | (simp [errW_none, errW_some] <;> rfl) | (simp [*, errW_none, errW_some] <;> rfl), by repeat (first | (with_reducible first | exact HB.out | apply below_alloc | apply pw_below_drewN | apply below_drew1) | exact HB.out)⟩
                                  · replace c81 := Bool.eq_false_iff.mpr c81
                                    subst c81
                                    have H1 : (if (t251 == t239) = true then ((relation_Holds.f kj27 5 a1 a0).bind fun t254 => (if (t254 == false) = true then ((relation_Holds.f kj27 3 a1 a0).bind fun t255 => (some (t255 == t239))) else (some false))) else (some false)) = some r := by rw [if_neg (show ¬ (false = true) by decide)] at H; exact H
                                    clear H
                                    have H := H1
                                    clear H1
                                    by_cases c100 : (t251 == t239) = true
                                    · rw [if_pos c100] at H
                                      have c100b0 : (t251 == t239) = true := c100
                                      (try (have c100b1 : decide (t251 = t239) = true := by simpa using c100))
                                      (try (have c100b2 : (t251 == t239) = true := by simpa using c100))
                                      clear c100
                                      replace H := Option.bind_eq_some_iff.mp H
                                      obtain ⟨t254, A1010, H⟩ := H
                                      replace H : (if (t254 == false) = true then ((relation_Holds.f kj27 3 a1 a0).bind fun t255 => (some (t255 == t239))) else (some false)) = some r := H
                                      have A101 := Aside0.mk A1010
                                      clear A1010
                                      by_cases c102 : (t254 == false) = true
                                      · rw [if_pos c102] at H
                                        have c102b0 : (t254 == false) = true := c102
                                        (try (have c102b1 : decide (t254 = false) = true := by simpa using c102))
                                        (try (have c102b2 : (t254 == false) = true := by simpa using c102))
                                        clear c102
                                        replace H := Option.bind_eq_some_iff.mp H
                                        obtain ⟨t255, A1030, H⟩ := H
                                        replace H : (some (t255 == t239)) = some r := H
                                        have A103 := Aside0.mk A1030
                                        clear A1030
                                        obtain rfl := Option.some.inj H
                                        have tok108 : True := trivial
                                        have tok109 : True := trivial
                                        have tok110 : True := trivial
                                        go_wp2_with (first | ((with_reducible refine gate_callee (f := 8) rfl ?_); refine goesL_ (some 71) rfl rfl Tryd.func8 (by kernel_rfl) rfl #[.int .i64 2, .string a0, .string a1] rfl (by (try simp only [List.map_toArray, List.map_cons, List.map_nil]); first | done | rfl | (simp only [List.length_drop, List.length_take]; rfl)) ?_; (with_reducible refine (relation_Holds.calls kj27 2 a0 a1 t245 _ (by first | exact hG | exact GL.below hG (by repeat (first | (with_reducible first | exact HB.out | apply below_alloc | apply pw_below_drewN | apply below_drew1) | exact HB.out)))  A37.out).mono ?_); rintro e w104 ⟨rfl, hb⟩; refine ⟨_, rfl, ?_⟩; have n0_ := Aside0.mk (below_step (by repeat (first | (with_reducible first | exact HB.out | apply below_alloc | apply pw_below_drewN | apply below_drew1) | exact HB.out)) hb); clear HB; have HB := n0_; clear n0_; (try clear hb); (try clear hb2); (try clear hk); (try clear hi)) | (go_at_call 8; have _t_ := tok108; clear _t_ tok108; (with_reducible refine (relation_Holds.calls kj27 4 a0 a1 t251 _ (by first | exact hG | exact GL.below hG (by repeat (first | (with_reducible first | exact HB.out | apply below_alloc | apply pw_below_drewN | apply below_drew1) | exact HB.out)))  A80.out).mono ?_); rintro e w105 ⟨rfl, hb⟩; have n0_ := Aside0.mk (below_step (by repeat (first | (with_reducible first | exact HB.out | apply below_alloc | apply pw_below_drewN | apply below_drew1) | exact HB.out)) hb); clear HB; have HB := n0_; clear n0_; (try clear hb); (try clear hb2); (try clear hk); (try clear hi)) | (go_at_call 8; have _t_ := tok109; clear _t_ tok109; (with_reducible refine (relation_Holds.calls kj27 5 a1 a0 t254 _ (by first | exact hG | exact GL.below hG (by repeat (first | (with_reducible first | exact HB.out | apply below_alloc | apply pw_below_drewN | apply below_drew1) | exact HB.out)))  A101.out).mono ?_); rintro e w106 ⟨rfl, hb⟩; have n0_ := Aside0.mk (below_step (by repeat (first | (with_reducible first | exact HB.out | apply below_alloc | apply pw_below_drewN | apply below_drew1) | exact HB.out)) hb); clear HB; have HB := n0_; clear n0_; (try clear hb); (try clear hb2); (try clear hk); (try clear hi)) | (go_at_call 8; have _t_ := tok110; clear _t_ tok110; (with_reducible refine (relation_Holds.calls kj27 3 a1 a0 t255 _ (by first | exact hG | exact GL.below hG (by repeat (first | (with_reducible first | exact HB.out | apply below_alloc | apply pw_below_drewN | apply below_drew1) | exact HB.out)))  A103.out).mono ?_); rintro e w107 ⟨rfl, hb⟩; have n0_ := Aside0.mk (below_step (by repeat (first | (with_reducible first | exact HB.out | apply below_alloc | apply pw_below_drewN | apply below_drew1) | exact HB.out)) hb); clear HB; have HB := n0_; clear n0_; (try clear hb); (try clear hb2); (try clear hk); (try clear hi)))
                                        go_ret
                                        exact ⟨by first | rfl | (simp [errW_none, errW_some] <;> rfl) | (simp [*, errW_none, errW_some] <;> rfl), by repeat (first | (with_reducible first | exact HB.out | apply below_alloc | apply pw_below_drewN | apply below_drew1) | exact HB.out)⟩
                                      · rw [if_neg c102] at H
                                        have c102b0 : (t254 == false) = false := by simpa using c102
                                        (try (have c102b1 : decide (t254 = false) = false := by simpa using c102))
                                        (try (have c102b2 : (t254 == false) = false := by simpa using c102))
                                        (try (have c102b3 : ¬ (t254 = false) := by simpa using c102))
                                        clear c102
                                        obtain rfl := Option.some.inj H
                                        have tok114 : True := trivial
                                        have tok115 : True := trivial
                                        go_wp2_with (first | ((with_reducible refine gate_callee (f := 8) rfl ?_); refine goesL_ (some 71) rfl rfl Tryd.func8 (by kernel_rfl) rfl #[.int .i64 2, .string a0, .string a1] rfl (by (try simp only [List.map_toArray, List.map_cons, List.map_nil]); first | done | rfl | (simp only [List.length_drop, List.length_take]; rfl)) ?_; (with_reducible refine (relation_Holds.calls kj27 2 a0 a1 t245 _ (by first | exact hG | exact GL.below hG (by repeat (first | (with_reducible first | exact HB.out | apply below_alloc | apply pw_below_drewN | apply below_drew1) | exact HB.out)))  A37.out).mono ?_); rintro e w111 ⟨rfl, hb⟩; refine ⟨_, rfl, ?_⟩; have n0_ := Aside0.mk (below_step (by repeat (first | (with_reducible first | exact HB.out | apply below_alloc | apply pw_below_drewN | apply below_drew1) | exact HB.out)) hb); clear HB; have HB := n0_; clear n0_; (try clear hb); (try clear hb2); (try clear hk); (try clear hi)) | (go_at_call 8; have _t_ := tok114; clear _t_ tok114; (with_reducible refine (relation_Holds.calls kj27 4 a0 a1 t251 _ (by first | exact hG | exact GL.below hG (by repeat (first | (with_reducible first | exact HB.out | apply below_alloc | apply pw_below_drewN | apply below_drew1) | exact HB.out)))  A80.out).mono ?_); rintro e w112 ⟨rfl, hb⟩; have n0_ := Aside0.mk (below_step (by repeat (first | (with_reducible first | exact HB.out | apply below_alloc | apply pw_below_drewN | apply below_drew1) | exact HB.out)) hb); clear HB; have HB := n0_; clear n0_; (try clear hb); (try clear hb2); (try clear hk); (try clear hi)) | (go_at_call 8; have _t_ := tok115; clear _t_ tok115; (with_reducible refine (relation_Holds.calls kj27 5 a1 a0 t254 _ (by first | exact hG | exact GL.below hG (by repeat (first | (with_reducible first | exact HB.out | apply below_alloc | apply pw_below_drewN | apply below_drew1) | exact HB.out)))  A101.out).mono ?_); rintro e w113 ⟨rfl, hb⟩; have n0_ := Aside0.mk (below_step (by repeat (first | (with_reducible first | exact HB.out | apply below_alloc | apply pw_below_drewN | apply below_drew1) | exact HB.out)) hb); clear HB; have HB := n0_; clear n0_; (try clear hb); (try clear hb2); (try clear hk); (try clear hi)))
                                        go_ret
                                        exact ⟨by first | rfl | (simp [errW_none, errW_some] <;> rfl) | (simp [*, errW_none, errW_some] <;> rfl), by repeat (first | (with_reducible first | exact HB.out | apply below_alloc | apply pw_below_drewN | apply below_drew1) | exact HB.out)⟩
                                    · rw [if_neg c100] at H
                                      have c100b0 : (t251 == t239) = false := by simpa using c100
                                      (try (have c100b1 : decide (t251 = t239) = false := by simpa using c100))
                                      (try (have c100b2 : (t251 == t239) = false := by simpa using c100))
                                      (try (have c100b3 : ¬ (t251 = t239) := by simpa using c100))
                                      clear c100
                                      obtain rfl := Option.some.inj H
                                      go_wp2_with (first | ((with_reducible refine gate_callee (f := 8) rfl ?_); refine goesL_ (some 71) rfl rfl Tryd.func8 (by kernel_rfl) rfl #[.int .i64 2, .string a0, .string a1] rfl (by (try simp only [List.map_toArray, List.map_cons, List.map_nil]); first | done | rfl | (simp only [List.length_drop, List.length_take]; rfl)) ?_; (with_reducible refine (relation_Holds.calls kj27 2 a0 a1 t245 _ (by first | exact hG | exact GL.below hG (by repeat (first | (with_reducible first | exact HB.out | apply below_alloc | apply pw_below_drewN | apply below_drew1) | exact HB.out)))  A37.out).mono ?_); rintro e w116 ⟨rfl, hb⟩; refine ⟨_, rfl, ?_⟩; have n0_ := Aside0.mk (below_step (by repeat (first | (with_reducible first | exact HB.out | apply below_alloc | apply pw_below_drewN | apply below_drew1) | exact HB.out)) hb); clear HB; have HB := n0_; clear n0_; (try clear hb); (try clear hb2); (try clear hk); (try clear hi)) | (go_at_call 8; (with_reducible refine (relation_Holds.calls kj27 4 a0 a1 t251 _ (by first | exact hG | exact GL.below hG (by repeat (first | (with_reducible first | exact HB.out | apply below_alloc | apply pw_below_drewN | apply below_drew1) | exact HB.out)))  A80.out).mono ?_); rintro e w117 ⟨rfl, hb⟩; have n0_ := Aside0.mk (below_step (by repeat (first | (with_reducible first | exact HB.out | apply below_alloc | apply pw_below_drewN | apply below_drew1) | exact HB.out)) hb); clear HB; have HB := n0_; clear n0_; (try clear hb); (try clear hb2); (try clear hk); (try clear hi)))
                                      go_ret
                                      exact ⟨by first | rfl | (simp [errW_none, errW_some] <;> rfl) | (simp [*, errW_none, errW_some] <;> rfl), by repeat (first | (with_reducible first | exact HB.out | apply below_alloc | apply pw_below_drewN | apply below_drew1) | exact HB.out)⟩
                                · rw [if_neg c79] at H
                                  have c79b0 : (t245 == t239) = false := by simpa using c79
                                  (try (have c79b1 : decide (t245 = t239) = false := by simpa using c79))
                                  (try (have c79b2 : (t245 == t239) = false := by simpa using c79))
                                  (try (have c79b3 : ¬ (t245 = t239) := by simpa using c79))
                                  clear c79
                                  obtain rfl := Option.some.inj H
                                  go_wp2_with (first | ((with_reducible refine gate_callee (f := 8) rfl ?_); refine goesL_ (some 71) rfl rfl Tryd.func8 (by kernel_rfl) rfl #[.int .i64 2, .string a0, .string a1] rfl (by (try simp only [List.map_toArray, List.map_cons, List.map_nil]); first | done | rfl | (simp only [List.length_drop, List.length_take]; rfl)) ?_; (with_reducible refine (relation_Holds.calls kj27 2 a0 a1 t245 _ (by first | exact hG | exact GL.below hG (by repeat (first | (with_reducible first | exact HB.out | apply below_alloc | apply pw_below_drewN | apply below_drew1) | exact HB.out)))  A37.out).mono ?_); rintro e w118 ⟨rfl, hb⟩; refine ⟨_, rfl, ?_⟩; have n0_ := Aside0.mk (below_step (by repeat (first | (with_reducible first | exact HB.out | apply below_alloc | apply pw_below_drewN | apply below_drew1) | exact HB.out)) hb); clear HB; have HB := n0_; clear n0_; (try clear hb); (try clear hb2); (try clear hk); (try clear hi)))
                                  go_ret
                                  exact ⟨by first | rfl | (simp [errW_none, errW_some] <;> rfl) | (simp [*, errW_none, errW_some] <;> rfl), by repeat (first | (with_reducible first | exact HB.out | apply below_alloc | apply pw_below_drewN | apply below_drew1) | exact HB.out)⟩
def keelsonlaw3_RelationOne.Pure : Prop := ∀ (a0 : ByteArray) (a1 : ByteArray), a0.size ≤ 140737488351232 → a1.size ≤ 140737488351232 → ∃ k, keelsonlaw3_RelationOne.f k a0 a1 = some true
theorem keelsonlaw3_RelationOne.walk (P : keelsonlaw3_RelationOne.Pure) (a0 : ByteArray) (a1 : ByteArray) (w : World) (hG : GL w) (w0 : a0.size ≤ 140737488351232) (w1 : a1.size ≤ 140737488351232) :
    Calls Tryd.prog 3 #[.string a0, .string a1] w fun e w' => e = .returned (.bool true) ∧ Below w.heap.size w w' := by
  obtain ⟨k, h⟩ := P a0 a1 w0 w1
  refine (keelsonlaw3_RelationOne.calls k a0 a1 true w hG h).mono ?_
  rintro e w' ⟨rfl, hd⟩
  exact ⟨rfl, hd⟩
end Go.Proofs.YtohijjobmmibcaaDoor.PA
