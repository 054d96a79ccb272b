-- out of the turned printer (wip/tool)
import Derived.Test.YtpjhaaifgiicoaaDoorPAx0
import Derived.Test.YtpjhaaifgiicoaaDoorPAx3
import Derived.Test.YtpjhaaifgiicoaaDoorPAx6
namespace Go.Proofs.YtpjhaaifgiicoaaDoor.PA
open Go.RowKit Go.Proofs.YtpjhaaifgiicoaaDoorW.PrintWords Go.Proofs.YtpjhaaifgiicoaaDoorW.PrintLast Go.Proofs.YtpjhaaifgiicoaaDoorW.PrintMore
attribute [local go_sem] max2_int min2_int max_two min_two max_three min_three max_four min_four   -- for this text's walks alone
set_option linter.unusedVariables false
set_option linter.unusedSimpArgs false

/-! ### keelsonlaw2_VersionEnds: function 3 -/
mutual
def keelsonlaw2_VersionEnds.j0 : Nat → ByteArray → ByteArray → Int → Int → Int → Bool → Bool → Option (Bool)
  | 0, _, _, _, _, _, _, _ => none
  | k + 1, x0, x1, x2, x3, x4, x11, x30 => if x30 = true then (some x11) else (if x2 < 0 then (keelsonlaw2_VersionEnds.j1 k x0 x1 (wrap64 (-(wrap64 (x2 + 1)))) x3 x4) else (keelsonlaw2_VersionEnds.j1 k x0 x1 x2 x3 x4))
def keelsonlaw2_VersionEnds.j1 : Nat → ByteArray → ByteArray → Int → Int → Int → Option (Bool)
  | 0, _, _, _, _, _ => none
  | k + 1, x0, x1, x2, x3, x4 => if x3 < 0 then (keelsonlaw2_VersionEnds.j2 k x0 x1 x2 (wrap64 (-(wrap64 (x3 + 1)))) x4) else (keelsonlaw2_VersionEnds.j2 k x0 x1 x2 x3 x4)
def keelsonlaw2_VersionEnds.j2 : Nat → ByteArray → ByteArray → Int → Int → Int → Option (Bool)
  | 0, _, _, _, _, _ => none
  | k + 1, x0, x1, x2, x3, x4 => if 0 ≤ (Int.tmod x2 52) then (if (Int.tmod x2 52) ≤ (wrap64 ((Int.tmod x2 52) + 1)) then (if (wrap64 ((Int.tmod x2 52) + 1)) ≤ 52 then (if 0 ≤ (Int.tmod x3 9) then (if (Int.tmod x3 9) ≤ 8 then (if x4 < 0 then (keelsonlaw2_VersionEnds.j3 k x0 x1 (wrap64 (-(wrap64 (x4 + 1)))) ((⟨#[97, 98, 99, 100, 101, 102, 103, 104, 105, 106, 107, 108, 109, 110, 111, 112, 113, 114, 115, 116, 117, 118, 119, 120, 121, 122, 65, 66, 67, 68, 69, 70, 71, 72, 73, 74, 75, 76, 77, 78, 79, 80, 81, 82, 83, 84, 85, 86, 87, 88, 89, 90]⟩ : ByteArray).extract ((Int.tmod x2 52) : Int).toNat ((wrap64 ((Int.tmod x2 52) + 1)) : Int).toNat) ((⟨#[48, 48, 48, 48, 48, 48, 48, 48]⟩ : ByteArray).extract 0 ((Int.tmod x3 9) : Int).toNat)) else (keelsonlaw2_VersionEnds.j3 k x0 x1 x4 ((⟨#[97, 98, 99, 100, 101, 102, 103, 104, 105, 106, 107, 108, 109, 110, 111, 112, 113, 114, 115, 116, 117, 118, 119, 120, 121, 122, 65, 66, 67, 68, 69, 70, 71, 72, 73, 74, 75, 76, 77, 78, 79, 80, 81, 82, 83, 84, 85, 86, 87, 88, 89, 90]⟩ : ByteArray).extract ((Int.tmod x2 52) : Int).toNat ((wrap64 ((Int.tmod x2 52) + 1)) : Int).toNat) ((⟨#[48, 48, 48, 48, 48, 48, 48, 48]⟩ : ByteArray).extract 0 ((Int.tmod x3 9) : Int).toNat))) else (none)) else (none)) else (none)) else (none)) else (none)
def keelsonlaw2_VersionEnds.j3 : Nat → ByteArray → ByteArray → Int → ByteArray → ByteArray → Option (Bool)
  | 0, _, _, _, _, _ => none
  | k + 1, x0, x1, x4, x12, x13 => (keelsonref2_Decimal.f k x4).bind fun t182 => (if x0.size + 1 ≤ 9223372036854775807 then (if (x0 ++ (⟨#[126]⟩ : ByteArray)).size + x1.size ≤ 9223372036854775807 then ((version_CompareText.f k ((x0 ++ (⟨#[126]⟩ : ByteArray)) ++ x1) x0).bind fun t183 => (if x0.size + x12.size ≤ 9223372036854775807 then (if (x0 ++ x12).size + x1.size ≤ 9223372036854775807 then ((version_CompareText.f k ((x0 ++ x12) ++ x1) x0).bind fun t184 => (if (x0 ++ (⟨#[46]⟩ : ByteArray)).size + t182.size ≤ 9223372036854775807 then (if ((x0 ++ (⟨#[46]⟩ : ByteArray)) ++ t182).size + x1.size ≤ 9223372036854775807 then (if (x0 ++ (⟨#[46]⟩ : ByteArray)).size + x13.size ≤ 9223372036854775807 then (if ((x0 ++ (⟨#[46]⟩ : ByteArray)) ++ x13).size + t182.size ≤ 9223372036854775807 then (if (((x0 ++ (⟨#[46]⟩ : ByteArray)) ++ x13) ++ t182).size + x1.size ≤ 9223372036854775807 then ((version_CompareText.f k (((x0 ++ (⟨#[46]⟩ : ByteArray)) ++ t182) ++ x1) ((((x0 ++ (⟨#[46]⟩ : ByteArray)) ++ x13) ++ t182) ++ x1)).bind fun t185 => (if t183 = (-1) then (if t184 = 1 then (if t185 = 0 then ((version_CompareText.f k ((x0 ++ (⟨#[126]⟩ : ByteArray)) ++ x1) (x0 ++ x12)).bind fun t186 => (some (t186 == (-1)))) else (some false)) else (some false)) else (some false))) else (none)) else (none)) else (none)) else (none)) else (none))) else (none)) else (none))) else (none)) else (none))
end
def keelsonlaw2_VersionEnds.f (k : Nat) (a0 : ByteArray) (a1 : ByteArray) (a2 : Int) (a3 : Int) (a4 : Int) : Option (Bool) := (keelsonlaw2_shown.f k).bind fun t181 => (if t181 = true then (if (a0.size : Int) > 200 then (keelsonlaw2_VersionEnds.j0 k a0 a1 a2 a3 a4 t181 true) else (keelsonlaw2_VersionEnds.j0 k a0 a1 a2 a3 a4 t181 (decide ((a1.size : Int) > 200)))) else (keelsonlaw2_VersionEnds.j0 k a0 a1 a2 a3 a4 t181 true))
theorem keelsonlaw2_VersionEnds.mono_l : ∀ k, (∀ y0 y1 y2 y3 y4 y5 y6, LeO (keelsonlaw2_VersionEnds.j0 k y0 y1 y2 y3 y4 y5 y6) (keelsonlaw2_VersionEnds.j0 (k + 1) y0 y1 y2 y3 y4 y5 y6)) ∧ (∀ y0 y1 y2 y3 y4, LeO (keelsonlaw2_VersionEnds.j1 k y0 y1 y2 y3 y4) (keelsonlaw2_VersionEnds.j1 (k + 1) y0 y1 y2 y3 y4)) ∧ (∀ y0 y1 y2 y3 y4, LeO (keelsonlaw2_VersionEnds.j2 k y0 y1 y2 y3 y4) (keelsonlaw2_VersionEnds.j2 (k + 1) y0 y1 y2 y3 y4)) ∧ (∀ y0 y1 y2 y3 y4, LeO (keelsonlaw2_VersionEnds.j3 k y0 y1 y2 y3 y4) (keelsonlaw2_VersionEnds.j3 (k + 1) y0 y1 y2 y3 y4))
  | 0 => ⟨fun _ _ _ _ _ _ _ r h => by simp [keelsonlaw2_VersionEnds.j0] at h, fun _ _ _ _ _ r h => by simp [keelsonlaw2_VersionEnds.j1] at h, fun _ _ _ _ _ r h => by simp [keelsonlaw2_VersionEnds.j2] at h, fun _ _ _ _ _ r h => by simp [keelsonlaw2_VersionEnds.j3] at h⟩
  | k + 1 => by
    obtain ⟨ih0, ih1, ih2, ih3⟩ := keelsonlaw2_VersionEnds.mono_l k
    refine ⟨?_, ?_, ?_, ?_⟩
    · intro y0 y1 y2 y3 y4 y5 y6
      unfold keelsonlaw2_VersionEnds.j0
      repeat' first
      | (with_reducible exact ih0 _ _ _ _ _ _ _)
      | (with_reducible exact ih1 _ _ _ _ _)
      | (with_reducible exact ih2 _ _ _ _ _)
      | (with_reducible exact ih3 _ _ _ _ _)
      | (with_reducible exact keelsonlaw2_shown.mono _)
      | (with_reducible exact keelsonref2_Decimal.mono _ _)
      | (with_reducible exact version_CompareText.mono _ _ _)
      | (with_reducible exact LeO.refl _)
      | (with_reducible exact LeO.none _)
      | (with_reducible refine LeO.ite ?_ ?_)
      | (with_reducible refine LeO.bind ?_ (fun _ => ?_))
      | exact ih0 _ _ _ _ _ _ _
      | exact ih1 _ _ _ _ _
      | exact ih2 _ _ _ _ _
      | exact ih3 _ _ _ _ _
      | exact keelsonlaw2_shown.mono _
      | exact keelsonref2_Decimal.mono _ _
      | exact version_CompareText.mono _ _ _
      | exact LeO.none _
      | refine LeO.ite ?_ ?_
      | refine LeO.bind ?_ (fun _ => ?_)
    · intro y0 y1 y2 y3 y4
      unfold keelsonlaw2_VersionEnds.j1
      repeat' first
      | (with_reducible exact ih0 _ _ _ _ _ _ _)
      | (with_reducible exact ih1 _ _ _ _ _)
      | (with_reducible exact ih2 _ _ _ _ _)
      | (with_reducible exact ih3 _ _ _ _ _)
      | (with_reducible exact keelsonlaw2_shown.mono _)
      | (with_reducible exact keelsonref2_Decimal.mono _ _)
      | (with_reducible exact version_CompareText.mono _ _ _)
      | (with_reducible exact LeO.refl _)
      | (with_reducible exact LeO.none _)
      | (with_reducible refine LeO.ite ?_ ?_)
      | (with_reducible refine LeO.bind ?_ (fun _ => ?_))
      | exact ih0 _ _ _ _ _ _ _
      | exact ih1 _ _ _ _ _
      | exact ih2 _ _ _ _ _
      | exact ih3 _ _ _ _ _
      | exact keelsonlaw2_shown.mono _
      | exact keelsonref2_Decimal.mono _ _
      | exact version_CompareText.mono _ _ _
      | exact LeO.none _
      | refine LeO.ite ?_ ?_
      | refine LeO.bind ?_ (fun _ => ?_)
    · intro y0 y1 y2 y3 y4
      unfold keelsonlaw2_VersionEnds.j2
      repeat' first
      | (with_reducible exact ih0 _ _ _ _ _ _ _)
      | (with_reducible exact ih1 _ _ _ _ _)
      | (with_reducible exact ih2 _ _ _ _ _)
      | (with_reducible exact ih3 _ _ _ _ _)
      | (with_reducible exact keelsonlaw2_shown.mono _)
      | (with_reducible exact keelsonref2_Decimal.mono _ _)
      | (with_reducible exact version_CompareText.mono _ _ _)
      | (with_reducible exact LeO.refl _)
      | (with_reducible exact LeO.none _)
      | (with_reducible refine LeO.ite ?_ ?_)
      | (with_reducible refine LeO.bind ?_ (fun _ => ?_))
      | exact ih0 _ _ _ _ _ _ _
      | exact ih1 _ _ _ _ _
      | exact ih2 _ _ _ _ _
      | exact ih3 _ _ _ _ _
      | exact keelsonlaw2_shown.mono _
      | exact keelsonref2_Decimal.mono _ _
      | exact version_CompareText.mono _ _ _
      | exact LeO.none _
      | refine LeO.ite ?_ ?_
      | refine LeO.bind ?_ (fun _ => ?_)
    · intro y0 y1 y2 y3 y4
      unfold keelsonlaw2_VersionEnds.j3
      repeat' first
      | (with_reducible exact ih0 _ _ _ _ _ _ _)
      | (with_reducible exact ih1 _ _ _ _ _)
      | (with_reducible exact ih2 _ _ _ _ _)
      | (with_reducible exact ih3 _ _ _ _ _)
      | (with_reducible exact keelsonlaw2_shown.mono _)
      | (with_reducible exact keelsonref2_Decimal.mono _ _)
      | (with_reducible exact version_CompareText.mono _ _ _)
      | (with_reducible exact LeO.refl _)
      | (with_reducible exact LeO.none _)
      | (with_reducible refine LeO.ite ?_ ?_)
      | (with_reducible refine LeO.bind ?_ (fun _ => ?_))
      | exact ih0 _ _ _ _ _ _ _
      | exact ih1 _ _ _ _ _
      | exact ih2 _ _ _ _ _
      | exact ih3 _ _ _ _ _
      | exact keelsonlaw2_shown.mono _
      | exact keelsonref2_Decimal.mono _ _
      | exact version_CompareText.mono _ _ _
      | exact LeO.none _
      | refine LeO.ite ?_ ?_
      | refine LeO.bind ?_ (fun _ => ?_)
theorem keelsonlaw2_VersionEnds.mono : ∀ a0 a1 a2 a3 a4 k, LeO (keelsonlaw2_VersionEnds.f k a0 a1 a2 a3 a4) (keelsonlaw2_VersionEnds.f (k + 1) a0 a1 a2 a3 a4) := by
  intro a0 a1 a2 a3 a4 k
  obtain ⟨ih0, ih1, ih2, ih3⟩ := keelsonlaw2_VersionEnds.mono_l k
  unfold keelsonlaw2_VersionEnds.f
  repeat' first
      | (with_reducible exact ih0 _ _ _ _ _ _ _)
      | (with_reducible exact ih1 _ _ _ _ _)
      | (with_reducible exact ih2 _ _ _ _ _)
      | (with_reducible exact ih3 _ _ _ _ _)
      | (with_reducible exact keelsonlaw2_shown.mono _)
      | (with_reducible exact keelsonref2_Decimal.mono _ _)
      | (with_reducible exact version_CompareText.mono _ _ _)
      | (with_reducible exact LeO.refl _)
      | (with_reducible exact LeO.none _)
      | (with_reducible refine LeO.ite ?_ ?_)
      | (with_reducible refine LeO.bind ?_ (fun _ => ?_))
      | exact ih0 _ _ _ _ _ _ _
      | exact ih1 _ _ _ _ _
      | exact ih2 _ _ _ _ _
      | exact ih3 _ _ _ _ _
      | exact keelsonlaw2_shown.mono _
      | exact keelsonref2_Decimal.mono _ _
      | exact version_CompareText.mono _ _ _
      | exact LeO.none _
      | refine LeO.ite ?_ ?_
      | refine LeO.bind ?_ (fun _ => ?_)
set_option maxHeartbeats 8000000 in
set_option maxRecDepth 100000 in
theorem keelsonlaw2_VersionEnds.calls (k : Nat) (a0 : ByteArray) (a1 : ByteArray) (a2 : Int) (a3 : Int) (a4 : Int) (r : Bool) (w : World) (hG : GL w) (h : keelsonlaw2_VersionEnds.f k a0 a1 a2 a3 a4 = some r) :
    Calls Tryd.prog 3 #[.string a0, .string a1, .int .i64 a2, .int .i64 a3, .int .i64 a4] w fun e w' => e = .returned (.bool r) ∧ Below w.heap.size w w' := by
  have HB := Aside0.mk (Below.refl w.heap.size w)
  have H : ((keelsonlaw2_shown.f k).bind fun t181 => (if t181 = true then (if (a0.size : Int) > 200 then (keelsonlaw2_VersionEnds.j0 k a0 a1 a2 a3 a4 t181 true) else (keelsonlaw2_VersionEnds.j0 k a0 a1 a2 a3 a4 t181 (decide ((a1.size : Int) > 200)))) else (keelsonlaw2_VersionEnds.j0 k a0 a1 a2 a3 a4 t181 true))) = some r := h
  clear h
  replace H := Option.bind_eq_some_iff.mp H
  obtain ⟨t181, A60, H⟩ := H
  replace H : (if t181 = true then (if (a0.size : Int) > 200 then (keelsonlaw2_VersionEnds.j0 k a0 a1 a2 a3 a4 t181 true) else (keelsonlaw2_VersionEnds.j0 k a0 a1 a2 a3 a4 t181 (decide ((a1.size : Int) > 200)))) else (keelsonlaw2_VersionEnds.j0 k a0 a1 a2 a3 a4 t181 true)) = some r := H
  have A6 := Aside0.mk A60
  clear A60
  have HC7 := Aside0.mk H
  clear H
  go_enter Tryd.func3, Tryd.ntmps3
  go_upto_region 2 with (first | ((with_reducible refine gate_callee (f := 8) rfl ?_); refine goesL_ (some 18) rfl rfl Tryd.func8 (by kernel_rfl) rfl #[] rfl (by (try simp only [List.map_toArray, List.map_cons, List.map_nil]); first | done | rfl | (simp only [List.length_drop, List.length_take]; rfl)) ?_; (with_reducible refine (keelsonlaw2_shown.calls k  t181 _ (by first | exact hG | exact GL.below hG (by repeat (first | (with_reducible first | exact HB.out | apply below_alloc | apply pw_below_drewN | apply below_drew1) | exact HB.out)))  A6.out).mono ?_); rintro e w8 ⟨rfl, hb⟩; refine ⟨_, rfl, ?_⟩; have n0_ := Aside0.mk (below_step (by repeat (first | (with_reducible first | exact HB.out | apply below_alloc | apply pw_below_drewN | apply below_drew1) | exact HB.out)) hb); clear HB; have HB := n0_; clear n0_; (try clear hb); (try clear hb2); (try clear hk); (try clear hi)))
  (try simp only [Act.put, List.setIfInBounds_toArray, List.set_cons_zero, List.set_cons_succ])
  go_cut [30] (fun v30 wc => ∃ (kq : Nat) (x30_6 : Bool), v30 = .bool x30_6 ∧ Aside0 (keelsonlaw2_VersionEnds.j0 kq a0 a1 a2 a3 a4 t181 x30_6 = some r) ∧ Aside0 (kq ≤ k) ∧ Aside0 (Below w.heap.size w wc))
  case first =>
    have H := HC7.out
    clear HC7
    by_cases c9 : t181 = true
    · subst c9
      have H1 : (if (a0.size : Int) > 200 then (keelsonlaw2_VersionEnds.j0 k a0 a1 a2 a3 a4 true true) else (keelsonlaw2_VersionEnds.j0 k a0 a1 a2 a3 a4 true (decide ((a1.size : Int) > 200)))) = some r := by rw [if_pos rfl] at H; exact H
      clear H
      have H := H1
      clear H1
      by_cases c10 : (a0.size : Int) > 200
      · rw [if_pos c10] at H
        have c10b0 : decide (200 < (a0.size : Int)) = true := decide_eq_true c10
        have c10b1 : decide (200 < a0.size) = true := decide_eq_true (by omega)
        clear c10
        (first | rw [c10b0] | (simp only [i64_w, i32_w]; rw [c10b0]) | skip)
        have H' := Aside0.mk H
        clear H
        go_wp2
        go_meet
        case rel => exact ⟨_, (true), (by first | rfl | (simp; done) | (simp [*]; done) | (simp [isEmpty_bne]; done)), H', ⟨by first | omega | exact Nat.le_refl _⟩, ⟨by repeat (first | (with_reducible first | exact HB.out | apply below_alloc | apply pw_below_drewN | apply below_drew1) | exact HB.out)⟩⟩
      · rw [if_neg c10] at H
        have c10b0 : decide (200 < (a0.size : Int)) = false := decide_eq_false c10
        have c10b1 : decide (200 < a0.size) = false := decide_eq_false (by omega)
        clear c10
        (first | rw [c10b0] | (simp only [i64_w, i32_w]; rw [c10b0]) | skip)
        have H' := Aside0.mk H
        clear H
        go_wp2
        go_meet
        case rel => exact ⟨_, (decide ((a1.size : Int) > 200)), (by first | rfl | (simp; done) | (simp [*]; done) | (simp [isEmpty_bne]; done)), H', ⟨by first | omega | exact Nat.le_refl _⟩, ⟨by repeat (first | (with_reducible first | exact HB.out | apply below_alloc | apply pw_below_drewN | apply below_drew1) | exact HB.out)⟩⟩
    · replace c9 := Bool.eq_false_iff.mpr c9
      subst c9
      have H1 : (keelsonlaw2_VersionEnds.j0 k a0 a1 a2 a3 a4 false true) = some r := by rw [if_neg (show ¬ (false = true) by decide)] at H; exact H
      clear H
      have H := H1
      clear H1
      have H' := Aside0.mk H
      clear H
      go_wp2
      go_meet
      case rel => exact ⟨_, (true), (by first | rfl | (simp; done) | (simp [*]; done) | (simp [isEmpty_bne]; done)), H', ⟨by first | omega | exact Nat.le_refl _⟩, ⟨by repeat (first | (with_reducible first | exact HB.out | apply below_alloc | apply pw_below_drewN | apply below_drew1) | exact HB.out)⟩⟩
  case rest =>
    clear HC7
    try clear c1
    try clear p2
    try clear c3
    try clear c8
    try clear c9
    try clear c10
    try clear c10b0
    try clear c10b1
    obtain ⟨kq, x30_6, rfl, HA, HJ6, HB⟩ := hcut
    cases kq with
    | zero => exact absurd HA.out (by simp [keelsonlaw2_VersionEnds.j0])
    | succ kj6 =>
      have H := HA.out
      clear HA
      simp only [keelsonlaw2_VersionEnds.j0] at H
      by_cases c11 : x30_6 = true
      · subst c11
        have H1 : (some t181) = some r := by rw [if_pos rfl] at H; exact H
        clear H
        have H := H1
        clear H1
        obtain rfl := Option.some.inj H
        go_wp2
        go_ret
        exact ⟨by first | rfl | (simp [errW_none, errW_some] <;> rfl) | (simp [*, errW_none, errW_some] <;> rfl), by repeat (first | (with_reducible first | exact HB.out | apply below_alloc | apply pw_below_drewN | apply below_drew1) | exact HB.out)⟩
      · replace c11 := Bool.eq_false_iff.mpr c11
        subst c11
        have H1 : (if a2 < 0 then (keelsonlaw2_VersionEnds.j1 kj6 a0 a1 (wrap64 (-(wrap64 (a2 + 1)))) a3 a4) else (keelsonlaw2_VersionEnds.j1 kj6 a0 a1 a2 a3 a4)) = some r := by rw [if_neg (show ¬ (false = true) by decide)] at H; exact H
        clear H
        have H := H1
        clear H1
        have HC12 := Aside0.mk H
        clear H
        go_upto_if 33 with (fail)
        go_cut [2] (fun v2 wc => ∃ (kq : Nat) (x2_11 : Int), v2 = .int .i64 x2_11 ∧ Aside0 (keelsonlaw2_VersionEnds.j1 kq a0 a1 x2_11 a3 a4 = some r) ∧ Aside0 (kq ≤ kj6) ∧ Aside0 (Below w.heap.size w wc))
        case first =>
          have H := HC12.out
          clear HC12
          by_cases c13 : a2 < 0
          · rw [if_pos c13] at H
            have c13b0 : decide (a2 < 0) = true := decide_eq_true c13
            clear c13
            (first | rw [c13b0] | (simp only [i64_w, i32_w]; rw [c13b0]) | skip)
            have H' := Aside0.mk H
            clear H
            go_wp2
            go_meet
            case rel => exact ⟨_, (wrap64 (-(wrap64 (a2 + 1)))), (by first | rfl | (simp; done) | (simp [*]; done) | (simp [isEmpty_bne]; done)), H', ⟨by have := HJ6.out; first | omega | exact Nat.le_refl _⟩, ⟨by repeat (first | (with_reducible first | exact HB.out | apply below_alloc | apply pw_below_drewN | apply below_drew1) | exact HB.out)⟩⟩
          · rw [if_neg c13] at H
            have c13b0 : decide (a2 < 0) = false := decide_eq_false c13
            clear c13
            (first | rw [c13b0] | (simp only [i64_w, i32_w]; rw [c13b0]) | skip)
            have H' := Aside0.mk H
            clear H
            go_wp2
            go_meet
            case rel => exact ⟨_, (a2), (by first | rfl | (simp; done) | (simp [*]; done) | (simp [isEmpty_bne]; done)), H', ⟨by have := HJ6.out; first | omega | exact Nat.le_refl _⟩, ⟨by repeat (first | (with_reducible first | exact HB.out | apply below_alloc | apply pw_below_drewN | apply below_drew1) | exact HB.out)⟩⟩
        case rest =>
          clear HC12
          try clear c1
          try clear p2
          try clear c3
          try clear p6
          try clear c8
          try clear c9
          try clear c10
          try clear c10b0
          try clear c10b1
          try clear c11
          try clear c13
          try clear c13b0
          try clear p2
          obtain ⟨kq, x2_11, rfl, HA, HJ11, HB⟩ := hcut
          cases kq with
          | zero => exact absurd HA.out (by simp [keelsonlaw2_VersionEnds.j1])
          | succ kj11 =>
            have H := HA.out
            clear HA
            simp only [keelsonlaw2_VersionEnds.j1] at H
            have HC14 := Aside0.mk H
            clear H
            go_upto_if 38 with (fail)
            go_cut [3] (fun v3 wc => ∃ (kq : Nat) (x3_13 : Int), v3 = .int .i64 x3_13 ∧ Aside0 (keelsonlaw2_VersionEnds.j2 kq a0 a1 x2_11 x3_13 a4 = some r) ∧ Aside0 (kq ≤ kj11) ∧ Aside0 (Below w.heap.size w wc))
            case first =>
              have H := HC14.out
              clear HC14
              by_cases c15 : a3 < 0
              · rw [if_pos c15] at H
                have c15b0 : decide (a3 < 0) = true := decide_eq_true c15
                clear c15
                (first | rw [c15b0] | (simp only [i64_w, i32_w]; rw [c15b0]) | skip)
                have H' := Aside0.mk H
                clear H
                go_wp2
                go_meet
                case rel => exact ⟨_, (wrap64 (-(wrap64 (a3 + 1)))), (by first | rfl | (simp; done) | (simp [*]; done) | (simp [isEmpty_bne]; done)), H', ⟨by have := HJ6.out; have := HJ11.out; first | omega | exact Nat.le_refl _⟩, ⟨by repeat (first | (with_reducible first | exact HB.out | apply below_alloc | apply pw_below_drewN | apply below_drew1) | exact HB.out)⟩⟩
              · rw [if_neg c15] at H
                have c15b0 : decide (a3 < 0) = false := decide_eq_false c15
                clear c15
                (first | rw [c15b0] | (simp only [i64_w, i32_w]; rw [c15b0]) | skip)
                have H' := Aside0.mk H
                clear H
                go_wp2
                go_meet
                case rel => exact ⟨_, (a3), (by first | rfl | (simp; done) | (simp [*]; done) | (simp [isEmpty_bne]; done)), H', ⟨by have := HJ6.out; have := HJ11.out; first | omega | exact Nat.le_refl _⟩, ⟨by repeat (first | (with_reducible first | exact HB.out | apply below_alloc | apply pw_below_drewN | apply below_drew1) | exact HB.out)⟩⟩
            case rest =>
              clear HC14
              try clear c1
              try clear p2
              try clear c3
              try clear p6
              try clear c8
              try clear c9
              try clear c10
              try clear c10b0
              try clear c10b1
              try clear c11
              try clear c13
              try clear c13b0
              try clear c15
              try clear c15b0
              try clear p2
              try clear p6
              obtain ⟨kq, x3_13, rfl, HA, HJ13, HB⟩ := hcut
              cases kq with
              | zero => exact absurd HA.out (by simp [keelsonlaw2_VersionEnds.j2])
              | succ kj13 =>
                have H := HA.out
                clear HA
                simp only [keelsonlaw2_VersionEnds.j2] at H
                obtain ⟨ji16, hji16⟩ : ∃ j_ : Int, (Int.tmod x2_11 52) = j_ := ⟨_, rfl⟩
                replace H : (if 0 ≤ (ji16) then (if (ji16) ≤ (wrap64 ((ji16) + 1)) then (if (wrap64 ((ji16) + 1)) ≤ 52 then (if 0 ≤ (Int.tmod x3_13 9) then (if (Int.tmod x3_13 9) ≤ 8 then (if a4 < 0 then (keelsonlaw2_VersionEnds.j3 kj13 a0 a1 (wrap64 (-(wrap64 (a4 + 1)))) ((⟨#[97, 98, 99, 100, 101, 102, 103, 104, 105, 106, 107, 108, 109, 110, 111, 112, 113, 114, 115, 116, 117, 118, 119, 120, 121, 122, 65, 66, 67, 68, 69, 70, 71, 72, 73, 74, 75, 76, 77, 78, 79, 80, 81, 82, 83, 84, 85, 86, 87, 88, 89, 90]⟩ : ByteArray).extract ((ji16) : Int).toNat ((wrap64 ((ji16) + 1)) : Int).toNat) ((⟨#[48, 48, 48, 48, 48, 48, 48, 48]⟩ : ByteArray).extract 0 ((Int.tmod x3_13 9) : Int).toNat)) else (keelsonlaw2_VersionEnds.j3 kj13 a0 a1 a4 ((⟨#[97, 98, 99, 100, 101, 102, 103, 104, 105, 106, 107, 108, 109, 110, 111, 112, 113, 114, 115, 116, 117, 118, 119, 120, 121, 122, 65, 66, 67, 68, 69, 70, 71, 72, 73, 74, 75, 76, 77, 78, 79, 80, 81, 82, 83, 84, 85, 86, 87, 88, 89, 90]⟩ : ByteArray).extract ((ji16) : Int).toNat ((wrap64 ((ji16) + 1)) : Int).toNat) ((⟨#[48, 48, 48, 48, 48, 48, 48, 48]⟩ : ByteArray).extract 0 ((Int.tmod x3_13 9) : Int).toNat))) else (none)) else (none)) else (none)) else (none)) else (none)) = some r := by first | (rw [hji16] at H; exact H) | (simp only [hji16] at H ⊢; exact H)
                by_cases c17 : 0 ≤ (ji16)
                · rw [if_pos c17] at H
                  have c17b0 := eq_true c17
                  have c17b1 : decide (0 ≤ (ji16)) = true := decide_eq_true c17
                  clear c17
                  by_cases c18 : (ji16) ≤ (wrap64 ((ji16) + 1))
                  · rw [if_pos c18] at H
                    have c18b0 := eq_true c18
                    have c18b1 : decide ((ji16) ≤ (wrap64 ((ji16) + 1))) = true := decide_eq_true c18
                    by_cases c19 : (wrap64 ((ji16) + 1)) ≤ 52
                    · rw [if_pos c19] at H
                      have c19b0 := eq_true c19
                      have c19b1 : decide ((wrap64 ((ji16) + 1)) ≤ 52) = true := decide_eq_true c19
                      obtain ⟨ji20, hji20⟩ : ∃ j_ : ByteArray, ((⟨#[97, 98, 99, 100, 101, 102, 103, 104, 105, 106, 107, 108, 109, 110, 111, 112, 113, 114, 115, 116, 117, 118, 119, 120, 121, 122, 65, 66, 67, 68, 69, 70, 71, 72, 73, 74, 75, 76, 77, 78, 79, 80, 81, 82, 83, 84, 85, 86, 87, 88, 89, 90]⟩ : ByteArray).extract ((ji16) : Int).toNat ((wrap64 ((ji16) + 1)) : Int).toNat) = j_ := ⟨_, rfl⟩
                      replace H : (if 0 ≤ (Int.tmod x3_13 9) then (if (Int.tmod x3_13 9) ≤ 8 then (if a4 < 0 then (keelsonlaw2_VersionEnds.j3 kj13 a0 a1 (wrap64 (-(wrap64 (a4 + 1)))) ji20 ((⟨#[48, 48, 48, 48, 48, 48, 48, 48]⟩ : ByteArray).extract 0 ((Int.tmod x3_13 9) : Int).toNat)) else (keelsonlaw2_VersionEnds.j3 kj13 a0 a1 a4 ji20 ((⟨#[48, 48, 48, 48, 48, 48, 48, 48]⟩ : ByteArray).extract 0 ((Int.tmod x3_13 9) : Int).toNat))) else (none)) else (none)) = some r := by first | (rw [hji20] at H; exact H) | (simp only [hji20] at H ⊢; exact H)
                      obtain ⟨ji21, hji21⟩ : ∃ j_ : Int, (Int.tmod x3_13 9) = j_ := ⟨_, rfl⟩
                      replace H : (if 0 ≤ (ji21) then (if (ji21) ≤ 8 then (if a4 < 0 then (keelsonlaw2_VersionEnds.j3 kj13 a0 a1 (wrap64 (-(wrap64 (a4 + 1)))) ji20 ((⟨#[48, 48, 48, 48, 48, 48, 48, 48]⟩ : ByteArray).extract 0 ((ji21) : Int).toNat)) else (keelsonlaw2_VersionEnds.j3 kj13 a0 a1 a4 ji20 ((⟨#[48, 48, 48, 48, 48, 48, 48, 48]⟩ : ByteArray).extract 0 ((ji21) : Int).toNat))) else (none)) else (none)) = some r := by first | (rw [hji21] at H; exact H) | (simp only [hji21] at H ⊢; exact H)
                      by_cases c22 : 0 ≤ (ji21)
                      · rw [if_pos c22] at H
                        have c22b0 := eq_true c22
                        have c22b1 : decide (0 ≤ (ji21)) = true := decide_eq_true c22
                        clear c22
                        by_cases c23 : (ji21) ≤ 8
                        · rw [if_pos c23] at H
                          have c23b0 := eq_true c23
                          have c23b1 : decide ((ji21) ≤ 8) = true := decide_eq_true c23
                          clear c23
                          have HC24 := Aside0.mk H
                          clear H
                          go_upto_if 52 with (fail)
                          go_cut [4] (fun v4 wc => ∃ (kq : Nat) (x4_23 : Int), v4 = .int .i64 x4_23 ∧ Aside0 (keelsonlaw2_VersionEnds.j3 kq a0 a1 x4_23 ji20 ((⟨#[48, 48, 48, 48, 48, 48, 48, 48]⟩ : ByteArray).extract 0 ((ji21) : Int).toNat) = some r) ∧ Aside0 (kq ≤ kj13) ∧ Aside0 (Below w.heap.size w wc))
                          case first =>
                            have H := HC24.out
                            clear HC24
                            by_cases c25 : a4 < 0
                            · rw [if_pos c25] at H
                              have c25b0 : decide (a4 < 0) = true := decide_eq_true c25
                              clear c25
                              (first | rw [c25b0] | (simp only [i64_w, i32_w]; rw [c25b0]) | skip)
                              have H' := Aside0.mk H
                              clear H
                              go_wp2
                              go_meet
                              case rel => exact ⟨_, (wrap64 (-(wrap64 (a4 + 1)))), (by first | rfl | (simp; done) | (simp [*]; done) | (simp [isEmpty_bne]; done)), H', ⟨by have := HJ6.out; have := HJ11.out; have := HJ13.out; first | omega | exact Nat.le_refl _⟩, ⟨by repeat (first | (with_reducible first | exact HB.out | apply below_alloc | apply pw_below_drewN | apply below_drew1) | exact HB.out)⟩⟩
                            · rw [if_neg c25] at H
                              have c25b0 : decide (a4 < 0) = false := decide_eq_false c25
                              clear c25
                              (first | rw [c25b0] | (simp only [i64_w, i32_w]; rw [c25b0]) | skip)
                              have H' := Aside0.mk H
                              clear H
                              go_wp2
                              go_meet
                              case rel => exact ⟨_, (a4), (by first | rfl | (simp; done) | (simp [*]; done) | (simp [isEmpty_bne]; done)), H', ⟨by have := HJ6.out; have := HJ11.out; have := HJ13.out; first | omega | exact Nat.le_refl _⟩, ⟨by repeat (first | (with_reducible first | exact HB.out | apply below_alloc | apply pw_below_drewN | apply below_drew1) | exact HB.out)⟩⟩
                          case rest =>
                            clear HC24
                            try clear c1
                            try clear c2
                            try clear p2
                            try clear c3
                            try clear p6
                            try clear c8
                            try clear c9
                            try clear c10
                            try clear c10b0
                            try clear c10b1
                            try clear c11
                            try clear c13
                            try clear c13b0
                            try clear c15
                            try clear c15b0
                            try clear c17
                            try clear c17b0
                            try clear c17b1
                            try clear c18
                            try clear c18b0
                            try clear c18b1
                            try clear c19
                            try clear c19b0
                            try clear c19b1
                            try clear c22
                            try clear c22b0
                            try clear c22b1
                            try clear c23
                            try clear c23b0
                            try clear c23b1
                            try clear c25
                            try clear c25b0
                            try clear p2
                            try clear p6
                            obtain ⟨kq, x4_23, rfl, HA, HJ23, HB⟩ := hcut
                            cases kq with
                            | zero => exact absurd HA.out (by simp [keelsonlaw2_VersionEnds.j3])
                            | succ kj23 =>
                              have H := HA.out
                              clear HA
                              simp only [keelsonlaw2_VersionEnds.j3] at H
                              replace H := Option.bind_eq_some_iff.mp H
                              obtain ⟨t182, A260, H⟩ := H
                              replace H : (if a0.size + 1 ≤ 9223372036854775807 then (if (a0 ++ (⟨#[126]⟩ : ByteArray)).size + a1.size ≤ 9223372036854775807 then ((version_CompareText.f kj23 ((a0 ++ (⟨#[126]⟩ : ByteArray)) ++ a1) a0).bind fun t183 => (if a0.size + ji20.size ≤ 9223372036854775807 then (if (a0 ++ ji20).size + a1.size ≤ 9223372036854775807 then ((version_CompareText.f kj23 ((a0 ++ ji20) ++ a1) a0).bind fun t184 => (if (a0 ++ (⟨#[46]⟩ : ByteArray)).size + t182.size ≤ 9223372036854775807 then (if ((a0 ++ (⟨#[46]⟩ : ByteArray)) ++ t182).size + a1.size ≤ 9223372036854775807 then (if (a0 ++ (⟨#[46]⟩ : ByteArray)).size + ((⟨#[48, 48, 48, 48, 48, 48, 48, 48]⟩ : ByteArray).extract 0 ((ji21) : Int).toNat).size ≤ 9223372036854775807 then (if ((a0 ++ (⟨#[46]⟩ : ByteArray)) ++ ((⟨#[48, 48, 48, 48, 48, 48, 48, 48]⟩ : ByteArray).extract 0 ((ji21) : Int).toNat)).size + t182.size ≤ 9223372036854775807 then (if (((a0 ++ (⟨#[46]⟩ : ByteArray)) ++ ((⟨#[48, 48, 48, 48, 48, 48, 48, 48]⟩ : ByteArray).extract 0 ((ji21) : Int).toNat)) ++ t182).size + a1.size ≤ 9223372036854775807 then ((version_CompareText.f kj23 (((a0 ++ (⟨#[46]⟩ : ByteArray)) ++ t182) ++ a1) ((((a0 ++ (⟨#[46]⟩ : ByteArray)) ++ ((⟨#[48, 48, 48, 48, 48, 48, 48, 48]⟩ : ByteArray).extract 0 ((ji21) : Int).toNat)) ++ t182) ++ a1)).bind fun t185 => (if t183 = (-1) then (if t184 = 1 then (if t185 = 0 then ((version_CompareText.f kj23 ((a0 ++ (⟨#[126]⟩ : ByteArray)) ++ a1) (a0 ++ ji20)).bind fun t186 => (some (t186 == (-1)))) else (some false)) else (some false)) else (some false))) else (none)) else (none)) else (none)) else (none)) else (none))) else (none)) else (none))) else (none)) else (none)) = some r := H
                              have A26 := Aside0.mk A260
                              clear A260
                              by_cases c27 : a0.size + 1 ≤ 9223372036854775807
                              · rw [if_pos c27] at H
                                have c27b0 := eq_true c27
                                have c27b1 : decide (a0.size + 1 ≤ 9223372036854775807) = true := decide_eq_true c27
                                try have c27b2 : (9223372036854775807 < a0.size + 1) = False := eq_false (Nat.not_lt.2 c27)
                                by_cases c28 : (a0 ++ (⟨#[126]⟩ : ByteArray)).size + a1.size ≤ 9223372036854775807
                                · rw [if_pos c28] at H
                                  have c28b0 := eq_true c28
                                  have c28b1 : decide ((a0 ++ (⟨#[126]⟩ : ByteArray)).size + a1.size ≤ 9223372036854775807) = true := decide_eq_true c28
                                  try have c28b2 : (9223372036854775807 < (a0 ++ (⟨#[126]⟩ : ByteArray)).size + a1.size) = False := eq_false (Nat.not_lt.2 c28)
                                  (try (have c28n := c28; simp only [ByteArray.size_append, size_of_lit, List.size_toArray, List.length_cons, List.length_nil, Nat.zero_add, Nat.reduceAdd] at c28n; have c28n1 := eq_false (Nat.not_lt.2 c28n)))
                                  replace H := Option.bind_eq_some_iff.mp H
                                  obtain ⟨t183, A290, H⟩ := H
                                  replace H : (if a0.size + ji20.size ≤ 9223372036854775807 then (if (a0 ++ ji20).size + a1.size ≤ 9223372036854775807 then ((version_CompareText.f kj23 ((a0 ++ ji20) ++ a1) a0).bind fun t184 => (if (a0 ++ (⟨#[46]⟩ : ByteArray)).size + t182.size ≤ 9223372036854775807 then (if ((a0 ++ (⟨#[46]⟩ : ByteArray)) ++ t182).size + a1.size ≤ 9223372036854775807 then (if (a0 ++ (⟨#[46]⟩ : ByteArray)).size + ((⟨#[48, 48, 48, 48, 48, 48, 48, 48]⟩ : ByteArray).extract 0 ((ji21) : Int).toNat).size ≤ 9223372036854775807 then (if ((a0 ++ (⟨#[46]⟩ : ByteArray)) ++ ((⟨#[48, 48, 48, 48, 48, 48, 48, 48]⟩ : ByteArray).extract 0 ((ji21) : Int).toNat)).size + t182.size ≤ 9223372036854775807 then (if (((a0 ++ (⟨#[46]⟩ : ByteArray)) ++ ((⟨#[48, 48, 48, 48, 48, 48, 48, 48]⟩ : ByteArray).extract 0 ((ji21) : Int).toNat)) ++ t182).size + a1.size ≤ 9223372036854775807 then ((version_CompareText.f kj23 (((a0 ++ (⟨#[46]⟩ : ByteArray)) ++ t182) ++ a1) ((((a0 ++ (⟨#[46]⟩ : ByteArray)) ++ ((⟨#[48, 48, 48, 48, 48, 48, 48, 48]⟩ : ByteArray).extract 0 ((ji21) : Int).toNat)) ++ t182) ++ a1)).bind fun t185 => (if t183 = (-1) then (if t184 = 1 then (if t185 = 0 then ((version_CompareText.f kj23 ((a0 ++ (⟨#[126]⟩ : ByteArray)) ++ a1) (a0 ++ ji20)).bind fun t186 => (some (t186 == (-1)))) else (some false)) else (some false)) else (some false))) else (none)) else (none)) else (none)) else (none)) else (none))) else (none)) else (none)) = some r := H
                                  have A29 := Aside0.mk A290
                                  clear A290
                                  by_cases c30 : a0.size + ji20.size ≤ 9223372036854775807
                                  · rw [if_pos c30] at H
                                    have c30b0 := eq_true c30
                                    have c30b1 : decide (a0.size + ji20.size ≤ 9223372036854775807) = true := decide_eq_true c30
                                    try have c30b2 : (9223372036854775807 < a0.size + ji20.size) = False := eq_false (Nat.not_lt.2 c30)
                                    by_cases c31 : (a0 ++ ji20).size + a1.size ≤ 9223372036854775807
                                    · rw [if_pos c31] at H
                                      have c31b0 := eq_true c31
                                      have c31b1 : decide ((a0 ++ ji20).size + a1.size ≤ 9223372036854775807) = true := decide_eq_true c31
                                      try have c31b2 : (9223372036854775807 < (a0 ++ ji20).size + a1.size) = False := eq_false (Nat.not_lt.2 c31)
                                      (try (have c31n := c31; simp only [ByteArray.size_append, size_of_lit, List.size_toArray, List.length_cons, List.length_nil, Nat.zero_add, Nat.reduceAdd] at c31n; have c31n1 := eq_false (Nat.not_lt.2 c31n)))
                                      replace H := Option.bind_eq_some_iff.mp H
                                      obtain ⟨t184, A320, H⟩ := H
                                      replace H : (if (a0 ++ (⟨#[46]⟩ : ByteArray)).size + t182.size ≤ 9223372036854775807 then (if ((a0 ++ (⟨#[46]⟩ : ByteArray)) ++ t182).size + a1.size ≤ 9223372036854775807 then (if (a0 ++ (⟨#[46]⟩ : ByteArray)).size + ((⟨#[48, 48, 48, 48, 48, 48, 48, 48]⟩ : ByteArray).extract 0 ((ji21) : Int).toNat).size ≤ 9223372036854775807 then (if ((a0 ++ (⟨#[46]⟩ : ByteArray)) ++ ((⟨#[48, 48, 48, 48, 48, 48, 48, 48]⟩ : ByteArray).extract 0 ((ji21) : Int).toNat)).size + t182.size ≤ 9223372036854775807 then (if (((a0 ++ (⟨#[46]⟩ : ByteArray)) ++ ((⟨#[48, 48, 48, 48, 48, 48, 48, 48]⟩ : ByteArray).extract 0 ((ji21) : Int).toNat)) ++ t182).size + a1.size ≤ 9223372036854775807 then ((version_CompareText.f kj23 (((a0 ++ (⟨#[46]⟩ : ByteArray)) ++ t182) ++ a1) ((((a0 ++ (⟨#[46]⟩ : ByteArray)) ++ ((⟨#[48, 48, 48, 48, 48, 48, 48, 48]⟩ : ByteArray).extract 0 ((ji21) : Int).toNat)) ++ t182) ++ a1)).bind fun t185 => (if t183 = (-1) then (if t184 = 1 then (if t185 = 0 then ((version_CompareText.f kj23 ((a0 ++ (⟨#[126]⟩ : ByteArray)) ++ a1) (a0 ++ ji20)).bind fun t186 => (some (t186 == (-1)))) else (some false)) else (some false)) else (some false))) else (none)) else (none)) else (none)) else (none)) else (none)) = some r := H
                                      have A32 := Aside0.mk A320
                                      clear A320
                                      by_cases c33 : (a0 ++ (⟨#[46]⟩ : ByteArray)).size + t182.size ≤ 9223372036854775807
                                      · rw [if_pos c33] at H
                                        have c33b0 := eq_true c33
                                        have c33b1 : decide ((a0 ++ (⟨#[46]⟩ : ByteArray)).size + t182.size ≤ 9223372036854775807) = true := decide_eq_true c33
                                        try have c33b2 : (9223372036854775807 < (a0 ++ (⟨#[46]⟩ : ByteArray)).size + t182.size) = False := eq_false (Nat.not_lt.2 c33)
                                        (try (have c33n := c33; simp only [ByteArray.size_append, size_of_lit, List.size_toArray, List.length_cons, List.length_nil, Nat.zero_add, Nat.reduceAdd] at c33n; have c33n1 := eq_false (Nat.not_lt.2 c33n)))
                                        by_cases c34 : ((a0 ++ (⟨#[46]⟩ : ByteArray)) ++ t182).size + a1.size ≤ 9223372036854775807
                                        · rw [if_pos c34] at H
                                          have c34b0 := eq_true c34
                                          have c34b1 : decide (((a0 ++ (⟨#[46]⟩ : ByteArray)) ++ t182).size + a1.size ≤ 9223372036854775807) = true := decide_eq_true c34
                                          try have c34b2 : (9223372036854775807 < ((a0 ++ (⟨#[46]⟩ : ByteArray)) ++ t182).size + a1.size) = False := eq_false (Nat.not_lt.2 c34)
                                          (try (have c34n := c34; simp only [ByteArray.size_append, size_of_lit, List.size_toArray, List.length_cons, List.length_nil, Nat.zero_add, Nat.reduceAdd] at c34n; have c34n1 := eq_false (Nat.not_lt.2 c34n)))
                                          by_cases c35 : (a0 ++ (⟨#[46]⟩ : ByteArray)).size + ((⟨#[48, 48, 48, 48, 48, 48, 48, 48]⟩ : ByteArray).extract 0 ((ji21) : Int).toNat).size ≤ 9223372036854775807
                                          · rw [if_pos c35] at H
                                            have c35b0 := eq_true c35
                                            have c35b1 : decide ((a0 ++ (⟨#[46]⟩ : ByteArray)).size + ((⟨#[48, 48, 48, 48, 48, 48, 48, 48]⟩ : ByteArray).extract 0 ((ji21) : Int).toNat).size ≤ 9223372036854775807) = true := decide_eq_true c35
                                            try have c35b2 : (9223372036854775807 < (a0 ++ (⟨#[46]⟩ : ByteArray)).size + ((⟨#[48, 48, 48, 48, 48, 48, 48, 48]⟩ : ByteArray).extract 0 ((ji21) : Int).toNat).size) = False := eq_false (Nat.not_lt.2 c35)
                                            (try (have c35n := c35; simp only [ByteArray.size_append, size_of_lit, List.size_toArray, List.length_cons, List.length_nil, Nat.zero_add, Nat.reduceAdd] at c35n; have c35n1 := eq_false (Nat.not_lt.2 c35n)))
                                            by_cases c36 : ((a0 ++ (⟨#[46]⟩ : ByteArray)) ++ ((⟨#[48, 48, 48, 48, 48, 48, 48, 48]⟩ : ByteArray).extract 0 ((ji21) : Int).toNat)).size + t182.size ≤ 9223372036854775807
                                            · rw [if_pos c36] at H
                                              have c36b0 := eq_true c36
                                              have c36b1 : decide (((a0 ++ (⟨#[46]⟩ : ByteArray)) ++ ((⟨#[48, 48, 48, 48, 48, 48, 48, 48]⟩ : ByteArray).extract 0 ((ji21) : Int).toNat)).size + t182.size ≤ 9223372036854775807) = true := decide_eq_true c36
                                              try have c36b2 : (9223372036854775807 < ((a0 ++ (⟨#[46]⟩ : ByteArray)) ++ ((⟨#[48, 48, 48, 48, 48, 48, 48, 48]⟩ : ByteArray).extract 0 ((ji21) : Int).toNat)).size + t182.size) = False := eq_false (Nat.not_lt.2 c36)
                                              (try (have c36n := c36; simp only [ByteArray.size_append, size_of_lit, List.size_toArray, List.length_cons, List.length_nil, Nat.zero_add, Nat.reduceAdd] at c36n; have c36n1 := eq_false (Nat.not_lt.2 c36n)))
                                              by_cases c37 : (((a0 ++ (⟨#[46]⟩ : ByteArray)) ++ ((⟨#[48, 48, 48, 48, 48, 48, 48, 48]⟩ : ByteArray).extract 0 ((ji21) : Int).toNat)) ++ t182).size + a1.size ≤ 9223372036854775807
                                              · rw [if_pos c37] at H
                                                have c37b0 := eq_true c37
                                                have c37b1 : decide ((((a0 ++ (⟨#[46]⟩ : ByteArray)) ++ ((⟨#[48, 48, 48, 48, 48, 48, 48, 48]⟩ : ByteArray).extract 0 ((ji21) : Int).toNat)) ++ t182).size + a1.size ≤ 9223372036854775807) = true := decide_eq_true c37
                                                try have c37b2 : (9223372036854775807 < (((a0 ++ (⟨#[46]⟩ : ByteArray)) ++ ((⟨#[48, 48, 48, 48, 48, 48, 48, 48]⟩ : ByteArray).extract 0 ((ji21) : Int).toNat)) ++ t182).size + a1.size) = False := eq_false (Nat.not_lt.2 c37)
                                                (try (have c37n := c37; simp only [ByteArray.size_append, size_of_lit, List.size_toArray, List.length_cons, List.length_nil, Nat.zero_add, Nat.reduceAdd] at c37n; have c37n1 := eq_false (Nat.not_lt.2 c37n)))
                                                replace H := Option.bind_eq_some_iff.mp H
                                                obtain ⟨t185, A380, H⟩ := H
                                                replace H : (if t183 = (-1) then (if t184 = 1 then (if t185 = 0 then ((version_CompareText.f kj23 ((a0 ++ (⟨#[126]⟩ : ByteArray)) ++ a1) (a0 ++ ji20)).bind fun t186 => (some (t186 == (-1)))) else (some false)) else (some false)) else (some false)) = some r := H
                                                have A38 := Aside0.mk A380
                                                clear A380
                                                by_cases c39 : t183 = (-1)
                                                · rw [if_pos c39] at H
                                                  have c39b0 : (t183 == (-1)) = true := beq_iff_eq.mpr c39
                                                  have c39b1 : (t183 != (-1)) = false := bne_eq_false_iff_eq.mpr c39
                                                  clear c39
                                                  by_cases c40 : t184 = 1
                                                  · rw [if_pos c40] at H
                                                    have c40b0 : (t184 == 1) = true := beq_iff_eq.mpr c40
                                                    have c40b1 : (t184 != 1) = false := bne_eq_false_iff_eq.mpr c40
                                                    clear c40
                                                    by_cases c41 : t185 = 0
                                                    · rw [if_pos c41] at H
                                                      have c41b0 : (t185 == 0) = true := beq_iff_eq.mpr c41
                                                      have c41b1 : (t185 != 0) = false := bne_eq_false_iff_eq.mpr c41
                                                      clear c41
                                                      replace H := Option.bind_eq_some_iff.mp H
                                                      obtain ⟨t186, A420, H⟩ := H
                                                      replace H : (some (t186 == (-1))) = some r := H
                                                      have A42 := Aside0.mk A420
                                                      clear A420
                                                      obtain rfl := Option.some.inj H
                                                      go_wp2_with (first | ((with_reducible refine gate_callee (f := 9) rfl ?_); refine goesL_ (some 57) rfl rfl Tryd.func9 (by kernel_rfl) rfl #[.int .i64 x4_23] rfl (by (try simp only [List.map_toArray, List.map_cons, List.map_nil]); first | done | rfl | (simp only [List.length_drop, List.length_take]; rfl)) ?_; (with_reducible refine (keelsonref2_Decimal.calls kj23 x4_23 t182 _ (by first | exact hG | exact GL.below hG (by repeat (first | (with_reducible first | exact HB.out | apply below_alloc | apply pw_below_drewN | apply below_drew1) | exact HB.out)))  A26.out).mono ?_); rintro e w' ⟨rfl, ⟨nd, rfl⟩⟩; refine ⟨_, rfl, ?_⟩) | ((with_reducible refine gate_callee (f := 10) rfl ?_); refine goesL_ (some 63) rfl rfl Tryd.func10 (by kernel_rfl) rfl #[.string ((a0 ++ (⟨#[126]⟩ : ByteArray)) ++ a1), .string a0] rfl (by (try simp only [List.map_toArray, List.map_cons, List.map_nil]); first | done | rfl | (simp only [List.length_drop, List.length_take]; rfl)) ?_; (with_reducible refine (version_CompareText.calls kj23 ((a0 ++ (⟨#[126]⟩ : ByteArray)) ++ a1) a0 t183 _ (by first | exact hG | exact GL.below hG (by repeat (first | (with_reducible first | exact HB.out | apply below_alloc | apply pw_below_drewN | apply below_drew1) | exact HB.out)))  A29.out).mono ?_); rintro e w43 ⟨rfl, hb⟩; refine ⟨_, rfl, ?_⟩; have n0_ := Aside0.mk (below_step (by repeat (first | (with_reducible first | exact HB.out | apply below_alloc | apply pw_below_drewN | apply below_drew1) | exact HB.out)) hb); clear HB; have HB := n0_; clear n0_; (try clear hb); (try clear hb2); (try clear hk); (try clear hi)) | ((with_reducible refine gate_callee (f := 10) rfl ?_); refine goesL_ (some 70) rfl rfl Tryd.func10 (by kernel_rfl) rfl #[.string ((a0 ++ ji20) ++ a1), .string a0] rfl (by (try simp only [List.map_toArray, List.map_cons, List.map_nil]); first | done | (simp only [hji20]; rfl) | rfl | (simp only [List.length_drop, List.length_take]; rfl)) ?_; (with_reducible refine (version_CompareText.calls kj23 ((a0 ++ ji20) ++ a1) a0 t184 _ (by first | exact hG | exact GL.below hG (by repeat (first | (with_reducible first | exact HB.out | apply below_alloc | apply pw_below_drewN | apply below_drew1) | exact HB.out)))  A32.out).mono ?_); rintro e w44 ⟨rfl, hb⟩; refine ⟨_, rfl, ?_⟩; have n0_ := Aside0.mk (below_step (by repeat (first | (with_reducible first | exact HB.out | apply below_alloc | apply pw_below_drewN | apply below_drew1) | exact HB.out)) hb); clear HB; have HB := n0_; clear n0_; (try clear hb); (try clear hb2); (try clear hk); (try clear hi)) | ((with_reducible refine gate_callee (f := 10) rfl ?_); refine goesL_ (some 85) rfl rfl Tryd.func10 (by kernel_rfl) rfl #[.string (((a0 ++ (⟨#[46]⟩ : ByteArray)) ++ t182) ++ a1), .string ((((a0 ++ (⟨#[46]⟩ : ByteArray)) ++ ((⟨#[48, 48, 48, 48, 48, 48, 48, 48]⟩ : ByteArray).extract 0 ((ji21) : Int).toNat)) ++ t182) ++ a1)] rfl (by (try simp only [List.map_toArray, List.map_cons, List.map_nil]); first | done | (simp only [hji21]; rfl) | rfl | (simp only [List.length_drop, List.length_take]; rfl)) ?_; (with_reducible refine (version_CompareText.calls kj23 (((a0 ++ (⟨#[46]⟩ : ByteArray)) ++ t182) ++ a1) ((((a0 ++ (⟨#[46]⟩ : ByteArray)) ++ ((⟨#[48, 48, 48, 48, 48, 48, 48, 48]⟩ : ByteArray).extract 0 ((ji21) : Int).toNat)) ++ t182) ++ a1) t185 _ (by first | exact hG | exact GL.below hG (by repeat (first | (with_reducible first | exact HB.out | apply below_alloc | apply pw_below_drewN | apply below_drew1) | exact HB.out)))  A38.out).mono ?_); rintro e w45 ⟨rfl, hb⟩; refine ⟨_, rfl, ?_⟩; have n0_ := Aside0.mk (below_step (by repeat (first | (with_reducible first | exact HB.out | apply below_alloc | apply pw_below_drewN | apply below_drew1) | exact HB.out)) hb); clear HB; have HB := n0_; clear n0_; (try clear hb); (try clear hb2); (try clear hk); (try clear hi)) | (go_at_call 10; (with_reducible refine (version_CompareText.calls kj23 ((a0 ++ (⟨#[126]⟩ : ByteArray)) ++ a1) (a0 ++ ji20) t186 _ (by first | exact hG | exact GL.below hG (by repeat (first | (with_reducible first | exact HB.out | apply below_alloc | apply pw_below_drewN | apply below_drew1) | exact HB.out)))  A42.out).mono ?_); rintro e w46 ⟨rfl, hb⟩; have n0_ := Aside0.mk (below_step (by repeat (first | (with_reducible first | exact HB.out | apply below_alloc | apply pw_below_drewN | apply below_drew1) | exact HB.out)) hb); clear HB; have HB := n0_; clear n0_; (try clear hb); (try clear hb2); (try clear hk); (try clear hi)))
                                                      go_ret
                                                      exact ⟨by first | rfl | (simp [errW_none, errW_some] <;> rfl) | (simp only [← hji16, ← hji20, ← hji21]; first | rfl | (simp [errW_none, errW_some] <;> rfl)) | (simp [*, errW_none, errW_some] <;> rfl), by repeat (first | (with_reducible first | exact HB.out | apply below_alloc | apply pw_below_drewN | apply below_drew1) | exact HB.out)⟩
                                                    · rw [if_neg c41] at H
                                                      have c41b0 : (t185 == 0) = false := beq_eq_false_iff_ne.mpr c41
                                                      have c41b1 : (t185 != 0) = true := bne_iff_ne.mpr c41
                                                      obtain rfl := Option.some.inj H
                                                      go_wp2_with (first | ((with_reducible refine gate_callee (f := 9) rfl ?_); refine goesL_ (some 57) rfl rfl Tryd.func9 (by kernel_rfl) rfl #[.int .i64 x4_23] rfl (by (try simp only [List.map_toArray, List.map_cons, List.map_nil]); first | done | rfl | (simp only [List.length_drop, List.length_take]; rfl)) ?_; (with_reducible refine (keelsonref2_Decimal.calls kj23 x4_23 t182 _ (by first | exact hG | exact GL.below hG (by repeat (first | (with_reducible first | exact HB.out | apply below_alloc | apply pw_below_drewN | apply below_drew1) | exact HB.out)))  A26.out).mono ?_); rintro e w' ⟨rfl, ⟨nd, rfl⟩⟩; refine ⟨_, rfl, ?_⟩) | ((with_reducible refine gate_callee (f := 10) rfl ?_); refine goesL_ (some 63) rfl rfl Tryd.func10 (by kernel_rfl) rfl #[.string ((a0 ++ (⟨#[126]⟩ : ByteArray)) ++ a1), .string a0] rfl (by (try simp only [List.map_toArray, List.map_cons, List.map_nil]); first | done | rfl | (simp only [List.length_drop, List.length_take]; rfl)) ?_; (with_reducible refine (version_CompareText.calls kj23 ((a0 ++ (⟨#[126]⟩ : ByteArray)) ++ a1) a0 t183 _ (by first | exact hG | exact GL.below hG (by repeat (first | (with_reducible first | exact HB.out | apply below_alloc | apply pw_below_drewN | apply below_drew1) | exact HB.out)))  A29.out).mono ?_); rintro e w47 ⟨rfl, hb⟩; refine ⟨_, rfl, ?_⟩; have n0_ := Aside0.mk (below_step (by repeat (first | (with_reducible first | exact HB.out | apply below_alloc | apply pw_below_drewN | apply below_drew1) | exact HB.out)) hb); clear HB; have HB := n0_; clear n0_; (try clear hb); (try clear hb2); (try clear hk); (try clear hi)) | ((with_reducible refine gate_callee (f := 10) rfl ?_); refine goesL_ (some 70) rfl rfl Tryd.func10 (by kernel_rfl) rfl #[.string ((a0 ++ ji20) ++ a1), .string a0] rfl (by (try simp only [List.map_toArray, List.map_cons, List.map_nil]); first | done | (simp only [hji20]; rfl) | rfl | (simp only [List.length_drop, List.length_take]; rfl)) ?_; (with_reducible refine (version_CompareText.calls kj23 ((a0 ++ ji20) ++ a1) a0 t184 _ (by first | exact hG | exact GL.below hG (by repeat (first | (with_reducible first | exact HB.out | apply below_alloc | apply pw_below_drewN | apply below_drew1) | exact HB.out)))  A32.out).mono ?_); rintro e w48 ⟨rfl, hb⟩; refine ⟨_, rfl, ?_⟩; have n0_ := Aside0.mk (below_step (by repeat (first | (with_reducible first | exact HB.out | apply below_alloc | apply pw_below_drewN | apply below_drew1) | exact HB.out)) hb); clear HB; have HB := n0_; clear n0_; (try clear hb); (try clear hb2); (try clear hk); (try clear hi)) | ((with_reducible refine gate_callee (f := 10) rfl ?_); refine goesL_ (some 85) rfl rfl Tryd.func10 (by kernel_rfl) rfl #[.string (((a0 ++ (⟨#[46]⟩ : ByteArray)) ++ t182) ++ a1), .string ((((a0 ++ (⟨#[46]⟩ : ByteArray)) ++ ((⟨#[48, 48, 48, 48, 48, 48, 48, 48]⟩ : ByteArray).extract 0 ((ji21) : Int).toNat)) ++ t182) ++ a1)] rfl (by (try simp only [List.map_toArray, List.map_cons, List.map_nil]); first | done | (simp only [hji21]; rfl) | rfl | (simp only [List.length_drop, List.length_take]; rfl)) ?_; (with_reducible refine (version_CompareText.calls kj23 (((a0 ++ (⟨#[46]⟩ : ByteArray)) ++ t182) ++ a1) ((((a0 ++ (⟨#[46]⟩ : ByteArray)) ++ ((⟨#[48, 48, 48, 48, 48, 48, 48, 48]⟩ : ByteArray).extract 0 ((ji21) : Int).toNat)) ++ t182) ++ a1) t185 _ (by first | exact hG | exact GL.below hG (by repeat (first | (with_reducible first | exact HB.out | apply below_alloc | apply pw_below_drewN | apply below_drew1) | exact HB.out)))  A38.out).mono ?_); rintro e w49 ⟨rfl, hb⟩; refine ⟨_, rfl, ?_⟩; have n0_ := Aside0.mk (below_step (by repeat (first | (with_reducible first | exact HB.out | apply below_alloc | apply pw_below_drewN | apply below_drew1) | exact HB.out)) hb); clear HB; have HB := n0_; clear n0_; (try clear hb); (try clear hb2); (try clear hk); (try clear hi)))
                                                      go_ret
                                                      exact ⟨by first | rfl | (simp [errW_none, errW_some] <;> rfl) | (simp only [← hji16, ← hji20, ← hji21]; first | rfl | (simp [errW_none, errW_some] <;> rfl)) | (simp [*, errW_none, errW_some] <;> rfl), by repeat (first | (with_reducible first | exact HB.out | apply below_alloc | apply pw_below_drewN | apply below_drew1) | exact HB.out)⟩
                                                  · rw [if_neg c40] at H
                                                    have c40b0 : (t184 == 1) = false := beq_eq_false_iff_ne.mpr c40
                                                    have c40b1 : (t184 != 1) = true := bne_iff_ne.mpr c40
                                                    obtain rfl := Option.some.inj H
                                                    go_wp2_with (first | ((with_reducible refine gate_callee (f := 9) rfl ?_); refine goesL_ (some 57) rfl rfl Tryd.func9 (by kernel_rfl) rfl #[.int .i64 x4_23] rfl (by (try simp only [List.map_toArray, List.map_cons, List.map_nil]); first | done | rfl | (simp only [List.length_drop, List.length_take]; rfl)) ?_; (with_reducible refine (keelsonref2_Decimal.calls kj23 x4_23 t182 _ (by first | exact hG | exact GL.below hG (by repeat (first | (with_reducible first | exact HB.out | apply below_alloc | apply pw_below_drewN | apply below_drew1) | exact HB.out)))  A26.out).mono ?_); rintro e w' ⟨rfl, ⟨nd, rfl⟩⟩; refine ⟨_, rfl, ?_⟩) | ((with_reducible refine gate_callee (f := 10) rfl ?_); refine goesL_ (some 63) rfl rfl Tryd.func10 (by kernel_rfl) rfl #[.string ((a0 ++ (⟨#[126]⟩ : ByteArray)) ++ a1), .string a0] rfl (by (try simp only [List.map_toArray, List.map_cons, List.map_nil]); first | done | rfl | (simp only [List.length_drop, List.length_take]; rfl)) ?_; (with_reducible refine (version_CompareText.calls kj23 ((a0 ++ (⟨#[126]⟩ : ByteArray)) ++ a1) a0 t183 _ (by first | exact hG | exact GL.below hG (by repeat (first | (with_reducible first | exact HB.out | apply below_alloc | apply pw_below_drewN | apply below_drew1) | exact HB.out)))  A29.out).mono ?_); rintro e w50 ⟨rfl, hb⟩; refine ⟨_, rfl, ?_⟩; have n0_ := Aside0.mk (below_step (by repeat (first | (with_reducible first | exact HB.out | apply below_alloc | apply pw_below_drewN | apply below_drew1) | exact HB.out)) hb); clear HB; have HB := n0_; clear n0_; (try clear hb); (try clear hb2); (try clear hk); (try clear hi)) | ((with_reducible refine gate_callee (f := 10) rfl ?_); refine goesL_ (some 70) rfl rfl Tryd.func10 (by kernel_rfl) rfl #[.string ((a0 ++ ji20) ++ a1), .string a0] rfl (by (try simp only [List.map_toArray, List.map_cons, List.map_nil]); first | done | (simp only [hji20]; rfl) | rfl | (simp only [List.length_drop, List.length_take]; rfl)) ?_; (with_reducible refine (version_CompareText.calls kj23 ((a0 ++ ji20) ++ a1) a0 t184 _ (by first | exact hG | exact GL.below hG (by repeat (first | (with_reducible first | exact HB.out | apply below_alloc | apply pw_below_drewN | apply below_drew1) | exact HB.out)))  A32.out).mono ?_); rintro e w51 ⟨rfl, hb⟩; refine ⟨_, rfl, ?_⟩; have n0_ := Aside0.mk (below_step (by repeat (first | (with_reducible first | exact HB.out | apply below_alloc | apply pw_below_drewN | apply below_drew1) | exact HB.out)) hb); clear HB; have HB := n0_; clear n0_; (try clear hb); (try clear hb2); (try clear hk); (try clear hi)) | ((with_reducible refine gate_callee (f := 10) rfl ?_); refine goesL_ (some 85) rfl rfl Tryd.func10 (by kernel_rfl) rfl #[.string (((a0 ++ (⟨#[46]⟩ : ByteArray)) ++ t182) ++ a1), .string ((((a0 ++ (⟨#[46]⟩ : ByteArray)) ++ ((⟨#[48, 48, 48, 48, 48, 48, 48, 48]⟩ : ByteArray).extract 0 ((ji21) : Int).toNat)) ++ t182) ++ a1)] rfl (by (try simp only [List.map_toArray, List.map_cons, List.map_nil]); first | done | (simp only [hji21]; rfl) | rfl | (simp only [List.length_drop, List.length_take]; rfl)) ?_; (with_reducible refine (version_CompareText.calls kj23 (((a0 ++ (⟨#[46]⟩ : ByteArray)) ++ t182) ++ a1) ((((a0 ++ (⟨#[46]⟩ : ByteArray)) ++ ((⟨#[48, 48, 48, 48, 48, 48, 48, 48]⟩ : ByteArray).extract 0 ((ji21) : Int).toNat)) ++ t182) ++ a1) t185 _ (by first | exact hG | exact GL.below hG (by repeat (first | (with_reducible first | exact HB.out | apply below_alloc | apply pw_below_drewN | apply below_drew1) | exact HB.out)))  A38.out).mono ?_); rintro e w52 ⟨rfl, hb⟩; refine ⟨_, rfl, ?_⟩; have n0_ := Aside0.mk (below_step (by repeat (first | (with_reducible first | exact HB.out | apply below_alloc | apply pw_below_drewN | apply below_drew1) | exact HB.out)) hb); clear HB; have HB := n0_; clear n0_; (try clear hb); (try clear hb2); (try clear hk); (try clear hi)))
                                                    go_ret
                                                    exact ⟨by first | rfl | (simp [errW_none, errW_some] <;> rfl) | (simp only [← hji16, ← hji20, ← hji21]; first | rfl | (simp [errW_none, errW_some] <;> rfl)) | (simp [*, errW_none, errW_some] <;> rfl), by repeat (first | (with_reducible first | exact HB.out | apply below_alloc | apply pw_below_drewN | apply below_drew1) | exact HB.out)⟩
                                                · rw [if_neg c39] at H
                                                  have c39b0 : (t183 == (-1)) = false := beq_eq_false_iff_ne.mpr c39
                                                  have c39b1 : (t183 != (-1)) = true := bne_iff_ne.mpr c39
                                                  obtain rfl := Option.some.inj H
                                                  go_wp2_with (first | ((with_reducible refine gate_callee (f := 9) rfl ?_); refine goesL_ (some 57) rfl rfl Tryd.func9 (by kernel_rfl) rfl #[.int .i64 x4_23] rfl (by (try simp only [List.map_toArray, List.map_cons, List.map_nil]); first | done | rfl | (simp only [List.length_drop, List.length_take]; rfl)) ?_; (with_reducible refine (keelsonref2_Decimal.calls kj23 x4_23 t182 _ (by first | exact hG | exact GL.below hG (by repeat (first | (with_reducible first | exact HB.out | apply below_alloc | apply pw_below_drewN | apply below_drew1) | exact HB.out)))  A26.out).mono ?_); rintro e w' ⟨rfl, ⟨nd, rfl⟩⟩; refine ⟨_, rfl, ?_⟩) | ((with_reducible refine gate_callee (f := 10) rfl ?_); refine goesL_ (some 63) rfl rfl Tryd.func10 (by kernel_rfl) rfl #[.string ((a0 ++ (⟨#[126]⟩ : ByteArray)) ++ a1), .string a0] rfl (by (try simp only [List.map_toArray, List.map_cons, List.map_nil]); first | done | rfl | (simp only [List.length_drop, List.length_take]; rfl)) ?_; (with_reducible refine (version_CompareText.calls kj23 ((a0 ++ (⟨#[126]⟩ : ByteArray)) ++ a1) a0 t183 _ (by first | exact hG | exact GL.below hG (by repeat (first | (with_reducible first | exact HB.out | apply below_alloc | apply pw_below_drewN | apply below_drew1) | exact HB.out)))  A29.out).mono ?_); rintro e w53 ⟨rfl, hb⟩; refine ⟨_, rfl, ?_⟩; have n0_ := Aside0.mk (below_step (by repeat (first | (with_reducible first | exact HB.out | apply below_alloc | apply pw_below_drewN | apply below_drew1) | exact HB.out)) hb); clear HB; have HB := n0_; clear n0_; (try clear hb); (try clear hb2); (try clear hk); (try clear hi)) | ((with_reducible refine gate_callee (f := 10) rfl ?_); refine goesL_ (some 70) rfl rfl Tryd.func10 (by kernel_rfl) rfl #[.string ((a0 ++ ji20) ++ a1), .string a0] rfl (by (try simp only [List.map_toArray, List.map_cons, List.map_nil]); first | done | (simp only [hji20]; rfl) | rfl | (simp only [List.length_drop, List.length_take]; rfl)) ?_; (with_reducible refine (version_CompareText.calls kj23 ((a0 ++ ji20) ++ a1) a0 t184 _ (by first | exact hG | exact GL.below hG (by repeat (first | (with_reducible first | exact HB.out | apply below_alloc | apply pw_below_drewN | apply below_drew1) | exact HB.out)))  A32.out).mono ?_); rintro e w54 ⟨rfl, hb⟩; refine ⟨_, rfl, ?_⟩; have n0_ := Aside0.mk (below_step (by repeat (first | (with_reducible first | exact HB.out | apply below_alloc | apply pw_below_drewN | apply below_drew1) | exact HB.out)) hb); clear HB; have HB := n0_; clear n0_; (try clear hb); (try clear hb2); (try clear hk); (try clear hi)) | ((with_reducible refine gate_callee (f := 10) rfl ?_); refine goesL_ (some 85) rfl rfl Tryd.func10 (by kernel_rfl) rfl #[.string (((a0 ++ (⟨#[46]⟩ : ByteArray)) ++ t182) ++ a1), .string ((((a0 ++ (⟨#[46]⟩ : ByteArray)) ++ ((⟨#[48, 48, 48, 48, 48, 48, 48, 48]⟩ : ByteArray).extract 0 ((ji21) : Int).toNat)) ++ t182) ++ a1)] rfl (by (try simp only [List.map_toArray, List.map_cons, List.map_nil]); first | done | (simp only [hji21]; rfl) | rfl | (simp only [List.length_drop, List.length_take]; rfl)) ?_; (with_reducible refine (version_CompareText.calls kj23 (((a0 ++ (⟨#[46]⟩ : ByteArray)) ++ t182) ++ a1) ((((a0 ++ (⟨#[46]⟩ : ByteArray)) ++ ((⟨#[48, 48, 48, 48, 48, 48, 48, 48]⟩ : ByteArray).extract 0 ((ji21) : Int).toNat)) ++ t182) ++ a1) t185 _ (by first | exact hG | exact GL.below hG (by repeat (first | (with_reducible first | exact HB.out | apply below_alloc | apply pw_below_drewN | apply below_drew1) | exact HB.out)))  A38.out).mono ?_); rintro e w55 ⟨rfl, hb⟩; refine ⟨_, rfl, ?_⟩; have n0_ := Aside0.mk (below_step (by repeat (first | (with_reducible first | exact HB.out | apply below_alloc | apply pw_below_drewN | apply below_drew1) | exact HB.out)) hb); clear HB; have HB := n0_; clear n0_; (try clear hb); (try clear hb2); (try clear hk); (try clear hi)))
                                                  go_ret
                                                  exact ⟨by first | rfl | (simp [errW_none, errW_some] <;> rfl) | (simp only [← hji16, ← hji20, ← hji21]; first | rfl | (simp [errW_none, errW_some] <;> rfl)) | (simp [*, errW_none, errW_some] <;> rfl), by repeat (first | (with_reducible first | exact HB.out | apply below_alloc | apply pw_below_drewN | apply below_drew1) | exact HB.out)⟩
                                              · rw [if_neg c37] at H
                                                exact absurd H (by simp)
                                            · rw [if_neg c36] at H
                                              exact absurd H (by simp)
                                          · rw [if_neg c35] at H
                                            exact absurd H (by simp)
                                        · rw [if_neg c34] at H
                                          exact absurd H (by simp)
                                      · rw [if_neg c33] at H
                                        exact absurd H (by simp)
                                    · rw [if_neg c31] at H
                                      exact absurd H (by simp)
                                  · rw [if_neg c30] at H
                                    exact absurd H (by simp)
                                · rw [if_neg c28] at H
                                  exact absurd H (by simp)
                              · rw [if_neg c27] at H
                                exact absurd H (by simp)
                        · rw [if_neg c23] at H
                          exact absurd H (by simp)
                      · rw [if_neg c22] at H
                        exact absurd H (by simp)
                    · rw [if_neg c19] at H
                      exact absurd H (by simp)
                  · rw [if_neg c18] at H
                    exact absurd H (by simp)
                · rw [if_neg c17] at H
                  exact absurd H (by simp)

/-- THE ONE PURE STATEMENT of keelsonlaw2_VersionEnds: yours. -/
def keelsonlaw2_VersionEnds.Pure : Prop := ∀ (a0 : ByteArray) (a1 : ByteArray) (a2 : Int) (a3 : Int) (a4 : Int), a0.size ≤ 140737488351232 → a1.size ≤ 140737488351232 → (Lit.int .i64 a2).wf = true → (Lit.int .i64 a3).wf = true → (Lit.int .i64 a4).wf = true → ∃ k, keelsonlaw2_VersionEnds.f k a0 a1 a2 a3 a4 = some true
theorem keelsonlaw2_VersionEnds.walk (P : keelsonlaw2_VersionEnds.Pure) (a0 : ByteArray) (a1 : ByteArray) (a2 : Int) (a3 : Int) (a4 : Int) (w : World) (hG : GL w) (w0 : a0.size ≤ 140737488351232) (w1 : a1.size ≤ 140737488351232) (w2 : (Lit.int .i64 a2).wf = true) (w3 : (Lit.int .i64 a3).wf = true) (w4 : (Lit.int .i64 a4).wf = true) :
    Calls Tryd.prog 3 #[.string a0, .string a1, .int .i64 a2, .int .i64 a3, .int .i64 a4] w fun e w' => e = .returned (.bool true) ∧ Below w.heap.size w w' := by
  obtain ⟨k, h⟩ := P a0 a1 a2 a3 a4 w0 w1 w2 w3 w4
  refine (keelsonlaw2_VersionEnds.calls k a0 a1 a2 a3 a4 true w hG h).mono ?_
  rintro e w' ⟨rfl, hd⟩
  exact ⟨rfl, hd⟩

end Go.Proofs.YtpjhaaifgiicoaaDoor.PA
