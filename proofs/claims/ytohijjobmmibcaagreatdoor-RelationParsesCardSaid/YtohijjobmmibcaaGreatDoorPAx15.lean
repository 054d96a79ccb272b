
import Derived.Test.YtohijjobmmibcaaGreatDoorPAx0
import Derived.Test.YtohijjobmmibcaaGreatDoorPAx1
import Derived.Test.YtohijjobmmibcaaGreatDoorPAx5
import Derived.Test.YtohijjobmmibcaaGreatDoorPAx8
import Derived.Test.YtohijjobmmibcaaGreatDoorPAx13
import Derived.Test.YtohijjobmmibcaaGreatDoorPAx14
namespace Go.Proofs.YtohijjobmmibcaaGreatDoor.PA
open Go.RowKit Go.Proofs.YtohijjobmmibcaaGreatDoorW.PrintWords Go.Proofs.YtohijjobmmibcaaGreatDoorW.PrintLast Go.Proofs.YtohijjobmmibcaaGreatDoorW.PrintMore
attribute [local go_sem] max2_int min2_int max_two min_two max_three min_three max_four min_four
set_option linter.unusedVariables false
set_option linter.unusedSimpArgs false
attribute [local go_sem high] eqA23
def keelsonlaw3_RelationParses.j0 : Nat → ByteArray → Bool → Bool → ByteArray → Int → ByteArray → Option (Bool)
  | 0, _, _, _, _, _, _ => none
  | k + 1, x0, x5, x24, x296000, x296001, x296002 => if x24 = true then (some x5) else ((relation_Parse.f k x0).bind fun bt298 => ((keelsonref3_Parse.f k x0).bind fun bt303 => (if (bt298.1.toList == bt303.1.toList && (bt298.2.1 == bt303.2.1 && (bt298.2.2.1.toList == bt303.2.2.1.toList))) = true then (if bt298.2.2.2 = bt303.2.2.2 then ((relation_Right.f k x296000 x296001 x296002).bind fun t308 => ((keelsonref3_Right.f k x296000 x296001 x296002).bind fun t309 => (if (t308 == t309) = true then ((relation_Print.f k x296000 x296001 x296002).bind fun t310 => ((keelsonref3_Print.f k x296000 x296001 x296002).bind fun t311 => (some (t310.toList == t311.toList)))) else (some false)))) else (some false)) else (some false))))
def keelsonlaw3_RelationParses.f (k : Nat) (a0 : ByteArray) (a1_0 : ByteArray) (a1_1 : Int) (a1_2 : ByteArray) : Option (Bool) := (keelsonlaw3_shown.f k).bind fun t296 => ((keelsonlaw3_small.f a1_0 a1_1 a1_2).bind fun t297 => (if t296 = true then (if t297 = true then (keelsonlaw3_RelationParses.j0 k a0 t296 (decide ((a0.size : Int) > 500)) a1_0 a1_1 a1_2) else (keelsonlaw3_RelationParses.j0 k a0 t296 true a1_0 a1_1 a1_2)) else (keelsonlaw3_RelationParses.j0 k a0 t296 true a1_0 a1_1 a1_2)))
theorem keelsonlaw3_RelationParses.mono_l : ∀ k, (∀ y0 y1 y2 y3 y4 y5, LeO (keelsonlaw3_RelationParses.j0 k y0 y1 y2 y3 y4 y5) (keelsonlaw3_RelationParses.j0 (k + 1) y0 y1 y2 y3 y4 y5))
  | 0 => fun _ _ _ _ _ _ r h => by simp [keelsonlaw3_RelationParses.j0] at h
  | k + 1 => by
    have ih0 := keelsonlaw3_RelationParses.mono_l k
    · intro y0 y1 y2 y3 y4 y5
      unfold keelsonlaw3_RelationParses.j0
      repeat' first
      | (with_reducible exact ih0 _ _ _ _ _ _)
      | (with_reducible exact keelsonlaw3_shown.mono _)
      | (with_reducible exact keelsonref3_Parse.mono _ _)
      | (with_reducible exact keelsonref3_Print.mono _ _ _ _)
      | (with_reducible exact keelsonref3_Right.mono _ _ _ _)
      | (with_reducible exact relation_Parse.mono _ _)
      | (with_reducible exact relation_Print.mono _ _ _ _)
      | (with_reducible exact relation_Right.mono _ _ _ _)
      | (with_reducible exact LeO.refl _)
      | (with_reducible exact LeO.none _)
      | (with_reducible refine LeO.ite ?_ ?_)
      | (with_reducible refine LeO.bind ?_ (fun _ => ?_))
      | exact ih0 _ _ _ _ _ _
      | exact keelsonlaw3_shown.mono _
      | exact keelsonref3_Parse.mono _ _
      | exact keelsonref3_Print.mono _ _ _ _
      | exact keelsonref3_Right.mono _ _ _ _
      | exact relation_Parse.mono _ _
      | exact relation_Print.mono _ _ _ _
      | exact relation_Right.mono _ _ _ _
      | exact LeO.none _
      | refine LeO.ite ?_ ?_
      | refine LeO.bind ?_ (fun _ => ?_)
theorem keelsonlaw3_RelationParses.mono : ∀ a0 a1 a2 a3 k, LeO (keelsonlaw3_RelationParses.f k a0 a1 a2 a3) (keelsonlaw3_RelationParses.f (k + 1) a0 a1 a2 a3) := by
  intro a0 a1 a2 a3 k
  have ih0 := keelsonlaw3_RelationParses.mono_l k
  unfold keelsonlaw3_RelationParses.f
  repeat' first
      | (with_reducible exact ih0 _ _ _ _ _ _)
      | (with_reducible exact keelsonlaw3_shown.mono _)
      | (with_reducible exact keelsonref3_Parse.mono _ _)
      | (with_reducible exact keelsonref3_Print.mono _ _ _ _)
      | (with_reducible exact keelsonref3_Right.mono _ _ _ _)
      | (with_reducible exact relation_Parse.mono _ _)
      | (with_reducible exact relation_Print.mono _ _ _ _)
      | (with_reducible exact relation_Right.mono _ _ _ _)
      | (with_reducible exact LeO.refl _)
      | (with_reducible exact LeO.none _)
      | (with_reducible refine LeO.ite ?_ ?_)
      | (with_reducible refine LeO.bind ?_ (fun _ => ?_))
      | exact ih0 _ _ _ _ _ _
      | exact keelsonlaw3_shown.mono _
      | exact keelsonref3_Parse.mono _ _
      | exact keelsonref3_Print.mono _ _ _ _
      | exact keelsonref3_Right.mono _ _ _ _
      | exact relation_Parse.mono _ _
      | exact relation_Print.mono _ _ _ _
      | exact relation_Right.mono _ _ _ _
      | exact LeO.none _
      | refine LeO.ite ?_ ?_
      | refine LeO.bind ?_ (fun _ => ?_)
def keelsonlaw3_RelationParses.T7 : Bool × List (List Nat × List Nat) := (true, [([], []), ([], []), ([0, 1], [0, 1]), ([2], [2]), ([3], [3]), ([3], [3]), ([4, 5, 3], [3, 4, 5]), ([3, 6], [3, 6]), ([7, 3], [7]), ([8], [8]), ([9, 8, 8], [8, 9]), ([8], [8]), ([11, 10, 8], [8, 11]), ([10, 12, 8], [8, 10, 12]), ([8, 13], [8, 13]), ([14, 12], [14]), ([15], [15]), ([16, 15, 15], [15, 16]), ([15], [15]), ([18, 17, 15], [15, 18]), ([17, 19, 15], [15, 17, 19]), ([15, 20], [15, 20]), ([21, 19, 0, 1, 2, 3, 4, 5, 6, 7, 8, 9, 10, 11, 12, 13, 14, 15, 16, 17, 18, 19, 20, 21], [21])])
def keelsonlaw3_RelationParses.B7 : List Nat := [0, 0, 3, 7, 15, 15, 63, 127, 255, 511, 1023, 511, 4095, 8191, 16383, 32767, 65535, 131071, 65535, 524287, 1048575, 2097151, 4194303]
theorem keelsonlaw3_RelationParses.tab7 : rtab .any (opsOf Tryz.f3 7) = keelsonlaw3_RelationParses.T7 := by kernel_rfl
theorem keelsonlaw3_RelationParses.bits7 : waitsOk keelsonlaw3_RelationParses.T7.2 keelsonlaw3_RelationParses.B7 = true := by kernel_rfl
set_option maxHeartbeats 8000000 in
set_option maxRecDepth 100000 in
theorem keelsonlaw3_RelationParses.calls (k : Nat) (a0 : ByteArray) (a1_0 : ByteArray) (a1_1 : Int) (a1_2 : ByteArray) (r : Bool) (w : World) (hG : GL w) (h : keelsonlaw3_RelationParses.f k a0 a1_0 a1_1 a1_2 = some r) :
    Calls Tryz.prog 3 #[.string a0, .agg #[.string a1_0, .int .i64 a1_1, .string a1_2]] w fun e w' => e = .returned (.bool r) ∧ Below w.heap.size w w' := by
  have hu23 := Tryz.underlying23
  have HB := Aside0.mk (Below.refl w.heap.size w)
  have H : ((keelsonlaw3_shown.f k).bind fun t296 => ((keelsonlaw3_small.f a1_0 a1_1 a1_2).bind fun t297 => (if t296 = true then (if t297 = true then (keelsonlaw3_RelationParses.j0 k a0 t296 (decide ((a0.size : Int) > 500)) a1_0 a1_1 a1_2) else (keelsonlaw3_RelationParses.j0 k a0 t296 true a1_0 a1_1 a1_2)) else (keelsonlaw3_RelationParses.j0 k a0 t296 true a1_0 a1_1 a1_2)))) = some r := h
  clear h
  replace H := Option.bind_eq_some_iff.mp H
  obtain ⟨t296, A30, H⟩ := H
  replace H : ((keelsonlaw3_small.f a1_0 a1_1 a1_2).bind fun t297 => (if t296 = true then (if t297 = true then (keelsonlaw3_RelationParses.j0 k a0 t296 (decide ((a0.size : Int) > 500)) a1_0 a1_1 a1_2) else (keelsonlaw3_RelationParses.j0 k a0 t296 true a1_0 a1_1 a1_2)) else (keelsonlaw3_RelationParses.j0 k a0 t296 true a1_0 a1_1 a1_2))) = some r := H
  have A3 := Aside0.mk A30
  clear A30
  replace H := Option.bind_eq_some_iff.mp H
  obtain ⟨t297, A40, H⟩ := H
  replace H : (if t296 = true then (if t297 = true then (keelsonlaw3_RelationParses.j0 k a0 t296 (decide ((a0.size : Int) > 500)) a1_0 a1_1 a1_2) else (keelsonlaw3_RelationParses.j0 k a0 t296 true a1_0 a1_1 a1_2)) else (keelsonlaw3_RelationParses.j0 k a0 t296 true a1_0 a1_1 a1_2)) = some r := H
  have A4 := Aside0.mk A40
  clear A40
  have HC5 := Aside0.mk H
  clear H
  go_enter Tryz.func3, Tryz.ntmps3
  go_upto_region 3 with (first | ((with_reducible refine qar (N := 3) rfl ?_); (try (refine gate_guard (by rfl) ?_; dsimp only)); refine qaq ?hg (N := 3) ?hd (cs := #[.string a1_0, .int .i64 a1_1, .string a1_2]) (t := 23) ?hr ?_; (case hd => rfl); (case hg => rfl); (case hr => first | (go_simp; done) | (go_simp; rfl)); intro gb295 hg w6 hbox hb; have n0_ := Aside0.mk (qak (by repeat (first | (with_reducible first | exact HB.out | apply qaf | apply qaa | apply qae) | exact HB.out)) hb); have n1_ := Aside0.mk (hbox); have n2_ := Aside0.mk ((by rw [hg]; exact (qap (by repeat (first | (with_reducible first | exact HB.out | apply qaf | apply qaa | apply qae) | exact HB.out))) : w.heap.size ≤ gb295)); have n3_ := Aside0.mk ((by rw [hg]; exact (qap (by repeat (first | (with_reducible first | exact HB.out | apply qaf | apply qaa | apply qae) | exact HB.out))) : w.heap.size ≤ gb295)); clear HB; have HB := n0_; have BK295 := n1_; have GW295 := n2_; have GE295 := n3_; clear n0_ n1_ n2_ n3_; clear hb hbox hg) | ((with_reducible refine qam (f := 4) rfl ?_); refine goesL_ (some 11) rfl rfl Tryz.func4 (by kernel_rfl) rfl #[] rfl (by (try simp only [List.map_toArray, List.map_cons, List.map_nil]); first | done | rfl | (simp only [List.length_drop, List.length_take]; rfl)) ?_; (with_reducible refine (keelsonlaw3_shown.calls k  t296 _ (by first | exact hG | exact GL.below hG (by repeat (first | (with_reducible first | exact HB.out | apply qaf | apply qaa | apply qae | refine qad ?_ GE295.out) | exact HB.out)))  A3.out).mono ?_); rintro e w7 ⟨rfl, hb⟩; refine ⟨_, rfl, ?_⟩; have n0_ := Aside0.mk (qaj (g := gb295) (o := .cells #[.string a1_0, .int .i64 a1_1, .string a1_2] 23 (0, 0)) (by (with_reducible repeat (first | refine qac ?_ _ | refine qag ?_ | refine qab ?_ _)); exact BK295.out) hb); have n1_ := Aside0.mk (qak (by repeat (first | (with_reducible first | exact HB.out | apply qaf | apply qaa | apply qae | refine qad ?_ GE295.out) | exact HB.out)) hb); clear BK295; clear HB; have BK295 := n0_; have HB := n1_; clear n0_ n1_; (try clear hb); (try clear hb2); (try clear hk); (try clear hi); have hcz8_0 : w7.cell? ⟨gb295, 0, none⟩ = some (.string a1_0) := (qai BK295.out 0).trans rfl; have hcz8_1 : w7.cell? ⟨gb295, 1, none⟩ = some (.int .i64 a1_1) := (qai BK295.out 1).trans rfl; have hcz8_2 : w7.cell? ⟨gb295, 2, none⟩ = some (.string a1_2) := (qai BK295.out 2).trans rfl; have hfz8_0 := qah BK295.out 0; have hfz8_1 := qah BK295.out 1; have hfz8_2 := qah BK295.out 2) | ((with_reducible refine qam (f := 5) rfl ?_); refine goesL_ (some 13) rfl rfl Tryz.func5 (by kernel_rfl) rfl #[.agg #[.string a1_0, .int .i64 a1_1, .string a1_2]] rfl (by (try simp only [List.map_toArray, List.map_cons, List.map_nil]); first | done | rfl | (simp only [List.length_drop, List.length_take]; rfl)) ?_; (with_reducible refine (keelsonlaw3_small.calls a1_0 a1_1 a1_2 t297 _ (by first | exact hG | exact GL.below hG (by repeat (first | (with_reducible first | exact HB.out | apply qaf | apply qaa | apply qae | refine qad ?_ GE295.out) | exact HB.out)))  A4.out).mono ?_); rintro e w9 ⟨rfl, hb⟩; refine ⟨_, rfl, ?_⟩; have n0_ := Aside0.mk (qaj (g := gb295) (o := .cells #[.string a1_0, .int .i64 a1_1, .string a1_2] 23 (0, 0)) (by (with_reducible repeat (first | refine qac ?_ _ | refine qag ?_ | refine qab ?_ _)); exact BK295.out) hb); have n1_ := Aside0.mk (qak (by repeat (first | (with_reducible first | exact HB.out | apply qaf | apply qaa | apply qae | refine qad ?_ GE295.out) | exact HB.out)) hb); clear BK295; clear HB; have BK295 := n0_; have HB := n1_; clear n0_ n1_; (try clear hb); (try clear hb2); (try clear hk); (try clear hi)))
  (try simp only [Act.put, List.setIfInBounds_toArray, List.set_cons_zero, List.set_cons_succ])
  go_cut [24] (fun v24 wc => ∃ (kq : Nat) (x24_4 : Bool), v24 = .bool x24_4 ∧ Aside0 (keelsonlaw3_RelationParses.j0 kq a0 t296 x24_4 a1_0 a1_1 a1_2 = some r) ∧ Aside0 (kq ≤ k) ∧ Aside0 (wc.heap[gb295]? = some (.cells #[.string a1_0, .int .i64 a1_1, .string a1_2] 23 (0, 0))) ∧ Aside0 (Below w.heap.size w wc))
  case first =>
    have H := HC5.out
    clear HC5
    by_cases c10 : t296 = true
    · subst c10
      have H1 : (if t297 = true then (keelsonlaw3_RelationParses.j0 k a0 true (decide ((a0.size : Int) > 500)) a1_0 a1_1 a1_2) else (keelsonlaw3_RelationParses.j0 k a0 true true a1_0 a1_1 a1_2)) = some r := by rw [if_pos rfl] at H; exact H
      clear H
      have H := H1
      clear H1
      by_cases c11 : t297 = true
      · subst c11
        have H1 : (keelsonlaw3_RelationParses.j0 k a0 true (decide ((a0.size : Int) > 500)) a1_0 a1_1 a1_2) = some r := by rw [if_pos rfl] at H; exact H
        clear H
        have H := H1
        clear H1
        have H' := Aside0.mk H
        clear H
        go_wp2
        go_meet
        case rel => exact ⟨_, (decide ((a0.size : Int) > 500)), (by first | rfl | (simp; done) | (simp [*]; done) | (simp [qal]; done)), H', ⟨by first | omega | exact Nat.le_refl _⟩, ⟨by (with_reducible repeat (first | refine qac ?_ _ | refine qag ?_ | refine qab ?_ _)); exact BK295.out⟩, ⟨by repeat (first | (with_reducible first | exact HB.out | apply qaf | apply qaa | apply qae | refine qad ?_ GE295.out) | exact HB.out)⟩⟩
      · replace c11 := Bool.eq_false_iff.mpr c11
        subst c11
        have H1 : (keelsonlaw3_RelationParses.j0 k a0 true true a1_0 a1_1 a1_2) = some r := by rw [if_neg (show ¬ (false = true) by decide)] at H; exact H
        clear H
        have H := H1
        clear H1
        have H' := Aside0.mk H
        clear H
        go_wp2
        go_meet
        case rel => exact ⟨_, (true), (by first | rfl | (simp; done) | (simp [*]; done) | (simp [qal]; done)), H', ⟨by first | omega | exact Nat.le_refl _⟩, ⟨by (with_reducible repeat (first | refine qac ?_ _ | refine qag ?_ | refine qab ?_ _)); exact BK295.out⟩, ⟨by repeat (first | (with_reducible first | exact HB.out | apply qaf | apply qaa | apply qae | refine qad ?_ GE295.out) | exact HB.out)⟩⟩
    · replace c10 := Bool.eq_false_iff.mpr c10
      subst c10
      have H1 : (keelsonlaw3_RelationParses.j0 k a0 false true a1_0 a1_1 a1_2) = some r := by rw [if_neg (show ¬ (false = true) by decide)] at H; exact H
      clear H
      have H := H1
      clear H1
      have H' := Aside0.mk H
      clear H
      go_wp2
      go_meet
      case rel => exact ⟨_, (true), (by first | rfl | (simp; done) | (simp [*]; done) | (simp [qal]; done)), H', ⟨by first | omega | exact Nat.le_refl _⟩, ⟨by (with_reducible repeat (first | refine qac ?_ _ | refine qag ?_ | refine qab ?_ _)); exact BK295.out⟩, ⟨by repeat (first | (with_reducible first | exact HB.out | apply qaf | apply qaa | apply qae | refine qad ?_ GE295.out) | exact HB.out)⟩⟩
  case rest =>
    clear HC5
    try clear c1
    try clear p2
    try clear c3
    try clear c4
    try clear c5
    try clear c10
    try clear c11
    try clear hcz8_0
    try clear hcz8_1
    try clear hcz8_2
    try clear hfz8_0
    try clear hfz8_1
    try clear hfz8_2
    obtain ⟨kq, x24_4, rfl, HA, HJ4, BK295, HB⟩ := hcut
    cases kq with
    | zero => exact absurd HA.out (by simp [keelsonlaw3_RelationParses.j0])
    | succ kj4 =>
      have H := HA.out
      clear HA
      simp only [keelsonlaw3_RelationParses.j0] at H
      by_cases c12 : x24_4 = true
      · subst c12
        have H1 : (some t296) = some r := by rw [if_pos rfl] at H; exact H
        clear H
        have H := H1
        clear H1
        obtain rfl := Option.some.inj H
        go_wp2
        go_ret
        exact ⟨by first | rfl | (simp [qan, qao] <;> rfl) | (simp [*, qan, qao] <;> rfl), by repeat (first | (with_reducible first | exact HB.out | apply qaf | apply qaa | apply qae | refine qad ?_ GE295.out) | exact HB.out)⟩
      · replace c12 := Bool.eq_false_iff.mpr c12
        subst c12
        have H1 : ((relation_Parse.f kj4 a0).bind fun bt298 => ((keelsonref3_Parse.f kj4 a0).bind fun bt303 => (if (bt298.1.toList == bt303.1.toList && (bt298.2.1 == bt303.2.1 && (bt298.2.2.1.toList == bt303.2.2.1.toList))) = true then (if bt298.2.2.2 = bt303.2.2.2 then ((relation_Right.f kj4 a1_0 a1_1 a1_2).bind fun t308 => ((keelsonref3_Right.f kj4 a1_0 a1_1 a1_2).bind fun t309 => (if (t308 == t309) = true then ((relation_Print.f kj4 a1_0 a1_1 a1_2).bind fun t310 => ((keelsonref3_Print.f kj4 a1_0 a1_1 a1_2).bind fun t311 => (some (t310.toList == t311.toList)))) else (some false)))) else (some false)) else (some false)))) = some r := by rw [if_neg (show ¬ (false = true) by decide)] at H; exact H
        clear H
        have H := H1
        clear H1
        replace H := Option.bind_eq_some_iff.mp H
        obtain ⟨⟨t298, t299, t300, t301⟩, A130, H⟩ := H
        replace H : ((keelsonref3_Parse.f kj4 a0).bind fun bt303 => (if (t298.toList == bt303.1.toList && (t299 == bt303.2.1 && (t300.toList == bt303.2.2.1.toList))) = true then (if t301 = bt303.2.2.2 then ((relation_Right.f kj4 a1_0 a1_1 a1_2).bind fun t308 => ((keelsonref3_Right.f kj4 a1_0 a1_1 a1_2).bind fun t309 => (if (t308 == t309) = true then ((relation_Print.f kj4 a1_0 a1_1 a1_2).bind fun t310 => ((keelsonref3_Print.f kj4 a1_0 a1_1 a1_2).bind fun t311 => (some (t310.toList == t311.toList)))) else (some false)))) else (some false)) else (some false))) = some r := H
        have A13 := Aside0.mk A130
        clear A130
        replace H := Option.bind_eq_some_iff.mp H
        obtain ⟨⟨t303, t304, t305, t306⟩, A140, H⟩ := H
        replace H : (if (t298.toList == t303.toList && (t299 == t304 && (t300.toList == t305.toList))) = true then (if t301 = t306 then ((relation_Right.f kj4 a1_0 a1_1 a1_2).bind fun t308 => ((keelsonref3_Right.f kj4 a1_0 a1_1 a1_2).bind fun t309 => (if (t308 == t309) = true then ((relation_Print.f kj4 a1_0 a1_1 a1_2).bind fun t310 => ((keelsonref3_Print.f kj4 a1_0 a1_1 a1_2).bind fun t311 => (some (t310.toList == t311.toList)))) else (some false)))) else (some false)) else (some false)) = some r := H
        have A14 := Aside0.mk A140
        clear A140
        by_cases c15 : (t298.toList == t303.toList && (t299 == t304 && (t300.toList == t305.toList))) = true
        · rw [if_pos c15] at H
          have c15b0 : (t298.toList == t303.toList && (t299 == t304 && (t300.toList == t305.toList))) = true := c15
          (try (have c15b1 : decide (t298.toList = t303.toList && (t299 == t304 && (t300.toList == t305.toList))) = true := by simpa using c15))
          (try (have c15b2 : (t298.toList == t303.toList && (t299 == t304 && (t300.toList == t305.toList))) = true := by simpa using c15))
          clear c15
          by_cases c16 : t301 = t306
          · rw [if_pos c16] at H
            have c16b0 : (t301 == t306) = true := beq_iff_eq.mpr c16
            have c16b1 : (t301 != t306) = false := bne_eq_false_iff_eq.mpr c16
            clear c16
            replace H := Option.bind_eq_some_iff.mp H
            obtain ⟨t308, A170, H⟩ := H
            replace H : ((keelsonref3_Right.f kj4 a1_0 a1_1 a1_2).bind fun t309 => (if (t308 == t309) = true then ((relation_Print.f kj4 a1_0 a1_1 a1_2).bind fun t310 => ((keelsonref3_Print.f kj4 a1_0 a1_1 a1_2).bind fun t311 => (some (t310.toList == t311.toList)))) else (some false))) = some r := H
            have A17 := Aside0.mk A170
            clear A170
            replace H := Option.bind_eq_some_iff.mp H
            obtain ⟨t309, A180, H⟩ := H
            replace H : (if (t308 == t309) = true then ((relation_Print.f kj4 a1_0 a1_1 a1_2).bind fun t310 => ((keelsonref3_Print.f kj4 a1_0 a1_1 a1_2).bind fun t311 => (some (t310.toList == t311.toList)))) else (some false)) = some r := H
            have A18 := Aside0.mk A180
            clear A180
            by_cases c19 : (t308 == t309) = true
            · rw [if_pos c19] at H
              have c19b0 : (t308 == t309) = true := c19
              (try (have c19b1 : decide (t308 = t309) = true := by simpa using c19))
              (try (have c19b2 : (t308 == t309) = true := by simpa using c19))
              clear c19
              replace H := Option.bind_eq_some_iff.mp H
              obtain ⟨t310, A200, H⟩ := H
              replace H : ((keelsonref3_Print.f kj4 a1_0 a1_1 a1_2).bind fun t311 => (some (t310.toList == t311.toList))) = some r := H
              have A20 := Aside0.mk A200
              clear A200
              replace H := Option.bind_eq_some_iff.mp H
              obtain ⟨t311, A210, H⟩ := H
              replace H : (some (t310.toList == t311.toList)) = some r := H
              have A21 := Aside0.mk A210
              clear A210
              obtain rfl := Option.some.inj H
              try go_wp2_with (first | ((with_reducible refine qam (f := 6) rfl ?_); refine goesL_ (some 28) rfl rfl Tryz.func6 (by kernel_rfl) rfl #[.string a0] rfl (by (try simp only [List.map_toArray, List.map_cons, List.map_nil]); first | done | rfl | (simp only [List.length_drop, List.length_take]; rfl)) ?_; (with_reducible refine (relation_Parse.calls kj4 a0 t298 t299 t300 t301 _ (by first | exact hG | exact GL.below hG (by repeat (first | (with_reducible first | exact HB.out | apply qaf | apply qaa | apply qae | refine qad ?_ GE295.out) | exact HB.out)))  A13.out).mono ?_); rintro e w22 ⟨rfl, hb⟩; refine ⟨_, rfl, ?_⟩; have n0_ := Aside0.mk (qaj (g := gb295) (o := .cells #[.string a1_0, .int .i64 a1_1, .string a1_2] 23 (0, 0)) (by (with_reducible repeat (first | refine qac ?_ _ | refine qag ?_ | refine qab ?_ _)); exact BK295.out) hb); have n1_ := Aside0.mk (qak (by repeat (first | (with_reducible first | exact HB.out | apply qaf | apply qaa | apply qae | refine qad ?_ GE295.out) | exact HB.out)) hb); clear BK295; clear HB; have BK295 := n0_; have HB := n1_; clear n0_ n1_; (try clear hb); (try clear hb2); (try clear hk); (try clear hi)) | ((with_reducible refine qar (N := 7) rfl ?_); (try (refine gate_guard (by rfl) ?_; dsimp only)); refine qaq ?hg (N := 7) ?hd (cs := #[.string (⟨#[]⟩ : ByteArray), .int .i64 0, .string (⟨#[]⟩ : ByteArray)]) (t := 23) ?hr ?_; (case hd => rfl); (case hg => rfl); (case hr => first | (go_simp; done) | (go_simp; rfl)); intro gb302 hg w23 hbox hb; have n0_ := Aside0.mk (qaj (g := gb295) (o := .cells #[.string a1_0, .int .i64 a1_1, .string a1_2] 23 (0, 0)) (by (with_reducible repeat (first | refine qac ?_ _ | refine qag ?_ | refine qab ?_ _)); exact BK295.out) hb); have n1_ := Aside0.mk (qak (by repeat (first | (with_reducible first | exact HB.out | apply qaf | apply qaa | apply qae | refine qad ?_ GE295.out) | exact HB.out)) hb); have n2_ := Aside0.mk (hbox); have n3_ := Aside0.mk ((by rw [hg]; exact (qap (by repeat (first | (with_reducible first | exact HB.out | apply qaf | apply qaa | apply qae | refine qad ?_ GE295.out) | exact HB.out))) : w.heap.size ≤ gb302)); have n4_ := Aside0.mk ((by rw [hg]; exact (qap (by repeat (first | (with_reducible first | exact HB.out | apply qaf | apply qaa | apply qae | refine qad ?_ GE295.out) | exact HB.out))) : w.heap.size ≤ gb302)); have n5_ := Aside0.mk ((by rw [hg]; exact Nat.ne_of_lt (blk_lt (g := gb295) (o := .cells #[.string a1_0, .int .i64 a1_1, .string a1_2] 23 (0, 0)) (by (with_reducible repeat (first | refine qac ?_ _ | refine qag ?_ | refine qab ?_ _)); exact BK295.out)) : gb295 ≠ gb302)); have n6_ := Aside0.mk ((by rw [hg]; exact Nat.ne_of_gt (blk_lt (g := gb295) (o := .cells #[.string a1_0, .int .i64 a1_1, .string a1_2] 23 (0, 0)) (by (with_reducible repeat (first | refine qac ?_ _ | refine qag ?_ | refine qab ?_ _)); exact BK295.out)) : gb302 ≠ gb295)); clear BK295; clear HB; have BK295 := n0_; have HB := n1_; have BK302 := n2_; have GW302 := n3_; have GE302 := n4_; have NB295_302 := n5_; have NB302_295 := n6_; clear n0_ n1_ n2_ n3_ n4_ n5_ n6_; clear hb hbox hg; have hnb24 := NB302_295.out; have hnc24 := NB295_302.out; have hcz25_0 : w23.cell? ⟨gb302, 0, none⟩ = some (.string (⟨#[]⟩ : ByteArray)) := (qai BK302.out 0).trans rfl; have hcz25_1 : w23.cell? ⟨gb302, 1, none⟩ = some (.int .i64 0) := (qai BK302.out 1).trans rfl; have hcz25_2 : w23.cell? ⟨gb302, 2, none⟩ = some (.string (⟨#[]⟩ : ByteArray)) := (qai BK302.out 2).trans rfl; have hfz25_0 := qah BK302.out 0; have hfz25_1 := qah BK302.out 1; have hfz25_2 := qah BK302.out 2) | ((with_reducible refine qam (f := 7) rfl ?_); refine goesL_ (some 33) rfl rfl Tryz.func7 (by kernel_rfl) rfl #[.string a0] rfl (by (try simp only [List.map_toArray, List.map_cons, List.map_nil]); first | done | rfl | (simp only [List.length_drop, List.length_take]; rfl)) ?_; (with_reducible refine (keelsonref3_Parse.calls kj4 a0 t303 t304 t305 t306 _ (by first | exact hG | exact GL.below hG (by repeat (first | (with_reducible first | exact HB.out | apply qaf | apply qaa | apply qae | refine qad ?_ GE295.out | refine qad ?_ GE302.out) | exact HB.out)))  A14.out).mono ?_); rintro e w26 ⟨rfl, hb⟩; refine ⟨_, rfl, ?_⟩; have n0_ := Aside0.mk (qaj (g := gb295) (o := .cells #[.string a1_0, .int .i64 a1_1, .string a1_2] 23 (0, 0)) (by (with_reducible repeat (first | refine qac ?_ _ | refine qag ?_ | refine qab ?_ _)); refine blk_far ?_ NB295_302.out _; (with_reducible repeat (first | refine qac ?_ _ | refine qag ?_ | refine qab ?_ _)); refine blk_far ?_ NB295_302.out _; (with_reducible repeat (first | refine qac ?_ _ | refine qag ?_ | refine qab ?_ _)); refine blk_far ?_ NB295_302.out _; (with_reducible repeat (first | refine qac ?_ _ | refine qag ?_ | refine qab ?_ _)); exact BK295.out) hb); have n1_ := Aside0.mk (qaj (g := gb302) (o := .cells #[.string t298, .int .i64 t299, .string t300] 23 (0, 0)) (by (with_reducible repeat (first | refine qac ?_ _ | refine qag ?_ | refine qab ?_ _)); refine blk_put (cs := #[.string t298, .int .i64 t299, .string (⟨#[]⟩ : ByteArray)]) ?_ 2 _ rfl; (with_reducible repeat (first | refine qac ?_ _ | refine qag ?_ | refine qab ?_ _)); refine blk_put (cs := #[.string t298, .int .i64 0, .string (⟨#[]⟩ : ByteArray)]) ?_ 1 _ rfl; (with_reducible repeat (first | refine qac ?_ _ | refine qag ?_ | refine qab ?_ _)); refine blk_put (cs := #[.string (⟨#[]⟩ : ByteArray), .int .i64 0, .string (⟨#[]⟩ : ByteArray)]) ?_ 0 _ rfl; (with_reducible repeat (first | refine qac ?_ _ | refine qag ?_ | refine qab ?_ _)); exact BK302.out) hb); have n2_ := Aside0.mk (qak (by repeat (first | (with_reducible first | exact HB.out | apply qaf | apply qaa | apply qae | refine qad ?_ GE295.out | refine qad ?_ GE302.out) | exact HB.out)) hb); clear BK295; clear BK302; clear HB; have BK295 := n0_; have BK302 := n1_; have HB := n2_; clear n0_ n1_ n2_; (try clear hb); (try clear hb2); (try clear hk); (try clear hi)) | ((with_reducible refine qar (N := 9) rfl ?_); (try (refine gate_guard (by rfl) ?_; dsimp only)); refine qaq ?hg (N := 9) ?hd (cs := #[.string (⟨#[]⟩ : ByteArray), .int .i64 0, .string (⟨#[]⟩ : ByteArray)]) (t := 23) ?hr ?_; (case hd => rfl); (case hg => rfl); (case hr => first | (go_simp; done) | (go_simp; rfl)); intro gb307 hg w27 hbox hb; have n0_ := Aside0.mk (qaj (g := gb295) (o := .cells #[.string a1_0, .int .i64 a1_1, .string a1_2] 23 (0, 0)) (by (with_reducible repeat (first | refine qac ?_ _ | refine qag ?_ | refine qab ?_ _)); exact BK295.out) hb); have n1_ := Aside0.mk (qaj (g := gb302) (o := .cells #[.string t298, .int .i64 t299, .string t300] 23 (0, 0)) (by (with_reducible repeat (first | refine qac ?_ _ | refine qag ?_ | refine qab ?_ _)); exact BK302.out) hb); have n2_ := Aside0.mk (qak (by repeat (first | (with_reducible first | exact HB.out | apply qaf | apply qaa | apply qae | refine qad ?_ GE295.out | refine qad ?_ GE302.out) | exact HB.out)) hb); have n3_ := Aside0.mk (hbox); have n4_ := Aside0.mk ((by rw [hg]; exact (qap (by repeat (first | (with_reducible first | exact HB.out | apply qaf | apply qaa | apply qae | refine qad ?_ GE295.out | refine qad ?_ GE302.out) | exact HB.out))) : w.heap.size ≤ gb307)); have n5_ := Aside0.mk ((by rw [hg]; exact (qap (by repeat (first | (with_reducible first | exact HB.out | apply qaf | apply qaa | apply qae | refine qad ?_ GE295.out | refine qad ?_ GE302.out) | exact HB.out))) : w.heap.size ≤ gb307)); have n6_ := Aside0.mk ((by rw [hg]; exact Nat.ne_of_lt (blk_lt (g := gb295) (o := .cells #[.string a1_0, .int .i64 a1_1, .string a1_2] 23 (0, 0)) (by (with_reducible repeat (first | refine qac ?_ _ | refine qag ?_ | refine qab ?_ _)); exact BK295.out)) : gb295 ≠ gb307)); have n7_ := Aside0.mk ((by rw [hg]; exact Nat.ne_of_gt (blk_lt (g := gb295) (o := .cells #[.string a1_0, .int .i64 a1_1, .string a1_2] 23 (0, 0)) (by (with_reducible repeat (first | refine qac ?_ _ | refine qag ?_ | refine qab ?_ _)); exact BK295.out)) : gb307 ≠ gb295)); have n8_ := Aside0.mk ((by rw [hg]; exact Nat.ne_of_lt (blk_lt (g := gb302) (o := .cells #[.string t298, .int .i64 t299, .string t300] 23 (0, 0)) (by (with_reducible repeat (first | refine qac ?_ _ | refine qag ?_ | refine qab ?_ _)); exact BK302.out)) : gb302 ≠ gb307)); have n9_ := Aside0.mk ((by rw [hg]; exact Nat.ne_of_gt (blk_lt (g := gb302) (o := .cells #[.string t298, .int .i64 t299, .string t300] 23 (0, 0)) (by (with_reducible repeat (first | refine qac ?_ _ | refine qag ?_ | refine qab ?_ _)); exact BK302.out)) : gb307 ≠ gb302)); clear BK295; clear BK302; clear HB; have BK295 := n0_; have BK302 := n1_; have HB := n2_; have BK307 := n3_; have GW307 := n4_; have GE307 := n5_; have NB295_307 := n6_; have NB307_295 := n7_; have NB302_307 := n8_; have NB307_302 := n9_; clear n0_ n1_ n2_ n3_ n4_ n5_ n6_ n7_ n8_ n9_; clear hb hbox hg; have hnb28 := NB307_295.out; have hnc28 := NB295_307.out; have hnb29 := NB307_302.out; have hnc29 := NB302_307.out; have hcz30_0 : w27.cell? ⟨gb307, 0, none⟩ = some (.string (⟨#[]⟩ : ByteArray)) := (qai BK307.out 0).trans rfl; have hcz30_1 : w27.cell? ⟨gb307, 1, none⟩ = some (.int .i64 0) := (qai BK307.out 1).trans rfl; have hcz30_2 : w27.cell? ⟨gb307, 2, none⟩ = some (.string (⟨#[]⟩ : ByteArray)) := (qai BK307.out 2).trans rfl; have hfz30_0 := qah BK307.out 0; have hfz30_1 := qah BK307.out 1; have hfz30_2 := qah BK307.out 2))
              have n0_ : Aside0 ((((w27.setCell ⟨gb307, 0, none⟩ (.string t303)).setCell ⟨gb307, 1, none⟩ (.int .i64 t304)).setCell ⟨gb307, 2, none⟩ (.string t305)).heap[gb295]? = some (.cells #[.string a1_0, .int .i64 a1_1, .string a1_2] 23 (0, 0))) := ⟨by (with_reducible repeat (first | refine qac ?_ _ | refine qag ?_ | refine qab ?_ _)); refine blk_far ?_ NB295_307.out _; (with_reducible repeat (first | refine qac ?_ _ | refine qag ?_ | refine qab ?_ _)); refine blk_far ?_ NB295_307.out _; (with_reducible repeat (first | refine qac ?_ _ | refine qag ?_ | refine qab ?_ _)); refine blk_far ?_ NB295_307.out _; (with_reducible repeat (first | refine qac ?_ _ | refine qag ?_ | refine qab ?_ _)); exact BK295.out⟩
              have n1_ : Aside0 ((((w27.setCell ⟨gb307, 0, none⟩ (.string t303)).setCell ⟨gb307, 1, none⟩ (.int .i64 t304)).setCell ⟨gb307, 2, none⟩ (.string t305)).heap[gb302]? = some (.cells #[.string t298, .int .i64 t299, .string t300] 23 (0, 0))) := ⟨by (with_reducible repeat (first | refine qac ?_ _ | refine qag ?_ | refine qab ?_ _)); refine blk_far ?_ NB302_307.out _; (with_reducible repeat (first | refine qac ?_ _ | refine qag ?_ | refine qab ?_ _)); refine blk_far ?_ NB302_307.out _; (with_reducible repeat (first | refine qac ?_ _ | refine qag ?_ | refine qab ?_ _)); refine blk_far ?_ NB302_307.out _; (with_reducible repeat (first | refine qac ?_ _ | refine qag ?_ | refine qab ?_ _)); exact BK302.out⟩
              have n2_ : Aside0 ((((w27.setCell ⟨gb307, 0, none⟩ (.string t303)).setCell ⟨gb307, 1, none⟩ (.int .i64 t304)).setCell ⟨gb307, 2, none⟩ (.string t305)).heap[gb307]? = some (.cells #[.string t303, .int .i64 t304, .string t305] 23 (0, 0))) := ⟨by (with_reducible repeat (first | refine qac ?_ _ | refine qag ?_ | refine qab ?_ _)); refine blk_put (cs := #[.string t303, .int .i64 t304, .string (⟨#[]⟩ : ByteArray)]) ?_ 2 _ rfl; (with_reducible repeat (first | refine qac ?_ _ | refine qag ?_ | refine qab ?_ _)); refine blk_put (cs := #[.string t303, .int .i64 0, .string (⟨#[]⟩ : ByteArray)]) ?_ 1 _ rfl; (with_reducible repeat (first | refine qac ?_ _ | refine qag ?_ | refine qab ?_ _)); refine blk_put (cs := #[.string (⟨#[]⟩ : ByteArray), .int .i64 0, .string (⟨#[]⟩ : ByteArray)]) ?_ 0 _ rfl; (with_reducible repeat (first | refine qac ?_ _ | refine qag ?_ | refine qab ?_ _)); exact BK307.out⟩
              have n3_ : Aside0 (Below w.heap.size w (((w27.setCell ⟨gb307, 0, none⟩ (.string t303)).setCell ⟨gb307, 1, none⟩ (.int .i64 t304)).setCell ⟨gb307, 2, none⟩ (.string t305))) := ⟨by repeat (first | (with_reducible first | exact HB.out | apply qaf | apply qaa | apply qae | refine qad ?_ GE295.out | refine qad ?_ GE302.out | refine qad ?_ GE307.out) | exact HB.out)⟩
              (try clear BK295)
              (try clear BK302)
              (try clear BK307)
              (try clear HB)
              generalize (((w27.setCell ⟨gb307, 0, none⟩ (.string t303)).setCell ⟨gb307, 1, none⟩ (.int .i64 t304)).setCell ⟨gb307, 2, none⟩ (.string t305)) = w31 at n0_ n1_ n2_ n3_ ⊢
              have BK295 := n0_
              have BK302 := n1_
              have BK307 := n2_
              have HB := n3_
              clear n0_ n1_ n2_ n3_
              have n0_ := Aside0.mk (qag BK295.out)
              have n1_ := Aside0.mk (qag BK302.out)
              have n2_ := Aside0.mk (qag BK307.out)
              have n3_ := Aside0.mk (qae HB.out)
              clear BK295
              clear BK302
              clear BK307
              clear HB
              have BK295 := n0_
              have BK302 := n1_
              have BK307 := n2_
              have HB := n3_
              clear n0_ n1_ n2_ n3_
              refine start_ (n := 23) (S := fun w' => w'.cell? ⟨gb302, 0, none⟩ = some (.string t298) ∧ w'.cell? ⟨gb302, 1, none⟩ = some (.int .i64 t299) ∧ w'.cell? ⟨gb302, 2, none⟩ = some (.string t300) ∧ w'.cell? ⟨gb307, 0, none⟩ = some (.string t303) ∧ w'.cell? ⟨gb307, 1, none⟩ = some (.int .i64 t304) ∧ w'.cell? ⟨gb307, 2, none⟩ = some (.string t305) ∧ w'.cell? ⟨gb295, 0, none⟩ = some (.string a1_0) ∧ w'.cell? ⟨gb295, 1, none⟩ = some (.int .i64 a1_1) ∧ w'.cell? ⟨gb295, 2, none⟩ = some (.string a1_2)) (ds := []) #[false, false, false, false, false, false, false, false, false, false, false, false, false, false, false, false, false, false, false, false, false, false, false] (by kernel_rfl) rfl rfl ⟨(qai BK302.out 0).trans rfl, (qai BK302.out 1).trans rfl, (qai BK302.out 2).trans rfl, (qai BK307.out 0).trans rfl, (qai BK307.out 1).trans rfl, (qai BK307.out 2).trans rfl, (qai BK295.out 0).trans rfl, (qai BK295.out 1).trans rfl, (qai BK295.out 2).trans rfl⟩ (fun hHeld => ?_); refine with_tabW keelsonlaw3_RelationParses.tab7 keelsonlaw3_RelationParses.bits7 (fun HT_ HW_ => ?_)
              generalize w31.drew = w32 at BK295 BK302 BK307 HB hHeld ⊢
              refine take_ (i := 0) (N := some 36) (v := ?_) (a' := ?_) #[true, false, false, false, false, false, false, false, false, false, false, false, false, false, false, false, false, false, false, false, false, false, false] rfl rfl (take_ofW HT_.out HW_.out (by kernel_rfl)) (fun _ _ _ h => h) (Or.inl ⟨by rfl, ?_⟩) hHeld ?_ ?_
              rotate_left
              · rintro w' ⟨s0, s1, s2, s3, s4, s5, s6, s7, s8⟩
                go_simp
                with_reducible rfl
              rotate_left
              · simp only [Act.put, List.setIfInBounds_toArray, List.set_cons_zero, List.set_cons_succ, i64_w, i32_w]
                rfl
              refine take_ (i := 1) (N := some 37) (v := ?_) (a' := ?_) #[true, true, false, false, false, false, false, false, false, false, false, false, false, false, false, false, false, false, false, false, false, false, false] rfl rfl (take_ofW HT_.out HW_.out (by kernel_rfl)) (fun _ _ _ h => h) (Or.inl ⟨by rfl, ?_⟩) hHeld ?_ ?_
              rotate_left
              · rintro w' ⟨s0, s1, s2, s3, s4, s5, s6, s7, s8⟩
                go_simp
                with_reducible rfl
              rotate_left
              · simp only [Act.put, List.setIfInBounds_toArray, List.set_cons_zero, List.set_cons_succ, i64_w, i32_w]
                rfl
              refine pure_ (i := 2) (N := some 38) (v := ?_) (a' := ?_) #[true, true, true, false, false, false, false, false, false, false, false, false, false, false, false, false, false, false, false, false, false, false, false] rfl rfl (any_of HT_.out (by kernel_rfl)) (fun _ _ _ h => h) (Or.inl ⟨by rfl, ?_⟩) ?_ ?_
              rotate_left
              · intro w'
                go_simp
                with_reducible rfl
              rotate_left
              · simp only [Act.put, List.setIfInBounds_toArray, List.set_cons_zero, List.set_cons_succ, i64_w, i32_w]
                rfl
              refine pure_ (i := 3) (N := some 39) (v := ?_) (a' := ?_) #[true, true, true, true, false, false, false, false, false, false, false, false, false, false, false, false, false, false, false, false, false, false, false] rfl rfl (any_of HT_.out (by kernel_rfl)) (fun _ _ _ h => h) (Or.inl ⟨by rfl, ?_⟩) ?_ ?_
              rotate_left
              · intro w'
                go_simp
                with_reducible rfl
              rotate_left
              · simp only [Act.put, List.setIfInBounds_toArray, List.set_cons_zero, List.set_cons_succ, i64_w, i32_w]
                rfl
              refine pure_ (i := 4) (N := some 40) (v := ?_) (a' := ?_) #[true, true, true, true, true, false, false, false, false, false, false, false, false, false, false, false, false, false, false, false, false, false, false] rfl rfl (any_of HT_.out (by kernel_rfl)) (fun _ _ _ h => h) (Or.inl ⟨by rfl, ?_⟩) ?_ ?_
              rotate_left
              · intro w'
                go_simp
                with_reducible rfl
              rotate_left
              · simp only [Act.put, List.setIfInBounds_toArray, List.set_cons_zero, List.set_cons_succ, i64_w, i32_w]
                rfl
              refine pure_ (i := 5) (N := some 41) (v := ?_) (a' := ?_) #[true, true, true, true, true, true, false, false, false, false, false, false, false, false, false, false, false, false, false, false, false, false, false] rfl rfl (any_of HT_.out (by kernel_rfl)) (fun _ _ _ h => h) (Or.inl ⟨by rfl, ?_⟩) ?_ ?_
              rotate_left
              · intro w'
                go_simp
                with_reducible rfl
              rotate_left
              · simp only [Act.put, List.setIfInBounds_toArray, List.set_cons_zero, List.set_cons_succ, i64_w, i32_w]
                rfl
              refine pure_ (i := 6) (N := some 42) (v := ?_) (a' := ?_) #[true, true, true, true, true, true, true, false, false, false, false, false, false, false, false, false, false, false, false, false, false, false, false] rfl rfl (any_of HT_.out (by kernel_rfl)) (fun _ _ _ h => h) (Or.inl ⟨by rfl, ?_⟩) ?_ ?_
              rotate_left
              · intro w'
                go_simp
                with_reducible rfl
              rotate_left
              · simp only [Act.put, List.setIfInBounds_toArray, List.set_cons_zero, List.set_cons_succ, i64_w, i32_w]
                rfl
              refine pure_ (i := 7) (N := some 43) (v := ?_) (a' := ?_) #[true, true, true, true, true, true, true, true, false, false, false, false, false, false, false, false, false, false, false, false, false, false, false] rfl rfl (any_of HT_.out (by kernel_rfl)) (fun _ _ _ h => h) (Or.inl ⟨by rfl, ?_⟩) ?_ ?_
              rotate_left
              · intro w'
                go_simp
                with_reducible rfl
              rotate_left
              · simp only [Act.put, List.setIfInBounds_toArray, List.set_cons_zero, List.set_cons_succ, i64_w, i32_w]
                rfl
              refine pure_ (i := 8) (N := some 44) (v := ?_) (a' := ?_) #[true, true, true, true, true, true, true, true, true, false, false, false, false, false, false, false, false, false, false, false, false, false, false] rfl rfl (any_of HT_.out (by kernel_rfl)) (fun _ _ _ h => h) (Or.inl ⟨by rfl, ?_⟩) ?_ ?_
              rotate_left
              · intro w'
                go_simp
                with_reducible rfl
              rotate_left
              · simp only [Act.put, List.setIfInBounds_toArray, List.set_cons_zero, List.set_cons_succ, i64_w, i32_w]
                rfl
              refine take_ (i := 9) (N := some 45) (v := ?_) (a' := ?_) #[true, true, true, true, true, true, true, true, true, true, false, false, false, false, false, false, false, false, false, false, false, false, false] rfl rfl (take_ofW HT_.out HW_.out (by kernel_rfl)) (fun _ _ _ h => h) (Or.inl ⟨by rfl, ?_⟩) hHeld ?_ ?_
              rotate_left
              · rintro w' ⟨s0, s1, s2, s3, s4, s5, s6, s7, s8⟩
                go_simp
                with_reducible rfl
              rotate_left
              · simp only [Act.put, List.setIfInBounds_toArray, List.set_cons_zero, List.set_cons_succ, i64_w, i32_w]
                rfl
              refine take_ (i := 11) (N := some 47) (v := ?_) (a' := ?_) #[true, true, true, true, true, true, true, true, true, true, false, true, false, false, false, false, false, false, false, false, false, false, false] rfl rfl (take_ofW HT_.out HW_.out (by kernel_rfl)) (fun _ _ _ h => h) (Or.inl ⟨by rfl, ?_⟩) hHeld ?_ ?_
              rotate_left
              · rintro w' ⟨s0, s1, s2, s3, s4, s5, s6, s7, s8⟩
                go_simp
                with_reducible rfl
              rotate_left
              · simp only [Act.put, List.setIfInBounds_toArray, List.set_cons_zero, List.set_cons_succ, i64_w, i32_w]
                rfl
              refine one_ (i := 10) (N := some 46) #[true, true, true, true, true, true, true, true, true, true, true, true, false, false, false, false, false, false, false, false, false, false, false] rfl rfl (one_of HT_.out (by kernel_rfl)) (by decide) (fun K hK => ?_)
              refine goes_ Tryz.func8 (by kernel_rfl) rfl #[.agg #[.string a1_0, .int .i64 a1_1, .string a1_2]] (by rfl) rfl rfl (by (try simp only [List.map_toArray, List.map_cons, List.map_nil]); first | done | rfl | (simp only [List.length_drop, List.length_take]; rfl)) ?_
              with_reducible refine (relation_Right.calls kj4 a1_0 a1_1 a1_2 t308 _ (by first | exact hG | exact GL.below hG (by repeat (first | (with_reducible first | exact HB.out | apply qaf | apply qaa | apply qae | refine qad ?_ GE295.out | refine qad ?_ GE302.out | refine qad ?_ GE307.out) | exact HB.out)))  A17.out).mono ?_
              rintro e w33 ⟨rfl, hb⟩
              refine ⟨_, rfl, ?_⟩
              have n0_ := Aside0.mk (qaj (g := gb295) (o := .cells #[.string a1_0, .int .i64 a1_1, .string a1_2] 23 (0, 0)) (by (with_reducible repeat (first | refine qac ?_ _ | refine qag ?_ | refine qab ?_ _)); exact BK295.out) hb)
              have n1_ := Aside0.mk (qaj (g := gb302) (o := .cells #[.string t298, .int .i64 t299, .string t300] 23 (0, 0)) (by (with_reducible repeat (first | refine qac ?_ _ | refine qag ?_ | refine qab ?_ _)); exact BK302.out) hb)
              have n2_ := Aside0.mk (qaj (g := gb307) (o := .cells #[.string t303, .int .i64 t304, .string t305] 23 (0, 0)) (by (with_reducible repeat (first | refine qac ?_ _ | refine qag ?_ | refine qab ?_ _)); exact BK307.out) hb)
              have n3_ := Aside0.mk (qak (by repeat (first | (with_reducible first | exact HB.out | apply qaf | apply qaa | apply qae | refine qad ?_ GE295.out | refine qad ?_ GE302.out | refine qad ?_ GE307.out) | exact HB.out)) hb)
              clear BK295
              clear BK302
              clear BK307
              clear HB
              have BK295 := n0_
              have BK302 := n1_
              have BK307 := n2_
              have HB := n3_
              clear n0_ n1_ n2_ n3_
              (try clear hb)
              (try clear hb2)
              (try clear hk)
              (try clear hi)
              refine hK.out _ _ ⟨(qai BK302.out 0).trans rfl, (qai BK302.out 1).trans rfl, (qai BK302.out 2).trans rfl, (qai BK307.out 0).trans rfl, (qai BK307.out 1).trans rfl, (qai BK307.out 2).trans rfl, (qai BK295.out 0).trans rfl, (qai BK295.out 1).trans rfl, (qai BK295.out 2).trans rfl⟩ (fun hHeld => ?_)
              clear hK K
              refine norm_ (a' := ?_) ?_ ?_
              rotate_left
              · show Act.put _ (some 46) _ = _
                simp only [Act.put, List.setIfInBounds_toArray, List.set_cons_zero, List.set_cons_succ, i64_w, i32_w]
                rfl
              refine one_ (i := 12) (N := some 48) #[true, true, true, true, true, true, true, true, true, true, true, true, true, false, false, false, false, false, false, false, false, false, false] rfl rfl (one_of HT_.out (by kernel_rfl)) (by decide) (fun K hK => ?_)
              refine goes_ Tryz.func9 (by kernel_rfl) rfl #[.agg #[.string a1_0, .int .i64 a1_1, .string a1_2]] (by rfl) rfl rfl (by (try simp only [List.map_toArray, List.map_cons, List.map_nil]); first | done | rfl | (simp only [List.length_drop, List.length_take]; rfl)) ?_
              with_reducible refine (keelsonref3_Right.calls kj4 a1_0 a1_1 a1_2 t309 _ (by first | exact hG | exact GL.below hG (by repeat (first | (with_reducible first | exact HB.out | apply qaf | apply qaa | apply qae | refine qad ?_ GE295.out | refine qad ?_ GE302.out | refine qad ?_ GE307.out) | exact HB.out)))  A18.out).mono ?_
              rintro e w34 ⟨rfl, hb⟩
              refine ⟨_, rfl, ?_⟩
              have n0_ := Aside0.mk (qaj (g := gb295) (o := .cells #[.string a1_0, .int .i64 a1_1, .string a1_2] 23 (0, 0)) (by (with_reducible repeat (first | refine qac ?_ _ | refine qag ?_ | refine qab ?_ _)); exact BK295.out) hb)
              have n1_ := Aside0.mk (qaj (g := gb302) (o := .cells #[.string t298, .int .i64 t299, .string t300] 23 (0, 0)) (by (with_reducible repeat (first | refine qac ?_ _ | refine qag ?_ | refine qab ?_ _)); exact BK302.out) hb)
              have n2_ := Aside0.mk (qaj (g := gb307) (o := .cells #[.string t303, .int .i64 t304, .string t305] 23 (0, 0)) (by (with_reducible repeat (first | refine qac ?_ _ | refine qag ?_ | refine qab ?_ _)); exact BK307.out) hb)
              have n3_ := Aside0.mk (qak (by repeat (first | (with_reducible first | exact HB.out | apply qaf | apply qaa | apply qae | refine qad ?_ GE295.out | refine qad ?_ GE302.out | refine qad ?_ GE307.out) | exact HB.out)) hb)
              clear BK295
              clear BK302
              clear BK307
              clear HB
              have BK295 := n0_
              have BK302 := n1_
              have BK307 := n2_
              have HB := n3_
              clear n0_ n1_ n2_ n3_
              (try clear hb)
              (try clear hb2)
              (try clear hk)
              (try clear hi)
              refine hK.out _ _ ⟨(qai BK302.out 0).trans rfl, (qai BK302.out 1).trans rfl, (qai BK302.out 2).trans rfl, (qai BK307.out 0).trans rfl, (qai BK307.out 1).trans rfl, (qai BK307.out 2).trans rfl, (qai BK295.out 0).trans rfl, (qai BK295.out 1).trans rfl, (qai BK295.out 2).trans rfl⟩ (fun hHeld => ?_)
              clear hK K
              refine norm_ (a' := ?_) ?_ ?_
              rotate_left
              · show Act.put _ (some 48) _ = _
                simp only [Act.put, List.setIfInBounds_toArray, List.set_cons_zero, List.set_cons_succ, i64_w, i32_w]
                rfl
              refine pure_ (i := 13) (N := some 49) (v := ?_) (a' := ?_) #[true, true, true, true, true, true, true, true, true, true, true, true, true, true, false, false, false, false, false, false, false, false, false] rfl rfl (any_of HT_.out (by kernel_rfl)) (fun _ _ _ h => h) (Or.inl ⟨by rfl, ?_⟩) ?_ ?_
              rotate_left
              · intro w'
                go_simp
                with_reducible rfl
              rotate_left
              · simp only [Act.put, List.setIfInBounds_toArray, List.set_cons_zero, List.set_cons_succ, i64_w, i32_w]
                rfl
              refine pure_ (i := 14) (N := some 50) (v := ?_) (a' := ?_) #[true, true, true, true, true, true, true, true, true, true, true, true, true, true, true, false, false, false, false, false, false, false, false] rfl rfl (any_of HT_.out (by kernel_rfl)) (fun _ _ _ h => h) (Or.inl ⟨by rfl, ?_⟩) ?_ ?_
              rotate_left
              · intro w'
                go_simp
                with_reducible rfl
              rotate_left
              · simp only [Act.put, List.setIfInBounds_toArray, List.set_cons_zero, List.set_cons_succ, i64_w, i32_w]
                rfl
              refine pure_ (i := 15) (N := some 51) (v := ?_) (a' := ?_) #[true, true, true, true, true, true, true, true, true, true, true, true, true, true, true, true, false, false, false, false, false, false, false] rfl rfl (any_of HT_.out (by kernel_rfl)) (fun _ _ _ h => h) (Or.inl ⟨by rfl, ?_⟩) ?_ ?_
              rotate_left
              · intro w'
                go_simp
                with_reducible rfl
              rotate_left
              · simp only [Act.put, List.setIfInBounds_toArray, List.set_cons_zero, List.set_cons_succ, i64_w, i32_w]
                rfl
              refine take_ (i := 16) (N := some 52) (v := ?_) (a' := ?_) #[true, true, true, true, true, true, true, true, true, true, true, true, true, true, true, true, true, false, false, false, false, false, false] rfl rfl (take_ofW HT_.out HW_.out (by kernel_rfl)) (fun _ _ _ h => h) (Or.inl ⟨by rfl, ?_⟩) hHeld ?_ ?_
              rotate_left
              · rintro w' ⟨s0, s1, s2, s3, s4, s5, s6, s7, s8⟩
                go_simp
                with_reducible rfl
              rotate_left
              · simp only [Act.put, List.setIfInBounds_toArray, List.set_cons_zero, List.set_cons_succ, i64_w, i32_w]
                rfl
              refine take_ (i := 18) (N := some 54) (v := ?_) (a' := ?_) #[true, true, true, true, true, true, true, true, true, true, true, true, true, true, true, true, true, false, true, false, false, false, false] rfl rfl (take_ofW HT_.out HW_.out (by kernel_rfl)) (fun _ _ _ h => h) (Or.inl ⟨by rfl, ?_⟩) hHeld ?_ ?_
              rotate_left
              · rintro w' ⟨s0, s1, s2, s3, s4, s5, s6, s7, s8⟩
                go_simp
                with_reducible rfl
              rotate_left
              · simp only [Act.put, List.setIfInBounds_toArray, List.set_cons_zero, List.set_cons_succ, i64_w, i32_w]
                rfl
              refine one_ (i := 17) (N := some 53) #[true, true, true, true, true, true, true, true, true, true, true, true, true, true, true, true, true, true, true, false, false, false, false] rfl rfl (one_of HT_.out (by kernel_rfl)) (by decide) (fun K hK => ?_)
              refine goes_ Tryz.func10 (by kernel_rfl) rfl #[.agg #[.string a1_0, .int .i64 a1_1, .string a1_2]] (by rfl) rfl rfl (by (try simp only [List.map_toArray, List.map_cons, List.map_nil]); first | done | rfl | (simp only [List.length_drop, List.length_take]; rfl)) ?_
              with_reducible refine (relation_Print.calls kj4 a1_0 a1_1 a1_2 t310 _ (by first | exact hG | exact GL.below hG (by repeat (first | (with_reducible first | exact HB.out | apply qaf | apply qaa | apply qae | refine qad ?_ GE295.out | refine qad ?_ GE302.out | refine qad ?_ GE307.out) | exact HB.out)))  A20.out).mono ?_
              rintro e w35 ⟨rfl, hb⟩
              refine ⟨_, rfl, ?_⟩
              have n0_ := Aside0.mk (qaj (g := gb295) (o := .cells #[.string a1_0, .int .i64 a1_1, .string a1_2] 23 (0, 0)) (by (with_reducible repeat (first | refine qac ?_ _ | refine qag ?_ | refine qab ?_ _)); exact BK295.out) hb)
              have n1_ := Aside0.mk (qaj (g := gb302) (o := .cells #[.string t298, .int .i64 t299, .string t300] 23 (0, 0)) (by (with_reducible repeat (first | refine qac ?_ _ | refine qag ?_ | refine qab ?_ _)); exact BK302.out) hb)
              have n2_ := Aside0.mk (qaj (g := gb307) (o := .cells #[.string t303, .int .i64 t304, .string t305] 23 (0, 0)) (by (with_reducible repeat (first | refine qac ?_ _ | refine qag ?_ | refine qab ?_ _)); exact BK307.out) hb)
              have n3_ := Aside0.mk (qak (by repeat (first | (with_reducible first | exact HB.out | apply qaf | apply qaa | apply qae | refine qad ?_ GE295.out | refine qad ?_ GE302.out | refine qad ?_ GE307.out) | exact HB.out)) hb)
              clear BK295
              clear BK302
              clear BK307
              clear HB
              have BK295 := n0_
              have BK302 := n1_
              have BK307 := n2_
              have HB := n3_
              clear n0_ n1_ n2_ n3_
              (try clear hb)
              (try clear hb2)
              (try clear hk)
              (try clear hi)
              refine hK.out _ _ ⟨(qai BK302.out 0).trans rfl, (qai BK302.out 1).trans rfl, (qai BK302.out 2).trans rfl, (qai BK307.out 0).trans rfl, (qai BK307.out 1).trans rfl, (qai BK307.out 2).trans rfl, (qai BK295.out 0).trans rfl, (qai BK295.out 1).trans rfl, (qai BK295.out 2).trans rfl⟩ (fun hHeld => ?_)
              clear hK K
              refine norm_ (a' := ?_) ?_ ?_
              rotate_left
              · show Act.put _ (some 53) _ = _
                simp only [Act.put, List.setIfInBounds_toArray, List.set_cons_zero, List.set_cons_succ, i64_w, i32_w]
                rfl
              refine one_ (i := 19) (N := some 55) #[true, true, true, true, true, true, true, true, true, true, true, true, true, true, true, true, true, true, true, true, false, false, false] rfl rfl (one_of HT_.out (by kernel_rfl)) (by decide) (fun K hK => ?_)
              refine goes_ Tryz.func11 (by kernel_rfl) rfl #[.agg #[.string a1_0, .int .i64 a1_1, .string a1_2]] (by rfl) rfl rfl (by (try simp only [List.map_toArray, List.map_cons, List.map_nil]); first | done | rfl | (simp only [List.length_drop, List.length_take]; rfl)) ?_
              with_reducible refine (keelsonref3_Print.calls kj4 a1_0 a1_1 a1_2 t311 _ (by first | exact hG | exact GL.below hG (by repeat (first | (with_reducible first | exact HB.out | apply qaf | apply qaa | apply qae | refine qad ?_ GE295.out | refine qad ?_ GE302.out | refine qad ?_ GE307.out) | exact HB.out)))  A21.out).mono ?_
              rintro e w36 ⟨rfl, hb⟩
              refine ⟨_, rfl, ?_⟩
              have n0_ := Aside0.mk (qaj (g := gb295) (o := .cells #[.string a1_0, .int .i64 a1_1, .string a1_2] 23 (0, 0)) (by (with_reducible repeat (first | refine qac ?_ _ | refine qag ?_ | refine qab ?_ _)); exact BK295.out) hb)
              have n1_ := Aside0.mk (qaj (g := gb302) (o := .cells #[.string t298, .int .i64 t299, .string t300] 23 (0, 0)) (by (with_reducible repeat (first | refine qac ?_ _ | refine qag ?_ | refine qab ?_ _)); exact BK302.out) hb)
              have n2_ := Aside0.mk (qaj (g := gb307) (o := .cells #[.string t303, .int .i64 t304, .string t305] 23 (0, 0)) (by (with_reducible repeat (first | refine qac ?_ _ | refine qag ?_ | refine qab ?_ _)); exact BK307.out) hb)
              have n3_ := Aside0.mk (qak (by repeat (first | (with_reducible first | exact HB.out | apply qaf | apply qaa | apply qae | refine qad ?_ GE295.out | refine qad ?_ GE302.out | refine qad ?_ GE307.out) | exact HB.out)) hb)
              clear BK295
              clear BK302
              clear BK307
              clear HB
              have BK295 := n0_
              have BK302 := n1_
              have BK307 := n2_
              have HB := n3_
              clear n0_ n1_ n2_ n3_
              (try clear hb)
              (try clear hb2)
              (try clear hk)
              (try clear hi)
              refine hK.out _ _ ⟨(qai BK302.out 0).trans rfl, (qai BK302.out 1).trans rfl, (qai BK302.out 2).trans rfl, (qai BK307.out 0).trans rfl, (qai BK307.out 1).trans rfl, (qai BK307.out 2).trans rfl, (qai BK295.out 0).trans rfl, (qai BK295.out 1).trans rfl, (qai BK295.out 2).trans rfl⟩ (fun hHeld => ?_)
              clear hK K
              refine norm_ (a' := ?_) ?_ ?_
              rotate_left
              · show Act.put _ (some 55) _ = _
                simp only [Act.put, List.setIfInBounds_toArray, List.set_cons_zero, List.set_cons_succ, i64_w, i32_w]
                rfl
              refine pure_ (i := 20) (N := some 56) (v := ?_) (a' := ?_) #[true, true, true, true, true, true, true, true, true, true, true, true, true, true, true, true, true, true, true, true, true, false, false] rfl rfl (any_of HT_.out (by kernel_rfl)) (fun _ _ _ h => h) (Or.inl ⟨by rfl, ?_⟩) ?_ ?_
              rotate_left
              · intro w'
                go_simp
                with_reducible rfl
              rotate_left
              · simp only [Act.put, List.setIfInBounds_toArray, List.set_cons_zero, List.set_cons_succ, i64_w, i32_w]
                rfl
              refine pure_ (i := 21) (N := some 57) (v := ?_) (a' := ?_) #[true, true, true, true, true, true, true, true, true, true, true, true, true, true, true, true, true, true, true, true, true, true, false] rfl rfl (any_of HT_.out (by kernel_rfl)) (fun _ _ _ h => h) (Or.inl ⟨by rfl, ?_⟩) ?_ ?_
              rotate_left
              · intro w'
                go_simp
                with_reducible rfl
              rotate_left
              · simp only [Act.put, List.setIfInBounds_toArray, List.set_cons_zero, List.set_cons_succ, i64_w, i32_w]
                rfl
              refine pure_ (i := 22) (N := some 4) (v := ?_) (a' := ?_) #[true, true, true, true, true, true, true, true, true, true, true, true, true, true, true, true, true, true, true, true, true, true, true] rfl rfl (any_of HT_.out (by kernel_rfl)) (fun _ _ _ h => h) (Or.inl ⟨by rfl, ?_⟩) ?_ ?_
              rotate_left
              · intro w'
                go_simp
                with_reducible rfl
              rotate_left
              · simp only [Act.put, List.setIfInBounds_toArray, List.set_cons_zero, List.set_cons_succ, i64_w, i32_w]
                rfl
              refine done_ (done_of HT_.out (by kernel_rfl)) ?_
              try go_wp2
              go_ret
              exact ⟨by first | rfl | (simp [qan, qao] <;> rfl) | (simp [*, qan, qao] <;> rfl), by repeat (first | (with_reducible first | exact HB.out | apply qaf | apply qaa | apply qae | refine qad ?_ GE295.out | refine qad ?_ GE302.out | refine qad ?_ GE307.out) | exact HB.out)⟩
            · rw [if_neg c19] at H
              have c19b0 : (t308 == t309) = false := by simpa using c19
              (try (have c19b1 : decide (t308 = t309) = false := by simpa using c19))
              (try (have c19b2 : (t308 == t309) = false := by simpa using c19))
              (try (have c19b3 : ¬ (t308 = t309) := by simpa using c19))
              clear c19
              obtain rfl := Option.some.inj H
              try go_wp2_with (first | ((with_reducible refine qam (f := 6) rfl ?_); refine goesL_ (some 28) rfl rfl Tryz.func6 (by kernel_rfl) rfl #[.string a0] rfl (by (try simp only [List.map_toArray, List.map_cons, List.map_nil]); first | done | rfl | (simp only [List.length_drop, List.length_take]; rfl)) ?_; (with_reducible refine (relation_Parse.calls kj4 a0 t298 t299 t300 t301 _ (by first | exact hG | exact GL.below hG (by repeat (first | (with_reducible first | exact HB.out | apply qaf | apply qaa | apply qae | refine qad ?_ GE295.out) | exact HB.out)))  A13.out).mono ?_); rintro e w37 ⟨rfl, hb⟩; refine ⟨_, rfl, ?_⟩; have n0_ := Aside0.mk (qaj (g := gb295) (o := .cells #[.string a1_0, .int .i64 a1_1, .string a1_2] 23 (0, 0)) (by (with_reducible repeat (first | refine qac ?_ _ | refine qag ?_ | refine qab ?_ _)); exact BK295.out) hb); have n1_ := Aside0.mk (qak (by repeat (first | (with_reducible first | exact HB.out | apply qaf | apply qaa | apply qae | refine qad ?_ GE295.out) | exact HB.out)) hb); clear BK295; clear HB; have BK295 := n0_; have HB := n1_; clear n0_ n1_; (try clear hb); (try clear hb2); (try clear hk); (try clear hi)) | ((with_reducible refine qar (N := 7) rfl ?_); (try (refine gate_guard (by rfl) ?_; dsimp only)); refine qaq ?hg (N := 7) ?hd (cs := #[.string (⟨#[]⟩ : ByteArray), .int .i64 0, .string (⟨#[]⟩ : ByteArray)]) (t := 23) ?hr ?_; (case hd => rfl); (case hg => rfl); (case hr => first | (go_simp; done) | (go_simp; rfl)); intro gb302 hg w38 hbox hb; have n0_ := Aside0.mk (qaj (g := gb295) (o := .cells #[.string a1_0, .int .i64 a1_1, .string a1_2] 23 (0, 0)) (by (with_reducible repeat (first | refine qac ?_ _ | refine qag ?_ | refine qab ?_ _)); exact BK295.out) hb); have n1_ := Aside0.mk (qak (by repeat (first | (with_reducible first | exact HB.out | apply qaf | apply qaa | apply qae | refine qad ?_ GE295.out) | exact HB.out)) hb); have n2_ := Aside0.mk (hbox); have n3_ := Aside0.mk ((by rw [hg]; exact (qap (by repeat (first | (with_reducible first | exact HB.out | apply qaf | apply qaa | apply qae | refine qad ?_ GE295.out) | exact HB.out))) : w.heap.size ≤ gb302)); have n4_ := Aside0.mk ((by rw [hg]; exact (qap (by repeat (first | (with_reducible first | exact HB.out | apply qaf | apply qaa | apply qae | refine qad ?_ GE295.out) | exact HB.out))) : w.heap.size ≤ gb302)); have n5_ := Aside0.mk ((by rw [hg]; exact Nat.ne_of_lt (blk_lt (g := gb295) (o := .cells #[.string a1_0, .int .i64 a1_1, .string a1_2] 23 (0, 0)) (by (with_reducible repeat (first | refine qac ?_ _ | refine qag ?_ | refine qab ?_ _)); exact BK295.out)) : gb295 ≠ gb302)); have n6_ := Aside0.mk ((by rw [hg]; exact Nat.ne_of_gt (blk_lt (g := gb295) (o := .cells #[.string a1_0, .int .i64 a1_1, .string a1_2] 23 (0, 0)) (by (with_reducible repeat (first | refine qac ?_ _ | refine qag ?_ | refine qab ?_ _)); exact BK295.out)) : gb302 ≠ gb295)); clear BK295; clear HB; have BK295 := n0_; have HB := n1_; have BK302 := n2_; have GW302 := n3_; have GE302 := n4_; have NB295_302 := n5_; have NB302_295 := n6_; clear n0_ n1_ n2_ n3_ n4_ n5_ n6_; clear hb hbox hg; have hnb39 := NB302_295.out; have hnc39 := NB295_302.out; have hcz40_0 : w38.cell? ⟨gb302, 0, none⟩ = some (.string (⟨#[]⟩ : ByteArray)) := (qai BK302.out 0).trans rfl; have hcz40_1 : w38.cell? ⟨gb302, 1, none⟩ = some (.int .i64 0) := (qai BK302.out 1).trans rfl; have hcz40_2 : w38.cell? ⟨gb302, 2, none⟩ = some (.string (⟨#[]⟩ : ByteArray)) := (qai BK302.out 2).trans rfl; have hfz40_0 := qah BK302.out 0; have hfz40_1 := qah BK302.out 1; have hfz40_2 := qah BK302.out 2) | ((with_reducible refine qam (f := 7) rfl ?_); refine goesL_ (some 33) rfl rfl Tryz.func7 (by kernel_rfl) rfl #[.string a0] rfl (by (try simp only [List.map_toArray, List.map_cons, List.map_nil]); first | done | rfl | (simp only [List.length_drop, List.length_take]; rfl)) ?_; (with_reducible refine (keelsonref3_Parse.calls kj4 a0 t303 t304 t305 t306 _ (by first | exact hG | exact GL.below hG (by repeat (first | (with_reducible first | exact HB.out | apply qaf | apply qaa | apply qae | refine qad ?_ GE295.out | refine qad ?_ GE302.out) | exact HB.out)))  A14.out).mono ?_); rintro e w41 ⟨rfl, hb⟩; refine ⟨_, rfl, ?_⟩; have n0_ := Aside0.mk (qaj (g := gb295) (o := .cells #[.string a1_0, .int .i64 a1_1, .string a1_2] 23 (0, 0)) (by (with_reducible repeat (first | refine qac ?_ _ | refine qag ?_ | refine qab ?_ _)); refine blk_far ?_ NB295_302.out _; (with_reducible repeat (first | refine qac ?_ _ | refine qag ?_ | refine qab ?_ _)); refine blk_far ?_ NB295_302.out _; (with_reducible repeat (first | refine qac ?_ _ | refine qag ?_ | refine qab ?_ _)); refine blk_far ?_ NB295_302.out _; (with_reducible repeat (first | refine qac ?_ _ | refine qag ?_ | refine qab ?_ _)); exact BK295.out) hb); have n1_ := Aside0.mk (qaj (g := gb302) (o := .cells #[.string t298, .int .i64 t299, .string t300] 23 (0, 0)) (by (with_reducible repeat (first | refine qac ?_ _ | refine qag ?_ | refine qab ?_ _)); refine blk_put (cs := #[.string t298, .int .i64 t299, .string (⟨#[]⟩ : ByteArray)]) ?_ 2 _ rfl; (with_reducible repeat (first | refine qac ?_ _ | refine qag ?_ | refine qab ?_ _)); refine blk_put (cs := #[.string t298, .int .i64 0, .string (⟨#[]⟩ : ByteArray)]) ?_ 1 _ rfl; (with_reducible repeat (first | refine qac ?_ _ | refine qag ?_ | refine qab ?_ _)); refine blk_put (cs := #[.string (⟨#[]⟩ : ByteArray), .int .i64 0, .string (⟨#[]⟩ : ByteArray)]) ?_ 0 _ rfl; (with_reducible repeat (first | refine qac ?_ _ | refine qag ?_ | refine qab ?_ _)); exact BK302.out) hb); have n2_ := Aside0.mk (qak (by repeat (first | (with_reducible first | exact HB.out | apply qaf | apply qaa | apply qae | refine qad ?_ GE295.out | refine qad ?_ GE302.out) | exact HB.out)) hb); clear BK295; clear BK302; clear HB; have BK295 := n0_; have BK302 := n1_; have HB := n2_; clear n0_ n1_ n2_; (try clear hb); (try clear hb2); (try clear hk); (try clear hi)) | ((with_reducible refine qar (N := 9) rfl ?_); (try (refine gate_guard (by rfl) ?_; dsimp only)); refine qaq ?hg (N := 9) ?hd (cs := #[.string (⟨#[]⟩ : ByteArray), .int .i64 0, .string (⟨#[]⟩ : ByteArray)]) (t := 23) ?hr ?_; (case hd => rfl); (case hg => rfl); (case hr => first | (go_simp; done) | (go_simp; rfl)); intro gb307 hg w42 hbox hb; have n0_ := Aside0.mk (qaj (g := gb295) (o := .cells #[.string a1_0, .int .i64 a1_1, .string a1_2] 23 (0, 0)) (by (with_reducible repeat (first | refine qac ?_ _ | refine qag ?_ | refine qab ?_ _)); exact BK295.out) hb); have n1_ := Aside0.mk (qaj (g := gb302) (o := .cells #[.string t298, .int .i64 t299, .string t300] 23 (0, 0)) (by (with_reducible repeat (first | refine qac ?_ _ | refine qag ?_ | refine qab ?_ _)); exact BK302.out) hb); have n2_ := Aside0.mk (qak (by repeat (first | (with_reducible first | exact HB.out | apply qaf | apply qaa | apply qae | refine qad ?_ GE295.out | refine qad ?_ GE302.out) | exact HB.out)) hb); have n3_ := Aside0.mk (hbox); have n4_ := Aside0.mk ((by rw [hg]; exact (qap (by repeat (first | (with_reducible first | exact HB.out | apply qaf | apply qaa | apply qae | refine qad ?_ GE295.out | refine qad ?_ GE302.out) | exact HB.out))) : w.heap.size ≤ gb307)); have n5_ := Aside0.mk ((by rw [hg]; exact (qap (by repeat (first | (with_reducible first | exact HB.out | apply qaf | apply qaa | apply qae | refine qad ?_ GE295.out | refine qad ?_ GE302.out) | exact HB.out))) : w.heap.size ≤ gb307)); have n6_ := Aside0.mk ((by rw [hg]; exact Nat.ne_of_lt (blk_lt (g := gb295) (o := .cells #[.string a1_0, .int .i64 a1_1, .string a1_2] 23 (0, 0)) (by (with_reducible repeat (first | refine qac ?_ _ | refine qag ?_ | refine qab ?_ _)); exact BK295.out)) : gb295 ≠ gb307)); have n7_ := Aside0.mk ((by rw [hg]; exact Nat.ne_of_gt (blk_lt (g := gb295) (o := .cells #[.string a1_0, .int .i64 a1_1, .string a1_2] 23 (0, 0)) (by (with_reducible repeat (first | refine qac ?_ _ | refine qag ?_ | refine qab ?_ _)); exact BK295.out)) : gb307 ≠ gb295)); have n8_ := Aside0.mk ((by rw [hg]; exact Nat.ne_of_lt (blk_lt (g := gb302) (o := .cells #[.string t298, .int .i64 t299, .string t300] 23 (0, 0)) (by (with_reducible repeat (first | refine qac ?_ _ | refine qag ?_ | refine qab ?_ _)); exact BK302.out)) : gb302 ≠ gb307)); have n9_ := Aside0.mk ((by rw [hg]; exact Nat.ne_of_gt (blk_lt (g := gb302) (o := .cells #[.string t298, .int .i64 t299, .string t300] 23 (0, 0)) (by (with_reducible repeat (first | refine qac ?_ _ | refine qag ?_ | refine qab ?_ _)); exact BK302.out)) : gb307 ≠ gb302)); clear BK295; clear BK302; clear HB; have BK295 := n0_; have BK302 := n1_; have HB := n2_; have BK307 := n3_; have GW307 := n4_; have GE307 := n5_; have NB295_307 := n6_; have NB307_295 := n7_; have NB302_307 := n8_; have NB307_302 := n9_; clear n0_ n1_ n2_ n3_ n4_ n5_ n6_ n7_ n8_ n9_; clear hb hbox hg; have hnb43 := NB307_295.out; have hnc43 := NB295_307.out; have hnb44 := NB307_302.out; have hnc44 := NB302_307.out; have hcz45_0 : w42.cell? ⟨gb307, 0, none⟩ = some (.string (⟨#[]⟩ : ByteArray)) := (qai BK307.out 0).trans rfl; have hcz45_1 : w42.cell? ⟨gb307, 1, none⟩ = some (.int .i64 0) := (qai BK307.out 1).trans rfl; have hcz45_2 : w42.cell? ⟨gb307, 2, none⟩ = some (.string (⟨#[]⟩ : ByteArray)) := (qai BK307.out 2).trans rfl; have hfz45_0 := qah BK307.out 0; have hfz45_1 := qah BK307.out 1; have hfz45_2 := qah BK307.out 2))
              have n0_ : Aside0 ((((w42.setCell ⟨gb307, 0, none⟩ (.string t303)).setCell ⟨gb307, 1, none⟩ (.int .i64 t304)).setCell ⟨gb307, 2, none⟩ (.string t305)).heap[gb295]? = some (.cells #[.string a1_0, .int .i64 a1_1, .string a1_2] 23 (0, 0))) := ⟨by (with_reducible repeat (first | refine qac ?_ _ | refine qag ?_ | refine qab ?_ _)); refine blk_far ?_ NB295_307.out _; (with_reducible repeat (first | refine qac ?_ _ | refine qag ?_ | refine qab ?_ _)); refine blk_far ?_ NB295_307.out _; (with_reducible repeat (first | refine qac ?_ _ | refine qag ?_ | refine qab ?_ _)); refine blk_far ?_ NB295_307.out _; (with_reducible repeat (first | refine qac ?_ _ | refine qag ?_ | refine qab ?_ _)); exact BK295.out⟩
              have n1_ : Aside0 ((((w42.setCell ⟨gb307, 0, none⟩ (.string t303)).setCell ⟨gb307, 1, none⟩ (.int .i64 t304)).setCell ⟨gb307, 2, none⟩ (.string t305)).heap[gb302]? = some (.cells #[.string t298, .int .i64 t299, .string t300] 23 (0, 0))) := ⟨by (with_reducible repeat (first | refine qac ?_ _ | refine qag ?_ | refine qab ?_ _)); refine blk_far ?_ NB302_307.out _; (with_reducible repeat (first | refine qac ?_ _ | refine qag ?_ | refine qab ?_ _)); refine blk_far ?_ NB302_307.out _; (with_reducible repeat (first | refine qac ?_ _ | refine qag ?_ | refine qab ?_ _)); refine blk_far ?_ NB302_307.out _; (with_reducible repeat (first | refine qac ?_ _ | refine qag ?_ | refine qab ?_ _)); exact BK302.out⟩
              have n2_ : Aside0 ((((w42.setCell ⟨gb307, 0, none⟩ (.string t303)).setCell ⟨gb307, 1, none⟩ (.int .i64 t304)).setCell ⟨gb307, 2, none⟩ (.string t305)).heap[gb307]? = some (.cells #[.string t303, .int .i64 t304, .string t305] 23 (0, 0))) := ⟨by (with_reducible repeat (first | refine qac ?_ _ | refine qag ?_ | refine qab ?_ _)); refine blk_put (cs := #[.string t303, .int .i64 t304, .string (⟨#[]⟩ : ByteArray)]) ?_ 2 _ rfl; (with_reducible repeat (first | refine qac ?_ _ | refine qag ?_ | refine qab ?_ _)); refine blk_put (cs := #[.string t303, .int .i64 0, .string (⟨#[]⟩ : ByteArray)]) ?_ 1 _ rfl; (with_reducible repeat (first | refine qac ?_ _ | refine qag ?_ | refine qab ?_ _)); refine blk_put (cs := #[.string (⟨#[]⟩ : ByteArray), .int .i64 0, .string (⟨#[]⟩ : ByteArray)]) ?_ 0 _ rfl; (with_reducible repeat (first | refine qac ?_ _ | refine qag ?_ | refine qab ?_ _)); exact BK307.out⟩
              have n3_ : Aside0 (Below w.heap.size w (((w42.setCell ⟨gb307, 0, none⟩ (.string t303)).setCell ⟨gb307, 1, none⟩ (.int .i64 t304)).setCell ⟨gb307, 2, none⟩ (.string t305))) := ⟨by repeat (first | (with_reducible first | exact HB.out | apply qaf | apply qaa | apply qae | refine qad ?_ GE295.out | refine qad ?_ GE302.out | refine qad ?_ GE307.out) | exact HB.out)⟩
              (try clear BK295)
              (try clear BK302)
              (try clear BK307)
              (try clear HB)
              generalize (((w42.setCell ⟨gb307, 0, none⟩ (.string t303)).setCell ⟨gb307, 1, none⟩ (.int .i64 t304)).setCell ⟨gb307, 2, none⟩ (.string t305)) = w46 at n0_ n1_ n2_ n3_ ⊢
              have BK295 := n0_
              have BK302 := n1_
              have BK307 := n2_
              have HB := n3_
              clear n0_ n1_ n2_ n3_
              have n0_ := Aside0.mk (qag BK295.out)
              have n1_ := Aside0.mk (qag BK302.out)
              have n2_ := Aside0.mk (qag BK307.out)
              have n3_ := Aside0.mk (qae HB.out)
              clear BK295
              clear BK302
              clear BK307
              clear HB
              have BK295 := n0_
              have BK302 := n1_
              have BK307 := n2_
              have HB := n3_
              clear n0_ n1_ n2_ n3_
              refine start_ (n := 23) (S := fun w' => w'.cell? ⟨gb302, 0, none⟩ = some (.string t298) ∧ w'.cell? ⟨gb302, 1, none⟩ = some (.int .i64 t299) ∧ w'.cell? ⟨gb302, 2, none⟩ = some (.string t300) ∧ w'.cell? ⟨gb307, 0, none⟩ = some (.string t303) ∧ w'.cell? ⟨gb307, 1, none⟩ = some (.int .i64 t304) ∧ w'.cell? ⟨gb307, 2, none⟩ = some (.string t305) ∧ w'.cell? ⟨gb295, 0, none⟩ = some (.string a1_0) ∧ w'.cell? ⟨gb295, 1, none⟩ = some (.int .i64 a1_1) ∧ w'.cell? ⟨gb295, 2, none⟩ = some (.string a1_2)) (ds := []) #[false, false, false, false, false, false, false, false, false, false, false, false, false, false, false, false, false, false, false, false, false, false, false] (by kernel_rfl) rfl rfl ⟨(qai BK302.out 0).trans rfl, (qai BK302.out 1).trans rfl, (qai BK302.out 2).trans rfl, (qai BK307.out 0).trans rfl, (qai BK307.out 1).trans rfl, (qai BK307.out 2).trans rfl, (qai BK295.out 0).trans rfl, (qai BK295.out 1).trans rfl, (qai BK295.out 2).trans rfl⟩ (fun hHeld => ?_); refine with_tabW keelsonlaw3_RelationParses.tab7 keelsonlaw3_RelationParses.bits7 (fun HT_ HW_ => ?_)
              generalize w46.drew = w47 at BK295 BK302 BK307 HB hHeld ⊢
              refine take_ (i := 0) (N := some 36) (v := ?_) (a' := ?_) #[true, false, false, false, false, false, false, false, false, false, false, false, false, false, false, false, false, false, false, false, false, false, false] rfl rfl (take_ofW HT_.out HW_.out (by kernel_rfl)) (fun _ _ _ h => h) (Or.inl ⟨by rfl, ?_⟩) hHeld ?_ ?_
              rotate_left
              · rintro w' ⟨s0, s1, s2, s3, s4, s5, s6, s7, s8⟩
                go_simp
                with_reducible rfl
              rotate_left
              · simp only [Act.put, List.setIfInBounds_toArray, List.set_cons_zero, List.set_cons_succ, i64_w, i32_w]
                rfl
              refine take_ (i := 1) (N := some 37) (v := ?_) (a' := ?_) #[true, true, false, false, false, false, false, false, false, false, false, false, false, false, false, false, false, false, false, false, false, false, false] rfl rfl (take_ofW HT_.out HW_.out (by kernel_rfl)) (fun _ _ _ h => h) (Or.inl ⟨by rfl, ?_⟩) hHeld ?_ ?_
              rotate_left
              · rintro w' ⟨s0, s1, s2, s3, s4, s5, s6, s7, s8⟩
                go_simp
                with_reducible rfl
              rotate_left
              · simp only [Act.put, List.setIfInBounds_toArray, List.set_cons_zero, List.set_cons_succ, i64_w, i32_w]
                rfl
              refine pure_ (i := 2) (N := some 38) (v := ?_) (a' := ?_) #[true, true, true, false, false, false, false, false, false, false, false, false, false, false, false, false, false, false, false, false, false, false, false] rfl rfl (any_of HT_.out (by kernel_rfl)) (fun _ _ _ h => h) (Or.inl ⟨by rfl, ?_⟩) ?_ ?_
              rotate_left
              · intro w'
                go_simp
                with_reducible rfl
              rotate_left
              · simp only [Act.put, List.setIfInBounds_toArray, List.set_cons_zero, List.set_cons_succ, i64_w, i32_w]
                rfl
              refine pure_ (i := 3) (N := some 39) (v := ?_) (a' := ?_) #[true, true, true, true, false, false, false, false, false, false, false, false, false, false, false, false, false, false, false, false, false, false, false] rfl rfl (any_of HT_.out (by kernel_rfl)) (fun _ _ _ h => h) (Or.inl ⟨by rfl, ?_⟩) ?_ ?_
              rotate_left
              · intro w'
                go_simp
                with_reducible rfl
              rotate_left
              · simp only [Act.put, List.setIfInBounds_toArray, List.set_cons_zero, List.set_cons_succ, i64_w, i32_w]
                rfl
              refine pure_ (i := 4) (N := some 40) (v := ?_) (a' := ?_) #[true, true, true, true, true, false, false, false, false, false, false, false, false, false, false, false, false, false, false, false, false, false, false] rfl rfl (any_of HT_.out (by kernel_rfl)) (fun _ _ _ h => h) (Or.inl ⟨by rfl, ?_⟩) ?_ ?_
              rotate_left
              · intro w'
                go_simp
                with_reducible rfl
              rotate_left
              · simp only [Act.put, List.setIfInBounds_toArray, List.set_cons_zero, List.set_cons_succ, i64_w, i32_w]
                rfl
              refine pure_ (i := 5) (N := some 41) (v := ?_) (a' := ?_) #[true, true, true, true, true, true, false, false, false, false, false, false, false, false, false, false, false, false, false, false, false, false, false] rfl rfl (any_of HT_.out (by kernel_rfl)) (fun _ _ _ h => h) (Or.inl ⟨by rfl, ?_⟩) ?_ ?_
              rotate_left
              · intro w'
                go_simp
                with_reducible rfl
              rotate_left
              · simp only [Act.put, List.setIfInBounds_toArray, List.set_cons_zero, List.set_cons_succ, i64_w, i32_w]
                rfl
              refine pure_ (i := 6) (N := some 42) (v := ?_) (a' := ?_) #[true, true, true, true, true, true, true, false, false, false, false, false, false, false, false, false, false, false, false, false, false, false, false] rfl rfl (any_of HT_.out (by kernel_rfl)) (fun _ _ _ h => h) (Or.inl ⟨by rfl, ?_⟩) ?_ ?_
              rotate_left
              · intro w'
                go_simp
                with_reducible rfl
              rotate_left
              · simp only [Act.put, List.setIfInBounds_toArray, List.set_cons_zero, List.set_cons_succ, i64_w, i32_w]
                rfl
              refine pure_ (i := 7) (N := some 43) (v := ?_) (a' := ?_) #[true, true, true, true, true, true, true, true, false, false, false, false, false, false, false, false, false, false, false, false, false, false, false] rfl rfl (any_of HT_.out (by kernel_rfl)) (fun _ _ _ h => h) (Or.inl ⟨by rfl, ?_⟩) ?_ ?_
              rotate_left
              · intro w'
                go_simp
                with_reducible rfl
              rotate_left
              · simp only [Act.put, List.setIfInBounds_toArray, List.set_cons_zero, List.set_cons_succ, i64_w, i32_w]
                rfl
              refine pure_ (i := 8) (N := some 44) (v := ?_) (a' := ?_) #[true, true, true, true, true, true, true, true, true, false, false, false, false, false, false, false, false, false, false, false, false, false, false] rfl rfl (any_of HT_.out (by kernel_rfl)) (fun _ _ _ h => h) (Or.inl ⟨by rfl, ?_⟩) ?_ ?_
              rotate_left
              · intro w'
                go_simp
                with_reducible rfl
              rotate_left
              · simp only [Act.put, List.setIfInBounds_toArray, List.set_cons_zero, List.set_cons_succ, i64_w, i32_w]
                rfl
              refine take_ (i := 9) (N := some 45) (v := ?_) (a' := ?_) #[true, true, true, true, true, true, true, true, true, true, false, false, false, false, false, false, false, false, false, false, false, false, false] rfl rfl (take_ofW HT_.out HW_.out (by kernel_rfl)) (fun _ _ _ h => h) (Or.inl ⟨by rfl, ?_⟩) hHeld ?_ ?_
              rotate_left
              · rintro w' ⟨s0, s1, s2, s3, s4, s5, s6, s7, s8⟩
                go_simp
                with_reducible rfl
              rotate_left
              · simp only [Act.put, List.setIfInBounds_toArray, List.set_cons_zero, List.set_cons_succ, i64_w, i32_w]
                rfl
              refine take_ (i := 11) (N := some 47) (v := ?_) (a' := ?_) #[true, true, true, true, true, true, true, true, true, true, false, true, false, false, false, false, false, false, false, false, false, false, false] rfl rfl (take_ofW HT_.out HW_.out (by kernel_rfl)) (fun _ _ _ h => h) (Or.inl ⟨by rfl, ?_⟩) hHeld ?_ ?_
              rotate_left
              · rintro w' ⟨s0, s1, s2, s3, s4, s5, s6, s7, s8⟩
                go_simp
                with_reducible rfl
              rotate_left
              · simp only [Act.put, List.setIfInBounds_toArray, List.set_cons_zero, List.set_cons_succ, i64_w, i32_w]
                rfl
              refine one_ (i := 10) (N := some 46) #[true, true, true, true, true, true, true, true, true, true, true, true, false, false, false, false, false, false, false, false, false, false, false] rfl rfl (one_of HT_.out (by kernel_rfl)) (by decide) (fun K hK => ?_)
              refine goes_ Tryz.func8 (by kernel_rfl) rfl #[.agg #[.string a1_0, .int .i64 a1_1, .string a1_2]] (by rfl) rfl rfl (by (try simp only [List.map_toArray, List.map_cons, List.map_nil]); first | done | rfl | (simp only [List.length_drop, List.length_take]; rfl)) ?_
              with_reducible refine (relation_Right.calls kj4 a1_0 a1_1 a1_2 t308 _ (by first | exact hG | exact GL.below hG (by repeat (first | (with_reducible first | exact HB.out | apply qaf | apply qaa | apply qae | refine qad ?_ GE295.out | refine qad ?_ GE302.out | refine qad ?_ GE307.out) | exact HB.out)))  A17.out).mono ?_
              rintro e w48 ⟨rfl, hb⟩
              refine ⟨_, rfl, ?_⟩
              have n0_ := Aside0.mk (qaj (g := gb295) (o := .cells #[.string a1_0, .int .i64 a1_1, .string a1_2] 23 (0, 0)) (by (with_reducible repeat (first | refine qac ?_ _ | refine qag ?_ | refine qab ?_ _)); exact BK295.out) hb)
              have n1_ := Aside0.mk (qaj (g := gb302) (o := .cells #[.string t298, .int .i64 t299, .string t300] 23 (0, 0)) (by (with_reducible repeat (first | refine qac ?_ _ | refine qag ?_ | refine qab ?_ _)); exact BK302.out) hb)
              have n2_ := Aside0.mk (qaj (g := gb307) (o := .cells #[.string t303, .int .i64 t304, .string t305] 23 (0, 0)) (by (with_reducible repeat (first | refine qac ?_ _ | refine qag ?_ | refine qab ?_ _)); exact BK307.out) hb)
              have n3_ := Aside0.mk (qak (by repeat (first | (with_reducible first | exact HB.out | apply qaf | apply qaa | apply qae | refine qad ?_ GE295.out | refine qad ?_ GE302.out | refine qad ?_ GE307.out) | exact HB.out)) hb)
              clear BK295
              clear BK302
              clear BK307
              clear HB
              have BK295 := n0_
              have BK302 := n1_
              have BK307 := n2_
              have HB := n3_
              clear n0_ n1_ n2_ n3_
              (try clear hb)
              (try clear hb2)
              (try clear hk)
              (try clear hi)
              refine hK.out _ _ ⟨(qai BK302.out 0).trans rfl, (qai BK302.out 1).trans rfl, (qai BK302.out 2).trans rfl, (qai BK307.out 0).trans rfl, (qai BK307.out 1).trans rfl, (qai BK307.out 2).trans rfl, (qai BK295.out 0).trans rfl, (qai BK295.out 1).trans rfl, (qai BK295.out 2).trans rfl⟩ (fun hHeld => ?_)
              clear hK K
              refine norm_ (a' := ?_) ?_ ?_
              rotate_left
              · show Act.put _ (some 46) _ = _
                simp only [Act.put, List.setIfInBounds_toArray, List.set_cons_zero, List.set_cons_succ, i64_w, i32_w]
                rfl
              refine one_ (i := 12) (N := some 48) #[true, true, true, true, true, true, true, true, true, true, true, true, true, false, false, false, false, false, false, false, false, false, false] rfl rfl (one_of HT_.out (by kernel_rfl)) (by decide) (fun K hK => ?_)
              refine goes_ Tryz.func9 (by kernel_rfl) rfl #[.agg #[.string a1_0, .int .i64 a1_1, .string a1_2]] (by rfl) rfl rfl (by (try simp only [List.map_toArray, List.map_cons, List.map_nil]); first | done | rfl | (simp only [List.length_drop, List.length_take]; rfl)) ?_
              with_reducible refine (keelsonref3_Right.calls kj4 a1_0 a1_1 a1_2 t309 _ (by first | exact hG | exact GL.below hG (by repeat (first | (with_reducible first | exact HB.out | apply qaf | apply qaa | apply qae | refine qad ?_ GE295.out | refine qad ?_ GE302.out | refine qad ?_ GE307.out) | exact HB.out)))  A18.out).mono ?_
              rintro e w49 ⟨rfl, hb⟩
              refine ⟨_, rfl, ?_⟩
              have n0_ := Aside0.mk (qaj (g := gb295) (o := .cells #[.string a1_0, .int .i64 a1_1, .string a1_2] 23 (0, 0)) (by (with_reducible repeat (first | refine qac ?_ _ | refine qag ?_ | refine qab ?_ _)); exact BK295.out) hb)
              have n1_ := Aside0.mk (qaj (g := gb302) (o := .cells #[.string t298, .int .i64 t299, .string t300] 23 (0, 0)) (by (with_reducible repeat (first | refine qac ?_ _ | refine qag ?_ | refine qab ?_ _)); exact BK302.out) hb)
              have n2_ := Aside0.mk (qaj (g := gb307) (o := .cells #[.string t303, .int .i64 t304, .string t305] 23 (0, 0)) (by (with_reducible repeat (first | refine qac ?_ _ | refine qag ?_ | refine qab ?_ _)); exact BK307.out) hb)
              have n3_ := Aside0.mk (qak (by repeat (first | (with_reducible first | exact HB.out | apply qaf | apply qaa | apply qae | refine qad ?_ GE295.out | refine qad ?_ GE302.out | refine qad ?_ GE307.out) | exact HB.out)) hb)
              clear BK295
              clear BK302
              clear BK307
              clear HB
              have BK295 := n0_
              have BK302 := n1_
              have BK307 := n2_
              have HB := n3_
              clear n0_ n1_ n2_ n3_
              (try clear hb)
              (try clear hb2)
              (try clear hk)
              (try clear hi)
              refine hK.out _ _ ⟨(qai BK302.out 0).trans rfl, (qai BK302.out 1).trans rfl, (qai BK302.out 2).trans rfl, (qai BK307.out 0).trans rfl, (qai BK307.out 1).trans rfl, (qai BK307.out 2).trans rfl, (qai BK295.out 0).trans rfl, (qai BK295.out 1).trans rfl, (qai BK295.out 2).trans rfl⟩ (fun hHeld => ?_)
              clear hK K
              refine norm_ (a' := ?_) ?_ ?_
              rotate_left
              · show Act.put _ (some 48) _ = _
                simp only [Act.put, List.setIfInBounds_toArray, List.set_cons_zero, List.set_cons_succ, i64_w, i32_w]
                rfl
              refine pure_ (i := 13) (N := some 49) (v := ?_) (a' := ?_) #[true, true, true, true, true, true, true, true, true, true, true, true, true, true, false, false, false, false, false, false, false, false, false] rfl rfl (any_of HT_.out (by kernel_rfl)) (fun _ _ _ h => h) (Or.inl ⟨by rfl, ?_⟩) ?_ ?_
              rotate_left
              · intro w'
                go_simp
                with_reducible rfl
              rotate_left
              · simp only [Act.put, List.setIfInBounds_toArray, List.set_cons_zero, List.set_cons_succ, i64_w, i32_w]
                rfl
              refine pure_ (i := 14) (N := some 50) (v := ?_) (a' := ?_) #[true, true, true, true, true, true, true, true, true, true, true, true, true, true, true, false, false, false, false, false, false, false, false] rfl rfl (any_of HT_.out (by kernel_rfl)) (fun _ _ _ h => h) (Or.inl ⟨by rfl, ?_⟩) ?_ ?_
              rotate_left
              · intro w'
                go_simp
                with_reducible rfl
              rotate_left
              · simp only [Act.put, List.setIfInBounds_toArray, List.set_cons_zero, List.set_cons_succ, i64_w, i32_w]
                rfl
              refine pure_ (i := 15) (N := some 51) (v := ?_) (a' := ?_) #[true, true, true, true, true, true, true, true, true, true, true, true, true, true, true, true, false, false, false, false, false, false, false] rfl rfl (any_of HT_.out (by kernel_rfl)) (fun _ _ _ h => h) (Or.inl ⟨by rfl, ?_⟩) ?_ ?_
              rotate_left
              · intro w'
                go_simp
                with_reducible rfl
              rotate_left
              · simp only [Act.put, List.setIfInBounds_toArray, List.set_cons_zero, List.set_cons_succ, i64_w, i32_w]
                rfl
              refine pure_ (i := 16) (N := some 52) (v := undef) (a' := ?_) #[true, true, true, true, true, true, true, true, true, true, true, true, true, true, true, true, true, false, false, false, false, false, false] rfl rfl (any_of HT_.out (by kernel_rfl)) (fun _ _ _ h => h) (Or.inr ⟨by rfl, rfl⟩) ?_ ?_
              rotate_left
              · simp only [Act.put, List.setIfInBounds_toArray, List.set_cons_zero, List.set_cons_succ, i64_w, i32_w]
                rfl
              refine pure_ (i := 17) (N := some 53) (v := undef) (a' := ?_) #[true, true, true, true, true, true, true, true, true, true, true, true, true, true, true, true, true, true, false, false, false, false, false] rfl rfl (any_of HT_.out (by kernel_rfl)) (fun _ _ _ h => h) (Or.inr ⟨by rfl, rfl⟩) ?_ ?_
              rotate_left
              · simp only [Act.put, List.setIfInBounds_toArray, List.set_cons_zero, List.set_cons_succ, i64_w, i32_w]
                rfl
              refine pure_ (i := 18) (N := some 54) (v := undef) (a' := ?_) #[true, true, true, true, true, true, true, true, true, true, true, true, true, true, true, true, true, true, true, false, false, false, false] rfl rfl (any_of HT_.out (by kernel_rfl)) (fun _ _ _ h => h) (Or.inr ⟨by rfl, rfl⟩) ?_ ?_
              rotate_left
              · simp only [Act.put, List.setIfInBounds_toArray, List.set_cons_zero, List.set_cons_succ, i64_w, i32_w]
                rfl
              refine pure_ (i := 19) (N := some 55) (v := undef) (a' := ?_) #[true, true, true, true, true, true, true, true, true, true, true, true, true, true, true, true, true, true, true, true, false, false, false] rfl rfl (any_of HT_.out (by kernel_rfl)) (fun _ _ _ h => h) (Or.inr ⟨by rfl, rfl⟩) ?_ ?_
              rotate_left
              · simp only [Act.put, List.setIfInBounds_toArray, List.set_cons_zero, List.set_cons_succ, i64_w, i32_w]
                rfl
              refine pure_ (i := 20) (N := some 56) (v := undef) (a' := ?_) #[true, true, true, true, true, true, true, true, true, true, true, true, true, true, true, true, true, true, true, true, true, false, false] rfl rfl (any_of HT_.out (by kernel_rfl)) (fun _ _ _ h => h) (Or.inr ⟨by rfl, rfl⟩) ?_ ?_
              rotate_left
              · simp only [Act.put, List.setIfInBounds_toArray, List.set_cons_zero, List.set_cons_succ, i64_w, i32_w]
                rfl
              refine pure_ (i := 21) (N := some 57) (v := ?_) (a' := ?_) #[true, true, true, true, true, true, true, true, true, true, true, true, true, true, true, true, true, true, true, true, true, true, false] rfl rfl (any_of HT_.out (by kernel_rfl)) (fun _ _ _ h => h) (Or.inl ⟨by rfl, ?_⟩) ?_ ?_
              rotate_left
              · intro w'
                go_simp
                with_reducible rfl
              rotate_left
              · simp only [Act.put, List.setIfInBounds_toArray, List.set_cons_zero, List.set_cons_succ, i64_w, i32_w]
                rfl
              refine pure_ (i := 22) (N := some 4) (v := ?_) (a' := ?_) #[true, true, true, true, true, true, true, true, true, true, true, true, true, true, true, true, true, true, true, true, true, true, true] rfl rfl (any_of HT_.out (by kernel_rfl)) (fun _ _ _ h => h) (Or.inl ⟨by rfl, ?_⟩) ?_ ?_
              rotate_left
              · intro w'
                go_simp
                with_reducible rfl
              rotate_left
              · simp only [Act.put, List.setIfInBounds_toArray, List.set_cons_zero, List.set_cons_succ, i64_w, i32_w]
                rfl
              refine done_ (done_of HT_.out (by kernel_rfl)) ?_
              try go_wp2
              go_ret
              exact ⟨by first | rfl | (simp [qan, qao] <;> rfl) | (simp [*, qan, qao] <;> rfl), by repeat (first | (with_reducible first | exact HB.out | apply qaf | apply qaa | apply qae | refine qad ?_ GE295.out | refine qad ?_ GE302.out | refine qad ?_ GE307.out) | exact HB.out)⟩
          · rw [if_neg c16] at H
            have c16b0 : (t301 == t306) = false := beq_eq_false_iff_ne.mpr c16
            have c16b1 : (t301 != t306) = true := bne_iff_ne.mpr c16
            obtain rfl := Option.some.inj H
            try go_wp2_with (first | ((with_reducible refine qam (f := 6) rfl ?_); refine goesL_ (some 28) rfl rfl Tryz.func6 (by kernel_rfl) rfl #[.string a0] rfl (by (try simp only [List.map_toArray, List.map_cons, List.map_nil]); first | done | rfl | (simp only [List.length_drop, List.length_take]; rfl)) ?_; (with_reducible refine (relation_Parse.calls kj4 a0 t298 t299 t300 t301 _ (by first | exact hG | exact GL.below hG (by repeat (first | (with_reducible first | exact HB.out | apply qaf | apply qaa | apply qae | refine qad ?_ GE295.out) | exact HB.out)))  A13.out).mono ?_); rintro e w50 ⟨rfl, hb⟩; refine ⟨_, rfl, ?_⟩; have n0_ := Aside0.mk (qaj (g := gb295) (o := .cells #[.string a1_0, .int .i64 a1_1, .string a1_2] 23 (0, 0)) (by (with_reducible repeat (first | refine qac ?_ _ | refine qag ?_ | refine qab ?_ _)); exact BK295.out) hb); have n1_ := Aside0.mk (qak (by repeat (first | (with_reducible first | exact HB.out | apply qaf | apply qaa | apply qae | refine qad ?_ GE295.out) | exact HB.out)) hb); clear BK295; clear HB; have BK295 := n0_; have HB := n1_; clear n0_ n1_; (try clear hb); (try clear hb2); (try clear hk); (try clear hi)) | ((with_reducible refine qar (N := 7) rfl ?_); (try (refine gate_guard (by rfl) ?_; dsimp only)); refine qaq ?hg (N := 7) ?hd (cs := #[.string (⟨#[]⟩ : ByteArray), .int .i64 0, .string (⟨#[]⟩ : ByteArray)]) (t := 23) ?hr ?_; (case hd => rfl); (case hg => rfl); (case hr => first | (go_simp; done) | (go_simp; rfl)); intro gb302 hg w51 hbox hb; have n0_ := Aside0.mk (qaj (g := gb295) (o := .cells #[.string a1_0, .int .i64 a1_1, .string a1_2] 23 (0, 0)) (by (with_reducible repeat (first | refine qac ?_ _ | refine qag ?_ | refine qab ?_ _)); exact BK295.out) hb); have n1_ := Aside0.mk (qak (by repeat (first | (with_reducible first | exact HB.out | apply qaf | apply qaa | apply qae | refine qad ?_ GE295.out) | exact HB.out)) hb); have n2_ := Aside0.mk (hbox); have n3_ := Aside0.mk ((by rw [hg]; exact (qap (by repeat (first | (with_reducible first | exact HB.out | apply qaf | apply qaa | apply qae | refine qad ?_ GE295.out) | exact HB.out))) : w.heap.size ≤ gb302)); have n4_ := Aside0.mk ((by rw [hg]; exact (qap (by repeat (first | (with_reducible first | exact HB.out | apply qaf | apply qaa | apply qae | refine qad ?_ GE295.out) | exact HB.out))) : w.heap.size ≤ gb302)); have n5_ := Aside0.mk ((by rw [hg]; exact Nat.ne_of_lt (blk_lt (g := gb295) (o := .cells #[.string a1_0, .int .i64 a1_1, .string a1_2] 23 (0, 0)) (by (with_reducible repeat (first | refine qac ?_ _ | refine qag ?_ | refine qab ?_ _)); exact BK295.out)) : gb295 ≠ gb302)); have n6_ := Aside0.mk ((by rw [hg]; exact Nat.ne_of_gt (blk_lt (g := gb295) (o := .cells #[.string a1_0, .int .i64 a1_1, .string a1_2] 23 (0, 0)) (by (with_reducible repeat (first | refine qac ?_ _ | refine qag ?_ | refine qab ?_ _)); exact BK295.out)) : gb302 ≠ gb295)); clear BK295; clear HB; have BK295 := n0_; have HB := n1_; have BK302 := n2_; have GW302 := n3_; have GE302 := n4_; have NB295_302 := n5_; have NB302_295 := n6_; clear n0_ n1_ n2_ n3_ n4_ n5_ n6_; clear hb hbox hg; have hnb52 := NB302_295.out; have hnc52 := NB295_302.out; have hcz53_0 : w51.cell? ⟨gb302, 0, none⟩ = some (.string (⟨#[]⟩ : ByteArray)) := (qai BK302.out 0).trans rfl; have hcz53_1 : w51.cell? ⟨gb302, 1, none⟩ = some (.int .i64 0) := (qai BK302.out 1).trans rfl; have hcz53_2 : w51.cell? ⟨gb302, 2, none⟩ = some (.string (⟨#[]⟩ : ByteArray)) := (qai BK302.out 2).trans rfl; have hfz53_0 := qah BK302.out 0; have hfz53_1 := qah BK302.out 1; have hfz53_2 := qah BK302.out 2) | ((with_reducible refine qam (f := 7) rfl ?_); refine goesL_ (some 33) rfl rfl Tryz.func7 (by kernel_rfl) rfl #[.string a0] rfl (by (try simp only [List.map_toArray, List.map_cons, List.map_nil]); first | done | rfl | (simp only [List.length_drop, List.length_take]; rfl)) ?_; (with_reducible refine (keelsonref3_Parse.calls kj4 a0 t303 t304 t305 t306 _ (by first | exact hG | exact GL.below hG (by repeat (first | (with_reducible first | exact HB.out | apply qaf | apply qaa | apply qae | refine qad ?_ GE295.out | refine qad ?_ GE302.out) | exact HB.out)))  A14.out).mono ?_); rintro e w54 ⟨rfl, hb⟩; refine ⟨_, rfl, ?_⟩; have n0_ := Aside0.mk (qaj (g := gb295) (o := .cells #[.string a1_0, .int .i64 a1_1, .string a1_2] 23 (0, 0)) (by (with_reducible repeat (first | refine qac ?_ _ | refine qag ?_ | refine qab ?_ _)); refine blk_far ?_ NB295_302.out _; (with_reducible repeat (first | refine qac ?_ _ | refine qag ?_ | refine qab ?_ _)); refine blk_far ?_ NB295_302.out _; (with_reducible repeat (first | refine qac ?_ _ | refine qag ?_ | refine qab ?_ _)); refine blk_far ?_ NB295_302.out _; (with_reducible repeat (first | refine qac ?_ _ | refine qag ?_ | refine qab ?_ _)); exact BK295.out) hb); have n1_ := Aside0.mk (qaj (g := gb302) (o := .cells #[.string t298, .int .i64 t299, .string t300] 23 (0, 0)) (by (with_reducible repeat (first | refine qac ?_ _ | refine qag ?_ | refine qab ?_ _)); refine blk_put (cs := #[.string t298, .int .i64 t299, .string (⟨#[]⟩ : ByteArray)]) ?_ 2 _ rfl; (with_reducible repeat (first | refine qac ?_ _ | refine qag ?_ | refine qab ?_ _)); refine blk_put (cs := #[.string t298, .int .i64 0, .string (⟨#[]⟩ : ByteArray)]) ?_ 1 _ rfl; (with_reducible repeat (first | refine qac ?_ _ | refine qag ?_ | refine qab ?_ _)); refine blk_put (cs := #[.string (⟨#[]⟩ : ByteArray), .int .i64 0, .string (⟨#[]⟩ : ByteArray)]) ?_ 0 _ rfl; (with_reducible repeat (first | refine qac ?_ _ | refine qag ?_ | refine qab ?_ _)); exact BK302.out) hb); have n2_ := Aside0.mk (qak (by repeat (first | (with_reducible first | exact HB.out | apply qaf | apply qaa | apply qae | refine qad ?_ GE295.out | refine qad ?_ GE302.out) | exact HB.out)) hb); clear BK295; clear BK302; clear HB; have BK295 := n0_; have BK302 := n1_; have HB := n2_; clear n0_ n1_ n2_; (try clear hb); (try clear hb2); (try clear hk); (try clear hi)) | ((with_reducible refine qar (N := 9) rfl ?_); (try (refine gate_guard (by rfl) ?_; dsimp only)); refine qaq ?hg (N := 9) ?hd (cs := #[.string (⟨#[]⟩ : ByteArray), .int .i64 0, .string (⟨#[]⟩ : ByteArray)]) (t := 23) ?hr ?_; (case hd => rfl); (case hg => rfl); (case hr => first | (go_simp; done) | (go_simp; rfl)); intro gb307 hg w55 hbox hb; have n0_ := Aside0.mk (qaj (g := gb295) (o := .cells #[.string a1_0, .int .i64 a1_1, .string a1_2] 23 (0, 0)) (by (with_reducible repeat (first | refine qac ?_ _ | refine qag ?_ | refine qab ?_ _)); exact BK295.out) hb); have n1_ := Aside0.mk (qaj (g := gb302) (o := .cells #[.string t298, .int .i64 t299, .string t300] 23 (0, 0)) (by (with_reducible repeat (first | refine qac ?_ _ | refine qag ?_ | refine qab ?_ _)); exact BK302.out) hb); have n2_ := Aside0.mk (qak (by repeat (first | (with_reducible first | exact HB.out | apply qaf | apply qaa | apply qae | refine qad ?_ GE295.out | refine qad ?_ GE302.out) | exact HB.out)) hb); have n3_ := Aside0.mk (hbox); have n4_ := Aside0.mk ((by rw [hg]; exact (qap (by repeat (first | (with_reducible first | exact HB.out | apply qaf | apply qaa | apply qae | refine qad ?_ GE295.out | refine qad ?_ GE302.out) | exact HB.out))) : w.heap.size ≤ gb307)); have n5_ := Aside0.mk ((by rw [hg]; exact (qap (by repeat (first | (with_reducible first | exact HB.out | apply qaf | apply qaa | apply qae | refine qad ?_ GE295.out | refine qad ?_ GE302.out) | exact HB.out))) : w.heap.size ≤ gb307)); have n6_ := Aside0.mk ((by rw [hg]; exact Nat.ne_of_lt (blk_lt (g := gb295) (o := .cells #[.string a1_0, .int .i64 a1_1, .string a1_2] 23 (0, 0)) (by (with_reducible repeat (first | refine qac ?_ _ | refine qag ?_ | refine qab ?_ _)); exact BK295.out)) : gb295 ≠ gb307)); have n7_ := Aside0.mk ((by rw [hg]; exact Nat.ne_of_gt (blk_lt (g := gb295) (o := .cells #[.string a1_0, .int .i64 a1_1, .string a1_2] 23 (0, 0)) (by (with_reducible repeat (first | refine qac ?_ _ | refine qag ?_ | refine qab ?_ _)); exact BK295.out)) : gb307 ≠ gb295)); have n8_ := Aside0.mk ((by rw [hg]; exact Nat.ne_of_lt (blk_lt (g := gb302) (o := .cells #[.string t298, .int .i64 t299, .string t300] 23 (0, 0)) (by (with_reducible repeat (first | refine qac ?_ _ | refine qag ?_ | refine qab ?_ _)); exact BK302.out)) : gb302 ≠ gb307)); have n9_ := Aside0.mk ((by rw [hg]; exact Nat.ne_of_gt (blk_lt (g := gb302) (o := .cells #[.string t298, .int .i64 t299, .string t300] 23 (0, 0)) (by (with_reducible repeat (first | refine qac ?_ _ | refine qag ?_ | refine qab ?_ _)); exact BK302.out)) : gb307 ≠ gb302)); clear BK295; clear BK302; clear HB; have BK295 := n0_; have BK302 := n1_; have HB := n2_; have BK307 := n3_; have GW307 := n4_; have GE307 := n5_; have NB295_307 := n6_; have NB307_295 := n7_; have NB302_307 := n8_; have NB307_302 := n9_; clear n0_ n1_ n2_ n3_ n4_ n5_ n6_ n7_ n8_ n9_; clear hb hbox hg; have hnb56 := NB307_295.out; have hnc56 := NB295_307.out; have hnb57 := NB307_302.out; have hnc57 := NB302_307.out; have hcz58_0 : w55.cell? ⟨gb307, 0, none⟩ = some (.string (⟨#[]⟩ : ByteArray)) := (qai BK307.out 0).trans rfl; have hcz58_1 : w55.cell? ⟨gb307, 1, none⟩ = some (.int .i64 0) := (qai BK307.out 1).trans rfl; have hcz58_2 : w55.cell? ⟨gb307, 2, none⟩ = some (.string (⟨#[]⟩ : ByteArray)) := (qai BK307.out 2).trans rfl; have hfz58_0 := qah BK307.out 0; have hfz58_1 := qah BK307.out 1; have hfz58_2 := qah BK307.out 2))
            have n0_ : Aside0 ((((w55.setCell ⟨gb307, 0, none⟩ (.string t303)).setCell ⟨gb307, 1, none⟩ (.int .i64 t304)).setCell ⟨gb307, 2, none⟩ (.string t305)).heap[gb295]? = some (.cells #[.string a1_0, .int .i64 a1_1, .string a1_2] 23 (0, 0))) := ⟨by (with_reducible repeat (first | refine qac ?_ _ | refine qag ?_ | refine qab ?_ _)); refine blk_far ?_ NB295_307.out _; (with_reducible repeat (first | refine qac ?_ _ | refine qag ?_ | refine qab ?_ _)); refine blk_far ?_ NB295_307.out _; (with_reducible repeat (first | refine qac ?_ _ | refine qag ?_ | refine qab ?_ _)); refine blk_far ?_ NB295_307.out _; (with_reducible repeat (first | refine qac ?_ _ | refine qag ?_ | refine qab ?_ _)); exact BK295.out⟩
            have n1_ : Aside0 ((((w55.setCell ⟨gb307, 0, none⟩ (.string t303)).setCell ⟨gb307, 1, none⟩ (.int .i64 t304)).setCell ⟨gb307, 2, none⟩ (.string t305)).heap[gb302]? = some (.cells #[.string t298, .int .i64 t299, .string t300] 23 (0, 0))) := ⟨by (with_reducible repeat (first | refine qac ?_ _ | refine qag ?_ | refine qab ?_ _)); refine blk_far ?_ NB302_307.out _; (with_reducible repeat (first | refine qac ?_ _ | refine qag ?_ | refine qab ?_ _)); refine blk_far ?_ NB302_307.out _; (with_reducible repeat (first | refine qac ?_ _ | refine qag ?_ | refine qab ?_ _)); refine blk_far ?_ NB302_307.out _; (with_reducible repeat (first | refine qac ?_ _ | refine qag ?_ | refine qab ?_ _)); exact BK302.out⟩
            have n2_ : Aside0 ((((w55.setCell ⟨gb307, 0, none⟩ (.string t303)).setCell ⟨gb307, 1, none⟩ (.int .i64 t304)).setCell ⟨gb307, 2, none⟩ (.string t305)).heap[gb307]? = some (.cells #[.string t303, .int .i64 t304, .string t305] 23 (0, 0))) := ⟨by (with_reducible repeat (first | refine qac ?_ _ | refine qag ?_ | refine qab ?_ _)); refine blk_put (cs := #[.string t303, .int .i64 t304, .string (⟨#[]⟩ : ByteArray)]) ?_ 2 _ rfl; (with_reducible repeat (first | refine qac ?_ _ | refine qag ?_ | refine qab ?_ _)); refine blk_put (cs := #[.string t303, .int .i64 0, .string (⟨#[]⟩ : ByteArray)]) ?_ 1 _ rfl; (with_reducible repeat (first | refine qac ?_ _ | refine qag ?_ | refine qab ?_ _)); refine blk_put (cs := #[.string (⟨#[]⟩ : ByteArray), .int .i64 0, .string (⟨#[]⟩ : ByteArray)]) ?_ 0 _ rfl; (with_reducible repeat (first | refine qac ?_ _ | refine qag ?_ | refine qab ?_ _)); exact BK307.out⟩
            have n3_ : Aside0 (Below w.heap.size w (((w55.setCell ⟨gb307, 0, none⟩ (.string t303)).setCell ⟨gb307, 1, none⟩ (.int .i64 t304)).setCell ⟨gb307, 2, none⟩ (.string t305))) := ⟨by repeat (first | (with_reducible first | exact HB.out | apply qaf | apply qaa | apply qae | refine qad ?_ GE295.out | refine qad ?_ GE302.out | refine qad ?_ GE307.out) | exact HB.out)⟩
            (try clear BK295)
            (try clear BK302)
            (try clear BK307)
            (try clear HB)
            generalize (((w55.setCell ⟨gb307, 0, none⟩ (.string t303)).setCell ⟨gb307, 1, none⟩ (.int .i64 t304)).setCell ⟨gb307, 2, none⟩ (.string t305)) = w59 at n0_ n1_ n2_ n3_ ⊢
            have BK295 := n0_
            have BK302 := n1_
            have BK307 := n2_
            have HB := n3_
            clear n0_ n1_ n2_ n3_
            have n0_ := Aside0.mk (qag BK295.out)
            have n1_ := Aside0.mk (qag BK302.out)
            have n2_ := Aside0.mk (qag BK307.out)
            have n3_ := Aside0.mk (qae HB.out)
            clear BK295
            clear BK302
            clear BK307
            clear HB
            have BK295 := n0_
            have BK302 := n1_
            have BK307 := n2_
            have HB := n3_
            clear n0_ n1_ n2_ n3_
            refine start_ (n := 23) (S := fun w' => w'.cell? ⟨gb302, 0, none⟩ = some (.string t298) ∧ w'.cell? ⟨gb302, 1, none⟩ = some (.int .i64 t299) ∧ w'.cell? ⟨gb302, 2, none⟩ = some (.string t300) ∧ w'.cell? ⟨gb307, 0, none⟩ = some (.string t303) ∧ w'.cell? ⟨gb307, 1, none⟩ = some (.int .i64 t304) ∧ w'.cell? ⟨gb307, 2, none⟩ = some (.string t305)) (ds := []) #[false, false, false, false, false, false, false, false, false, false, false, false, false, false, false, false, false, false, false, false, false, false, false] (by kernel_rfl) rfl rfl ⟨(qai BK302.out 0).trans rfl, (qai BK302.out 1).trans rfl, (qai BK302.out 2).trans rfl, (qai BK307.out 0).trans rfl, (qai BK307.out 1).trans rfl, (qai BK307.out 2).trans rfl⟩ (fun hHeld => ?_); refine with_tabW keelsonlaw3_RelationParses.tab7 keelsonlaw3_RelationParses.bits7 (fun HT_ HW_ => ?_)
            generalize w59.drew = w60 at BK295 BK302 BK307 HB hHeld ⊢
            refine take_ (i := 0) (N := some 36) (v := ?_) (a' := ?_) #[true, false, false, false, false, false, false, false, false, false, false, false, false, false, false, false, false, false, false, false, false, false, false] rfl rfl (take_ofW HT_.out HW_.out (by kernel_rfl)) (fun _ _ _ h => h) (Or.inl ⟨by rfl, ?_⟩) hHeld ?_ ?_
            rotate_left
            · rintro w' ⟨s0, s1, s2, s3, s4, s5⟩
              go_simp
              with_reducible rfl
            rotate_left
            · simp only [Act.put, List.setIfInBounds_toArray, List.set_cons_zero, List.set_cons_succ, i64_w, i32_w]
              rfl
            refine take_ (i := 1) (N := some 37) (v := ?_) (a' := ?_) #[true, true, false, false, false, false, false, false, false, false, false, false, false, false, false, false, false, false, false, false, false, false, false] rfl rfl (take_ofW HT_.out HW_.out (by kernel_rfl)) (fun _ _ _ h => h) (Or.inl ⟨by rfl, ?_⟩) hHeld ?_ ?_
            rotate_left
            · rintro w' ⟨s0, s1, s2, s3, s4, s5⟩
              go_simp
              with_reducible rfl
            rotate_left
            · simp only [Act.put, List.setIfInBounds_toArray, List.set_cons_zero, List.set_cons_succ, i64_w, i32_w]
              rfl
            refine pure_ (i := 2) (N := some 38) (v := ?_) (a' := ?_) #[true, true, true, false, false, false, false, false, false, false, false, false, false, false, false, false, false, false, false, false, false, false, false] rfl rfl (any_of HT_.out (by kernel_rfl)) (fun _ _ _ h => h) (Or.inl ⟨by rfl, ?_⟩) ?_ ?_
            rotate_left
            · intro w'
              go_simp
              with_reducible rfl
            rotate_left
            · simp only [Act.put, List.setIfInBounds_toArray, List.set_cons_zero, List.set_cons_succ, i64_w, i32_w]
              rfl
            refine pure_ (i := 3) (N := some 39) (v := ?_) (a' := ?_) #[true, true, true, true, false, false, false, false, false, false, false, false, false, false, false, false, false, false, false, false, false, false, false] rfl rfl (any_of HT_.out (by kernel_rfl)) (fun _ _ _ h => h) (Or.inl ⟨by rfl, ?_⟩) ?_ ?_
            rotate_left
            · intro w'
              go_simp
              with_reducible rfl
            rotate_left
            · simp only [Act.put, List.setIfInBounds_toArray, List.set_cons_zero, List.set_cons_succ, i64_w, i32_w]
              rfl
            refine pure_ (i := 4) (N := some 40) (v := ?_) (a' := ?_) #[true, true, true, true, true, false, false, false, false, false, false, false, false, false, false, false, false, false, false, false, false, false, false] rfl rfl (any_of HT_.out (by kernel_rfl)) (fun _ _ _ h => h) (Or.inl ⟨by rfl, ?_⟩) ?_ ?_
            rotate_left
            · intro w'
              go_simp
              with_reducible rfl
            rotate_left
            · simp only [Act.put, List.setIfInBounds_toArray, List.set_cons_zero, List.set_cons_succ, i64_w, i32_w]
              rfl
            refine pure_ (i := 5) (N := some 41) (v := ?_) (a' := ?_) #[true, true, true, true, true, true, false, false, false, false, false, false, false, false, false, false, false, false, false, false, false, false, false] rfl rfl (any_of HT_.out (by kernel_rfl)) (fun _ _ _ h => h) (Or.inl ⟨by rfl, ?_⟩) ?_ ?_
            rotate_left
            · intro w'
              go_simp
              with_reducible rfl
            rotate_left
            · simp only [Act.put, List.setIfInBounds_toArray, List.set_cons_zero, List.set_cons_succ, i64_w, i32_w]
              rfl
            refine pure_ (i := 6) (N := some 42) (v := ?_) (a' := ?_) #[true, true, true, true, true, true, true, false, false, false, false, false, false, false, false, false, false, false, false, false, false, false, false] rfl rfl (any_of HT_.out (by kernel_rfl)) (fun _ _ _ h => h) (Or.inl ⟨by rfl, ?_⟩) ?_ ?_
            rotate_left
            · intro w'
              go_simp
              with_reducible rfl
            rotate_left
            · simp only [Act.put, List.setIfInBounds_toArray, List.set_cons_zero, List.set_cons_succ, i64_w, i32_w]
              rfl
            refine pure_ (i := 7) (N := some 43) (v := ?_) (a' := ?_) #[true, true, true, true, true, true, true, true, false, false, false, false, false, false, false, false, false, false, false, false, false, false, false] rfl rfl (any_of HT_.out (by kernel_rfl)) (fun _ _ _ h => h) (Or.inl ⟨by rfl, ?_⟩) ?_ ?_
            rotate_left
            · intro w'
              go_simp
              with_reducible rfl
            rotate_left
            · simp only [Act.put, List.setIfInBounds_toArray, List.set_cons_zero, List.set_cons_succ, i64_w, i32_w]
              rfl
            refine pure_ (i := 8) (N := some 44) (v := ?_) (a' := ?_) #[true, true, true, true, true, true, true, true, true, false, false, false, false, false, false, false, false, false, false, false, false, false, false] rfl rfl (any_of HT_.out (by kernel_rfl)) (fun _ _ _ h => h) (Or.inl ⟨by rfl, ?_⟩) ?_ ?_
            rotate_left
            · intro w'
              go_simp
              with_reducible rfl
            rotate_left
            · simp only [Act.put, List.setIfInBounds_toArray, List.set_cons_zero, List.set_cons_succ, i64_w, i32_w]
              rfl
            refine pure_ (i := 9) (N := some 45) (v := undef) (a' := ?_) #[true, true, true, true, true, true, true, true, true, true, false, false, false, false, false, false, false, false, false, false, false, false, false] rfl rfl (any_of HT_.out (by kernel_rfl)) (fun _ _ _ h => h) (Or.inr ⟨by rfl, rfl⟩) ?_ ?_
            rotate_left
            · simp only [Act.put, List.setIfInBounds_toArray, List.set_cons_zero, List.set_cons_succ, i64_w, i32_w]
              rfl
            refine pure_ (i := 10) (N := some 46) (v := undef) (a' := ?_) #[true, true, true, true, true, true, true, true, true, true, true, false, false, false, false, false, false, false, false, false, false, false, false] rfl rfl (any_of HT_.out (by kernel_rfl)) (fun _ _ _ h => h) (Or.inr ⟨by rfl, rfl⟩) ?_ ?_
            rotate_left
            · simp only [Act.put, List.setIfInBounds_toArray, List.set_cons_zero, List.set_cons_succ, i64_w, i32_w]
              rfl
            refine pure_ (i := 11) (N := some 47) (v := undef) (a' := ?_) #[true, true, true, true, true, true, true, true, true, true, true, true, false, false, false, false, false, false, false, false, false, false, false] rfl rfl (any_of HT_.out (by kernel_rfl)) (fun _ _ _ h => h) (Or.inr ⟨by rfl, rfl⟩) ?_ ?_
            rotate_left
            · simp only [Act.put, List.setIfInBounds_toArray, List.set_cons_zero, List.set_cons_succ, i64_w, i32_w]
              rfl
            refine pure_ (i := 12) (N := some 48) (v := undef) (a' := ?_) #[true, true, true, true, true, true, true, true, true, true, true, true, true, false, false, false, false, false, false, false, false, false, false] rfl rfl (any_of HT_.out (by kernel_rfl)) (fun _ _ _ h => h) (Or.inr ⟨by rfl, rfl⟩) ?_ ?_
            rotate_left
            · simp only [Act.put, List.setIfInBounds_toArray, List.set_cons_zero, List.set_cons_succ, i64_w, i32_w]
              rfl
            refine pure_ (i := 13) (N := some 49) (v := undef) (a' := ?_) #[true, true, true, true, true, true, true, true, true, true, true, true, true, true, false, false, false, false, false, false, false, false, false] rfl rfl (any_of HT_.out (by kernel_rfl)) (fun _ _ _ h => h) (Or.inr ⟨by rfl, rfl⟩) ?_ ?_
            rotate_left
            · simp only [Act.put, List.setIfInBounds_toArray, List.set_cons_zero, List.set_cons_succ, i64_w, i32_w]
              rfl
            refine pure_ (i := 14) (N := some 50) (v := ?_) (a' := ?_) #[true, true, true, true, true, true, true, true, true, true, true, true, true, true, true, false, false, false, false, false, false, false, false] rfl rfl (any_of HT_.out (by kernel_rfl)) (fun _ _ _ h => h) (Or.inl ⟨by rfl, ?_⟩) ?_ ?_
            rotate_left
            · intro w'
              go_simp
              with_reducible rfl
            rotate_left
            · simp only [Act.put, List.setIfInBounds_toArray, List.set_cons_zero, List.set_cons_succ, i64_w, i32_w]
              rfl
            refine pure_ (i := 15) (N := some 51) (v := ?_) (a' := ?_) #[true, true, true, true, true, true, true, true, true, true, true, true, true, true, true, true, false, false, false, false, false, false, false] rfl rfl (any_of HT_.out (by kernel_rfl)) (fun _ _ _ h => h) (Or.inl ⟨by rfl, ?_⟩) ?_ ?_
            rotate_left
            · intro w'
              go_simp
              with_reducible rfl
            rotate_left
            · simp only [Act.put, List.setIfInBounds_toArray, List.set_cons_zero, List.set_cons_succ, i64_w, i32_w]
              rfl
            refine pure_ (i := 16) (N := some 52) (v := undef) (a' := ?_) #[true, true, true, true, true, true, true, true, true, true, true, true, true, true, true, true, true, false, false, false, false, false, false] rfl rfl (any_of HT_.out (by kernel_rfl)) (fun _ _ _ h => h) (Or.inr ⟨by rfl, rfl⟩) ?_ ?_
            rotate_left
            · simp only [Act.put, List.setIfInBounds_toArray, List.set_cons_zero, List.set_cons_succ, i64_w, i32_w]
              rfl
            refine pure_ (i := 17) (N := some 53) (v := undef) (a' := ?_) #[true, true, true, true, true, true, true, true, true, true, true, true, true, true, true, true, true, true, false, false, false, false, false] rfl rfl (any_of HT_.out (by kernel_rfl)) (fun _ _ _ h => h) (Or.inr ⟨by rfl, rfl⟩) ?_ ?_
            rotate_left
            · simp only [Act.put, List.setIfInBounds_toArray, List.set_cons_zero, List.set_cons_succ, i64_w, i32_w]
              rfl
            refine pure_ (i := 18) (N := some 54) (v := undef) (a' := ?_) #[true, true, true, true, true, true, true, true, true, true, true, true, true, true, true, true, true, true, true, false, false, false, false] rfl rfl (any_of HT_.out (by kernel_rfl)) (fun _ _ _ h => h) (Or.inr ⟨by rfl, rfl⟩) ?_ ?_
            rotate_left
            · simp only [Act.put, List.setIfInBounds_toArray, List.set_cons_zero, List.set_cons_succ, i64_w, i32_w]
              rfl
            refine pure_ (i := 19) (N := some 55) (v := undef) (a' := ?_) #[true, true, true, true, true, true, true, true, true, true, true, true, true, true, true, true, true, true, true, true, false, false, false] rfl rfl (any_of HT_.out (by kernel_rfl)) (fun _ _ _ h => h) (Or.inr ⟨by rfl, rfl⟩) ?_ ?_
            rotate_left
            · simp only [Act.put, List.setIfInBounds_toArray, List.set_cons_zero, List.set_cons_succ, i64_w, i32_w]
              rfl
            refine pure_ (i := 20) (N := some 56) (v := undef) (a' := ?_) #[true, true, true, true, true, true, true, true, true, true, true, true, true, true, true, true, true, true, true, true, true, false, false] rfl rfl (any_of HT_.out (by kernel_rfl)) (fun _ _ _ h => h) (Or.inr ⟨by rfl, rfl⟩) ?_ ?_
            rotate_left
            · simp only [Act.put, List.setIfInBounds_toArray, List.set_cons_zero, List.set_cons_succ, i64_w, i32_w]
              rfl
            refine pure_ (i := 21) (N := some 57) (v := ?_) (a' := ?_) #[true, true, true, true, true, true, true, true, true, true, true, true, true, true, true, true, true, true, true, true, true, true, false] rfl rfl (any_of HT_.out (by kernel_rfl)) (fun _ _ _ h => h) (Or.inl ⟨by rfl, ?_⟩) ?_ ?_
            rotate_left
            · intro w'
              go_simp
              with_reducible rfl
            rotate_left
            · simp only [Act.put, List.setIfInBounds_toArray, List.set_cons_zero, List.set_cons_succ, i64_w, i32_w]
              rfl
            refine pure_ (i := 22) (N := some 4) (v := ?_) (a' := ?_) #[true, true, true, true, true, true, true, true, true, true, true, true, true, true, true, true, true, true, true, true, true, true, true] rfl rfl (any_of HT_.out (by kernel_rfl)) (fun _ _ _ h => h) (Or.inl ⟨by rfl, ?_⟩) ?_ ?_
            rotate_left
            · intro w'
              go_simp
              with_reducible rfl
            rotate_left
            · simp only [Act.put, List.setIfInBounds_toArray, List.set_cons_zero, List.set_cons_succ, i64_w, i32_w]
              rfl
            refine done_ (done_of HT_.out (by kernel_rfl)) ?_
            try go_wp2
            go_ret
            exact ⟨by first | rfl | (simp [qan, qao] <;> rfl) | (simp [*, qan, qao] <;> rfl), by repeat (first | (with_reducible first | exact HB.out | apply qaf | apply qaa | apply qae | refine qad ?_ GE295.out | refine qad ?_ GE302.out | refine qad ?_ GE307.out) | exact HB.out)⟩
        · rw [if_neg c15] at H
          have c15b0 : (t298.toList == t303.toList && (t299 == t304 && (t300.toList == t305.toList))) = false := by simpa using c15
          (try (have c15b1 : decide (t298.toList = t303.toList && (t299 == t304 && (t300.toList == t305.toList))) = false := by simpa using c15))
          (try (have c15b2 : (t298.toList == t303.toList && (t299 == t304 && (t300.toList == t305.toList))) = false := by simpa using c15))
          (try (have c15b3 : ¬ (t298.toList = t303.toList && (t299 == t304 && (t300.toList == t305.toList))) := by simpa using c15))
          clear c15
          obtain rfl := Option.some.inj H
          try go_wp2_with (first | ((with_reducible refine qam (f := 6) rfl ?_); refine goesL_ (some 28) rfl rfl Tryz.func6 (by kernel_rfl) rfl #[.string a0] rfl (by (try simp only [List.map_toArray, List.map_cons, List.map_nil]); first | done | rfl | (simp only [List.length_drop, List.length_take]; rfl)) ?_; (with_reducible refine (relation_Parse.calls kj4 a0 t298 t299 t300 t301 _ (by first | exact hG | exact GL.below hG (by repeat (first | (with_reducible first | exact HB.out | apply qaf | apply qaa | apply qae | refine qad ?_ GE295.out) | exact HB.out)))  A13.out).mono ?_); rintro e w61 ⟨rfl, hb⟩; refine ⟨_, rfl, ?_⟩; have n0_ := Aside0.mk (qaj (g := gb295) (o := .cells #[.string a1_0, .int .i64 a1_1, .string a1_2] 23 (0, 0)) (by (with_reducible repeat (first | refine qac ?_ _ | refine qag ?_ | refine qab ?_ _)); exact BK295.out) hb); have n1_ := Aside0.mk (qak (by repeat (first | (with_reducible first | exact HB.out | apply qaf | apply qaa | apply qae | refine qad ?_ GE295.out) | exact HB.out)) hb); clear BK295; clear HB; have BK295 := n0_; have HB := n1_; clear n0_ n1_; (try clear hb); (try clear hb2); (try clear hk); (try clear hi)) | ((with_reducible refine qar (N := 7) rfl ?_); (try (refine gate_guard (by rfl) ?_; dsimp only)); refine qaq ?hg (N := 7) ?hd (cs := #[.string (⟨#[]⟩ : ByteArray), .int .i64 0, .string (⟨#[]⟩ : ByteArray)]) (t := 23) ?hr ?_; (case hd => rfl); (case hg => rfl); (case hr => first | (go_simp; done) | (go_simp; rfl)); intro gb302 hg w62 hbox hb; have n0_ := Aside0.mk (qaj (g := gb295) (o := .cells #[.string a1_0, .int .i64 a1_1, .string a1_2] 23 (0, 0)) (by (with_reducible repeat (first | refine qac ?_ _ | refine qag ?_ | refine qab ?_ _)); exact BK295.out) hb); have n1_ := Aside0.mk (qak (by repeat (first | (with_reducible first | exact HB.out | apply qaf | apply qaa | apply qae | refine qad ?_ GE295.out) | exact HB.out)) hb); have n2_ := Aside0.mk (hbox); have n3_ := Aside0.mk ((by rw [hg]; exact (qap (by repeat (first | (with_reducible first | exact HB.out | apply qaf | apply qaa | apply qae | refine qad ?_ GE295.out) | exact HB.out))) : w.heap.size ≤ gb302)); have n4_ := Aside0.mk ((by rw [hg]; exact (qap (by repeat (first | (with_reducible first | exact HB.out | apply qaf | apply qaa | apply qae | refine qad ?_ GE295.out) | exact HB.out))) : w.heap.size ≤ gb302)); have n5_ := Aside0.mk ((by rw [hg]; exact Nat.ne_of_lt (blk_lt (g := gb295) (o := .cells #[.string a1_0, .int .i64 a1_1, .string a1_2] 23 (0, 0)) (by (with_reducible repeat (first | refine qac ?_ _ | refine qag ?_ | refine qab ?_ _)); exact BK295.out)) : gb295 ≠ gb302)); have n6_ := Aside0.mk ((by rw [hg]; exact Nat.ne_of_gt (blk_lt (g := gb295) (o := .cells #[.string a1_0, .int .i64 a1_1, .string a1_2] 23 (0, 0)) (by (with_reducible repeat (first | refine qac ?_ _ | refine qag ?_ | refine qab ?_ _)); exact BK295.out)) : gb302 ≠ gb295)); clear BK295; clear HB; have BK295 := n0_; have HB := n1_; have BK302 := n2_; have GW302 := n3_; have GE302 := n4_; have NB295_302 := n5_; have NB302_295 := n6_; clear n0_ n1_ n2_ n3_ n4_ n5_ n6_; clear hb hbox hg; have hnb63 := NB302_295.out; have hnc63 := NB295_302.out; have hcz64_0 : w62.cell? ⟨gb302, 0, none⟩ = some (.string (⟨#[]⟩ : ByteArray)) := (qai BK302.out 0).trans rfl; have hcz64_1 : w62.cell? ⟨gb302, 1, none⟩ = some (.int .i64 0) := (qai BK302.out 1).trans rfl; have hcz64_2 : w62.cell? ⟨gb302, 2, none⟩ = some (.string (⟨#[]⟩ : ByteArray)) := (qai BK302.out 2).trans rfl; have hfz64_0 := qah BK302.out 0; have hfz64_1 := qah BK302.out 1; have hfz64_2 := qah BK302.out 2) | ((with_reducible refine qam (f := 7) rfl ?_); refine goesL_ (some 33) rfl rfl Tryz.func7 (by kernel_rfl) rfl #[.string a0] rfl (by (try simp only [List.map_toArray, List.map_cons, List.map_nil]); first | done | rfl | (simp only [List.length_drop, List.length_take]; rfl)) ?_; (with_reducible refine (keelsonref3_Parse.calls kj4 a0 t303 t304 t305 t306 _ (by first | exact hG | exact GL.below hG (by repeat (first | (with_reducible first | exact HB.out | apply qaf | apply qaa | apply qae | refine qad ?_ GE295.out | refine qad ?_ GE302.out) | exact HB.out)))  A14.out).mono ?_); rintro e w65 ⟨rfl, hb⟩; refine ⟨_, rfl, ?_⟩; have n0_ := Aside0.mk (qaj (g := gb295) (o := .cells #[.string a1_0, .int .i64 a1_1, .string a1_2] 23 (0, 0)) (by (with_reducible repeat (first | refine qac ?_ _ | refine qag ?_ | refine qab ?_ _)); refine blk_far ?_ NB295_302.out _; (with_reducible repeat (first | refine qac ?_ _ | refine qag ?_ | refine qab ?_ _)); refine blk_far ?_ NB295_302.out _; (with_reducible repeat (first | refine qac ?_ _ | refine qag ?_ | refine qab ?_ _)); refine blk_far ?_ NB295_302.out _; (with_reducible repeat (first | refine qac ?_ _ | refine qag ?_ | refine qab ?_ _)); exact BK295.out) hb); have n1_ := Aside0.mk (qaj (g := gb302) (o := .cells #[.string t298, .int .i64 t299, .string t300] 23 (0, 0)) (by (with_reducible repeat (first | refine qac ?_ _ | refine qag ?_ | refine qab ?_ _)); refine blk_put (cs := #[.string t298, .int .i64 t299, .string (⟨#[]⟩ : ByteArray)]) ?_ 2 _ rfl; (with_reducible repeat (first | refine qac ?_ _ | refine qag ?_ | refine qab ?_ _)); refine blk_put (cs := #[.string t298, .int .i64 0, .string (⟨#[]⟩ : ByteArray)]) ?_ 1 _ rfl; (with_reducible repeat (first | refine qac ?_ _ | refine qag ?_ | refine qab ?_ _)); refine blk_put (cs := #[.string (⟨#[]⟩ : ByteArray), .int .i64 0, .string (⟨#[]⟩ : ByteArray)]) ?_ 0 _ rfl; (with_reducible repeat (first | refine qac ?_ _ | refine qag ?_ | refine qab ?_ _)); exact BK302.out) hb); have n2_ := Aside0.mk (qak (by repeat (first | (with_reducible first | exact HB.out | apply qaf | apply qaa | apply qae | refine qad ?_ GE295.out | refine qad ?_ GE302.out) | exact HB.out)) hb); clear BK295; clear BK302; clear HB; have BK295 := n0_; have BK302 := n1_; have HB := n2_; clear n0_ n1_ n2_; (try clear hb); (try clear hb2); (try clear hk); (try clear hi)) | ((with_reducible refine qar (N := 9) rfl ?_); (try (refine gate_guard (by rfl) ?_; dsimp only)); refine qaq ?hg (N := 9) ?hd (cs := #[.string (⟨#[]⟩ : ByteArray), .int .i64 0, .string (⟨#[]⟩ : ByteArray)]) (t := 23) ?hr ?_; (case hd => rfl); (case hg => rfl); (case hr => first | (go_simp; done) | (go_simp; rfl)); intro gb307 hg w66 hbox hb; have n0_ := Aside0.mk (qaj (g := gb295) (o := .cells #[.string a1_0, .int .i64 a1_1, .string a1_2] 23 (0, 0)) (by (with_reducible repeat (first | refine qac ?_ _ | refine qag ?_ | refine qab ?_ _)); exact BK295.out) hb); have n1_ := Aside0.mk (qaj (g := gb302) (o := .cells #[.string t298, .int .i64 t299, .string t300] 23 (0, 0)) (by (with_reducible repeat (first | refine qac ?_ _ | refine qag ?_ | refine qab ?_ _)); exact BK302.out) hb); have n2_ := Aside0.mk (qak (by repeat (first | (with_reducible first | exact HB.out | apply qaf | apply qaa | apply qae | refine qad ?_ GE295.out | refine qad ?_ GE302.out) | exact HB.out)) hb); have n3_ := Aside0.mk (hbox); have n4_ := Aside0.mk ((by rw [hg]; exact (qap (by repeat (first | (with_reducible first | exact HB.out | apply qaf | apply qaa | apply qae | refine qad ?_ GE295.out | refine qad ?_ GE302.out) | exact HB.out))) : w.heap.size ≤ gb307)); have n5_ := Aside0.mk ((by rw [hg]; exact (qap (by repeat (first | (with_reducible first | exact HB.out | apply qaf | apply qaa | apply qae | refine qad ?_ GE295.out | refine qad ?_ GE302.out) | exact HB.out))) : w.heap.size ≤ gb307)); have n6_ := Aside0.mk ((by rw [hg]; exact Nat.ne_of_lt (blk_lt (g := gb295) (o := .cells #[.string a1_0, .int .i64 a1_1, .string a1_2] 23 (0, 0)) (by (with_reducible repeat (first | refine qac ?_ _ | refine qag ?_ | refine qab ?_ _)); exact BK295.out)) : gb295 ≠ gb307)); have n7_ := Aside0.mk ((by rw [hg]; exact Nat.ne_of_gt (blk_lt (g := gb295) (o := .cells #[.string a1_0, .int .i64 a1_1, .string a1_2] 23 (0, 0)) (by (with_reducible repeat (first | refine qac ?_ _ | refine qag ?_ | refine qab ?_ _)); exact BK295.out)) : gb307 ≠ gb295)); have n8_ := Aside0.mk ((by rw [hg]; exact Nat.ne_of_lt (blk_lt (g := gb302) (o := .cells #[.string t298, .int .i64 t299, .string t300] 23 (0, 0)) (by (with_reducible repeat (first | refine qac ?_ _ | refine qag ?_ | refine qab ?_ _)); exact BK302.out)) : gb302 ≠ gb307)); have n9_ := Aside0.mk ((by rw [hg]; exact Nat.ne_of_gt (blk_lt (g := gb302) (o := .cells #[.string t298, .int .i64 t299, .string t300] 23 (0, 0)) (by (with_reducible repeat (first | refine qac ?_ _ | refine qag ?_ | refine qab ?_ _)); exact BK302.out)) : gb307 ≠ gb302)); clear BK295; clear BK302; clear HB; have BK295 := n0_; have BK302 := n1_; have HB := n2_; have BK307 := n3_; have GW307 := n4_; have GE307 := n5_; have NB295_307 := n6_; have NB307_295 := n7_; have NB302_307 := n8_; have NB307_302 := n9_; clear n0_ n1_ n2_ n3_ n4_ n5_ n6_ n7_ n8_ n9_; clear hb hbox hg; have hnb67 := NB307_295.out; have hnc67 := NB295_307.out; have hnb68 := NB307_302.out; have hnc68 := NB302_307.out; have hcz69_0 : w66.cell? ⟨gb307, 0, none⟩ = some (.string (⟨#[]⟩ : ByteArray)) := (qai BK307.out 0).trans rfl; have hcz69_1 : w66.cell? ⟨gb307, 1, none⟩ = some (.int .i64 0) := (qai BK307.out 1).trans rfl; have hcz69_2 : w66.cell? ⟨gb307, 2, none⟩ = some (.string (⟨#[]⟩ : ByteArray)) := (qai BK307.out 2).trans rfl; have hfz69_0 := qah BK307.out 0; have hfz69_1 := qah BK307.out 1; have hfz69_2 := qah BK307.out 2))
          have n0_ : Aside0 ((((w66.setCell ⟨gb307, 0, none⟩ (.string t303)).setCell ⟨gb307, 1, none⟩ (.int .i64 t304)).setCell ⟨gb307, 2, none⟩ (.string t305)).heap[gb295]? = some (.cells #[.string a1_0, .int .i64 a1_1, .string a1_2] 23 (0, 0))) := ⟨by (with_reducible repeat (first | refine qac ?_ _ | refine qag ?_ | refine qab ?_ _)); refine blk_far ?_ NB295_307.out _; (with_reducible repeat (first | refine qac ?_ _ | refine qag ?_ | refine qab ?_ _)); refine blk_far ?_ NB295_307.out _; (with_reducible repeat (first | refine qac ?_ _ | refine qag ?_ | refine qab ?_ _)); refine blk_far ?_ NB295_307.out _; (with_reducible repeat (first | refine qac ?_ _ | refine qag ?_ | refine qab ?_ _)); exact BK295.out⟩
          have n1_ : Aside0 ((((w66.setCell ⟨gb307, 0, none⟩ (.string t303)).setCell ⟨gb307, 1, none⟩ (.int .i64 t304)).setCell ⟨gb307, 2, none⟩ (.string t305)).heap[gb302]? = some (.cells #[.string t298, .int .i64 t299, .string t300] 23 (0, 0))) := ⟨by (with_reducible repeat (first | refine qac ?_ _ | refine qag ?_ | refine qab ?_ _)); refine blk_far ?_ NB302_307.out _; (with_reducible repeat (first | refine qac ?_ _ | refine qag ?_ | refine qab ?_ _)); refine blk_far ?_ NB302_307.out _; (with_reducible repeat (first | refine qac ?_ _ | refine qag ?_ | refine qab ?_ _)); refine blk_far ?_ NB302_307.out _; (with_reducible repeat (first | refine qac ?_ _ | refine qag ?_ | refine qab ?_ _)); exact BK302.out⟩
          have n2_ : Aside0 ((((w66.setCell ⟨gb307, 0, none⟩ (.string t303)).setCell ⟨gb307, 1, none⟩ (.int .i64 t304)).setCell ⟨gb307, 2, none⟩ (.string t305)).heap[gb307]? = some (.cells #[.string t303, .int .i64 t304, .string t305] 23 (0, 0))) := ⟨by (with_reducible repeat (first | refine qac ?_ _ | refine qag ?_ | refine qab ?_ _)); refine blk_put (cs := #[.string t303, .int .i64 t304, .string (⟨#[]⟩ : ByteArray)]) ?_ 2 _ rfl; (with_reducible repeat (first | refine qac ?_ _ | refine qag ?_ | refine qab ?_ _)); refine blk_put (cs := #[.string t303, .int .i64 0, .string (⟨#[]⟩ : ByteArray)]) ?_ 1 _ rfl; (with_reducible repeat (first | refine qac ?_ _ | refine qag ?_ | refine qab ?_ _)); refine blk_put (cs := #[.string (⟨#[]⟩ : ByteArray), .int .i64 0, .string (⟨#[]⟩ : ByteArray)]) ?_ 0 _ rfl; (with_reducible repeat (first | refine qac ?_ _ | refine qag ?_ | refine qab ?_ _)); exact BK307.out⟩
          have n3_ : Aside0 (Below w.heap.size w (((w66.setCell ⟨gb307, 0, none⟩ (.string t303)).setCell ⟨gb307, 1, none⟩ (.int .i64 t304)).setCell ⟨gb307, 2, none⟩ (.string t305))) := ⟨by repeat (first | (with_reducible first | exact HB.out | apply qaf | apply qaa | apply qae | refine qad ?_ GE295.out | refine qad ?_ GE302.out | refine qad ?_ GE307.out) | exact HB.out)⟩
          (try clear BK295)
          (try clear BK302)
          (try clear BK307)
          (try clear HB)
          generalize (((w66.setCell ⟨gb307, 0, none⟩ (.string t303)).setCell ⟨gb307, 1, none⟩ (.int .i64 t304)).setCell ⟨gb307, 2, none⟩ (.string t305)) = w70 at n0_ n1_ n2_ n3_ ⊢
          have BK295 := n0_
          have BK302 := n1_
          have BK307 := n2_
          have HB := n3_
          clear n0_ n1_ n2_ n3_
          have n0_ := Aside0.mk (qag BK295.out)
          have n1_ := Aside0.mk (qag BK302.out)
          have n2_ := Aside0.mk (qag BK307.out)
          have n3_ := Aside0.mk (qae HB.out)
          clear BK295
          clear BK302
          clear BK307
          clear HB
          have BK295 := n0_
          have BK302 := n1_
          have BK307 := n2_
          have HB := n3_
          clear n0_ n1_ n2_ n3_
          refine start_ (n := 23) (S := fun w' => w'.cell? ⟨gb302, 0, none⟩ = some (.string t298) ∧ w'.cell? ⟨gb302, 1, none⟩ = some (.int .i64 t299) ∧ w'.cell? ⟨gb302, 2, none⟩ = some (.string t300) ∧ w'.cell? ⟨gb307, 0, none⟩ = some (.string t303) ∧ w'.cell? ⟨gb307, 1, none⟩ = some (.int .i64 t304) ∧ w'.cell? ⟨gb307, 2, none⟩ = some (.string t305)) (ds := []) #[false, false, false, false, false, false, false, false, false, false, false, false, false, false, false, false, false, false, false, false, false, false, false] (by kernel_rfl) rfl rfl ⟨(qai BK302.out 0).trans rfl, (qai BK302.out 1).trans rfl, (qai BK302.out 2).trans rfl, (qai BK307.out 0).trans rfl, (qai BK307.out 1).trans rfl, (qai BK307.out 2).trans rfl⟩ (fun hHeld => ?_); refine with_tabW keelsonlaw3_RelationParses.tab7 keelsonlaw3_RelationParses.bits7 (fun HT_ HW_ => ?_)
          generalize w70.drew = w71 at BK295 BK302 BK307 HB hHeld ⊢
          refine take_ (i := 0) (N := some 36) (v := ?_) (a' := ?_) #[true, false, false, false, false, false, false, false, false, false, false, false, false, false, false, false, false, false, false, false, false, false, false] rfl rfl (take_ofW HT_.out HW_.out (by kernel_rfl)) (fun _ _ _ h => h) (Or.inl ⟨by rfl, ?_⟩) hHeld ?_ ?_
          rotate_left
          · rintro w' ⟨s0, s1, s2, s3, s4, s5⟩
            go_simp
            with_reducible rfl
          rotate_left
          · simp only [Act.put, List.setIfInBounds_toArray, List.set_cons_zero, List.set_cons_succ, i64_w, i32_w]
            rfl
          refine take_ (i := 1) (N := some 37) (v := ?_) (a' := ?_) #[true, true, false, false, false, false, false, false, false, false, false, false, false, false, false, false, false, false, false, false, false, false, false] rfl rfl (take_ofW HT_.out HW_.out (by kernel_rfl)) (fun _ _ _ h => h) (Or.inl ⟨by rfl, ?_⟩) hHeld ?_ ?_
          rotate_left
          · rintro w' ⟨s0, s1, s2, s3, s4, s5⟩
            go_simp
            with_reducible rfl
          rotate_left
          · simp only [Act.put, List.setIfInBounds_toArray, List.set_cons_zero, List.set_cons_succ, i64_w, i32_w]
            rfl
          refine pure_ (i := 2) (N := some 38) (v := ?_) (a' := ?_) #[true, true, true, false, false, false, false, false, false, false, false, false, false, false, false, false, false, false, false, false, false, false, false] rfl rfl (any_of HT_.out (by kernel_rfl)) (fun _ _ _ h => h) (Or.inl ⟨by rfl, ?_⟩) ?_ ?_
          rotate_left
          · intro w'
            go_simp
            with_reducible rfl
          rotate_left
          · simp only [Act.put, List.setIfInBounds_toArray, List.set_cons_zero, List.set_cons_succ, i64_w, i32_w]
            rfl
          refine pure_ (i := 3) (N := some 39) (v := ?_) (a' := ?_) #[true, true, true, true, false, false, false, false, false, false, false, false, false, false, false, false, false, false, false, false, false, false, false] rfl rfl (any_of HT_.out (by kernel_rfl)) (fun _ _ _ h => h) (Or.inl ⟨by rfl, ?_⟩) ?_ ?_
          rotate_left
          · intro w'
            go_simp
            with_reducible rfl
          rotate_left
          · simp only [Act.put, List.setIfInBounds_toArray, List.set_cons_zero, List.set_cons_succ, i64_w, i32_w]
            rfl
          refine pure_ (i := 4) (N := some 40) (v := undef) (a' := ?_) #[true, true, true, true, true, false, false, false, false, false, false, false, false, false, false, false, false, false, false, false, false, false, false] rfl rfl (any_of HT_.out (by kernel_rfl)) (fun _ _ _ h => h) (Or.inr ⟨by rfl, rfl⟩) ?_ ?_
          rotate_left
          · simp only [Act.put, List.setIfInBounds_toArray, List.set_cons_zero, List.set_cons_succ, i64_w, i32_w]
            rfl
          refine pure_ (i := 5) (N := some 41) (v := undef) (a' := ?_) #[true, true, true, true, true, true, false, false, false, false, false, false, false, false, false, false, false, false, false, false, false, false, false] rfl rfl (any_of HT_.out (by kernel_rfl)) (fun _ _ _ h => h) (Or.inr ⟨by rfl, rfl⟩) ?_ ?_
          rotate_left
          · simp only [Act.put, List.setIfInBounds_toArray, List.set_cons_zero, List.set_cons_succ, i64_w, i32_w]
            rfl
          refine pure_ (i := 6) (N := some 42) (v := undef) (a' := ?_) #[true, true, true, true, true, true, true, false, false, false, false, false, false, false, false, false, false, false, false, false, false, false, false] rfl rfl (any_of HT_.out (by kernel_rfl)) (fun _ _ _ h => h) (Or.inr ⟨by rfl, rfl⟩) ?_ ?_
          rotate_left
          · simp only [Act.put, List.setIfInBounds_toArray, List.set_cons_zero, List.set_cons_succ, i64_w, i32_w]
            rfl
          refine pure_ (i := 7) (N := some 43) (v := ?_) (a' := ?_) #[true, true, true, true, true, true, true, true, false, false, false, false, false, false, false, false, false, false, false, false, false, false, false] rfl rfl (any_of HT_.out (by kernel_rfl)) (fun _ _ _ h => h) (Or.inl ⟨by rfl, ?_⟩) ?_ ?_
          rotate_left
          · intro w'
            go_simp
            with_reducible rfl
          rotate_left
          · simp only [Act.put, List.setIfInBounds_toArray, List.set_cons_zero, List.set_cons_succ, i64_w, i32_w]
            rfl
          refine pure_ (i := 8) (N := some 44) (v := ?_) (a' := ?_) #[true, true, true, true, true, true, true, true, true, false, false, false, false, false, false, false, false, false, false, false, false, false, false] rfl rfl (any_of HT_.out (by kernel_rfl)) (fun _ _ _ h => h) (Or.inl ⟨by rfl, ?_⟩) ?_ ?_
          rotate_left
          · intro w'
            go_simp
            with_reducible rfl
          rotate_left
          · simp only [Act.put, List.setIfInBounds_toArray, List.set_cons_zero, List.set_cons_succ, i64_w, i32_w]
            rfl
          refine pure_ (i := 9) (N := some 45) (v := undef) (a' := ?_) #[true, true, true, true, true, true, true, true, true, true, false, false, false, false, false, false, false, false, false, false, false, false, false] rfl rfl (any_of HT_.out (by kernel_rfl)) (fun _ _ _ h => h) (Or.inr ⟨by rfl, rfl⟩) ?_ ?_
          rotate_left
          · simp only [Act.put, List.setIfInBounds_toArray, List.set_cons_zero, List.set_cons_succ, i64_w, i32_w]
            rfl
          refine pure_ (i := 10) (N := some 46) (v := undef) (a' := ?_) #[true, true, true, true, true, true, true, true, true, true, true, false, false, false, false, false, false, false, false, false, false, false, false] rfl rfl (any_of HT_.out (by kernel_rfl)) (fun _ _ _ h => h) (Or.inr ⟨by rfl, rfl⟩) ?_ ?_
          rotate_left
          · simp only [Act.put, List.setIfInBounds_toArray, List.set_cons_zero, List.set_cons_succ, i64_w, i32_w]
            rfl
          refine pure_ (i := 11) (N := some 47) (v := undef) (a' := ?_) #[true, true, true, true, true, true, true, true, true, true, true, true, false, false, false, false, false, false, false, false, false, false, false] rfl rfl (any_of HT_.out (by kernel_rfl)) (fun _ _ _ h => h) (Or.inr ⟨by rfl, rfl⟩) ?_ ?_
          rotate_left
          · simp only [Act.put, List.setIfInBounds_toArray, List.set_cons_zero, List.set_cons_succ, i64_w, i32_w]
            rfl
          refine pure_ (i := 12) (N := some 48) (v := undef) (a' := ?_) #[true, true, true, true, true, true, true, true, true, true, true, true, true, false, false, false, false, false, false, false, false, false, false] rfl rfl (any_of HT_.out (by kernel_rfl)) (fun _ _ _ h => h) (Or.inr ⟨by rfl, rfl⟩) ?_ ?_
          rotate_left
          · simp only [Act.put, List.setIfInBounds_toArray, List.set_cons_zero, List.set_cons_succ, i64_w, i32_w]
            rfl
          refine pure_ (i := 13) (N := some 49) (v := undef) (a' := ?_) #[true, true, true, true, true, true, true, true, true, true, true, true, true, true, false, false, false, false, false, false, false, false, false] rfl rfl (any_of HT_.out (by kernel_rfl)) (fun _ _ _ h => h) (Or.inr ⟨by rfl, rfl⟩) ?_ ?_
          rotate_left
          · simp only [Act.put, List.setIfInBounds_toArray, List.set_cons_zero, List.set_cons_succ, i64_w, i32_w]
            rfl
          refine pure_ (i := 14) (N := some 50) (v := ?_) (a' := ?_) #[true, true, true, true, true, true, true, true, true, true, true, true, true, true, true, false, false, false, false, false, false, false, false] rfl rfl (any_of HT_.out (by kernel_rfl)) (fun _ _ _ h => h) (Or.inl ⟨by rfl, ?_⟩) ?_ ?_
          rotate_left
          · intro w'
            go_simp
            with_reducible rfl
          rotate_left
          · simp only [Act.put, List.setIfInBounds_toArray, List.set_cons_zero, List.set_cons_succ, i64_w, i32_w]
            rfl
          refine pure_ (i := 15) (N := some 51) (v := ?_) (a' := ?_) #[true, true, true, true, true, true, true, true, true, true, true, true, true, true, true, true, false, false, false, false, false, false, false] rfl rfl (any_of HT_.out (by kernel_rfl)) (fun _ _ _ h => h) (Or.inl ⟨by rfl, ?_⟩) ?_ ?_
          rotate_left
          · intro w'
            go_simp
            with_reducible rfl
          rotate_left
          · simp only [Act.put, List.setIfInBounds_toArray, List.set_cons_zero, List.set_cons_succ, i64_w, i32_w]
            rfl
          refine pure_ (i := 16) (N := some 52) (v := undef) (a' := ?_) #[true, true, true, true, true, true, true, true, true, true, true, true, true, true, true, true, true, false, false, false, false, false, false] rfl rfl (any_of HT_.out (by kernel_rfl)) (fun _ _ _ h => h) (Or.inr ⟨by rfl, rfl⟩) ?_ ?_
          rotate_left
          · simp only [Act.put, List.setIfInBounds_toArray, List.set_cons_zero, List.set_cons_succ, i64_w, i32_w]
            rfl
          refine pure_ (i := 17) (N := some 53) (v := undef) (a' := ?_) #[true, true, true, true, true, true, true, true, true, true, true, true, true, true, true, true, true, true, false, false, false, false, false] rfl rfl (any_of HT_.out (by kernel_rfl)) (fun _ _ _ h => h) (Or.inr ⟨by rfl, rfl⟩) ?_ ?_
          rotate_left
          · simp only [Act.put, List.setIfInBounds_toArray, List.set_cons_zero, List.set_cons_succ, i64_w, i32_w]
            rfl
          refine pure_ (i := 18) (N := some 54) (v := undef) (a' := ?_) #[true, true, true, true, true, true, true, true, true, true, true, true, true, true, true, true, true, true, true, false, false, false, false] rfl rfl (any_of HT_.out (by kernel_rfl)) (fun _ _ _ h => h) (Or.inr ⟨by rfl, rfl⟩) ?_ ?_
          rotate_left
          · simp only [Act.put, List.setIfInBounds_toArray, List.set_cons_zero, List.set_cons_succ, i64_w, i32_w]
            rfl
          refine pure_ (i := 19) (N := some 55) (v := undef) (a' := ?_) #[true, true, true, true, true, true, true, true, true, true, true, true, true, true, true, true, true, true, true, true, false, false, false] rfl rfl (any_of HT_.out (by kernel_rfl)) (fun _ _ _ h => h) (Or.inr ⟨by rfl, rfl⟩) ?_ ?_
          rotate_left
          · simp only [Act.put, List.setIfInBounds_toArray, List.set_cons_zero, List.set_cons_succ, i64_w, i32_w]
            rfl
          refine pure_ (i := 20) (N := some 56) (v := undef) (a' := ?_) #[true, true, true, true, true, true, true, true, true, true, true, true, true, true, true, true, true, true, true, true, true, false, false] rfl rfl (any_of HT_.out (by kernel_rfl)) (fun _ _ _ h => h) (Or.inr ⟨by rfl, rfl⟩) ?_ ?_
          rotate_left
          · simp only [Act.put, List.setIfInBounds_toArray, List.set_cons_zero, List.set_cons_succ, i64_w, i32_w]
            rfl
          refine pure_ (i := 21) (N := some 57) (v := ?_) (a' := ?_) #[true, true, true, true, true, true, true, true, true, true, true, true, true, true, true, true, true, true, true, true, true, true, false] rfl rfl (any_of HT_.out (by kernel_rfl)) (fun _ _ _ h => h) (Or.inl ⟨by rfl, ?_⟩) ?_ ?_
          rotate_left
          · intro w'
            go_simp
            with_reducible rfl
          rotate_left
          · simp only [Act.put, List.setIfInBounds_toArray, List.set_cons_zero, List.set_cons_succ, i64_w, i32_w]
            rfl
          refine pure_ (i := 22) (N := some 4) (v := ?_) (a' := ?_) #[true, true, true, true, true, true, true, true, true, true, true, true, true, true, true, true, true, true, true, true, true, true, true] rfl rfl (any_of HT_.out (by kernel_rfl)) (fun _ _ _ h => h) (Or.inl ⟨by rfl, ?_⟩) ?_ ?_
          rotate_left
          · intro w'
            go_simp
            with_reducible rfl
          rotate_left
          · simp only [Act.put, List.setIfInBounds_toArray, List.set_cons_zero, List.set_cons_succ, i64_w, i32_w]
            rfl
          refine done_ (done_of HT_.out (by kernel_rfl)) ?_
          try go_wp2
          go_ret
          exact ⟨by first | rfl | (simp [qan, qao] <;> rfl) | (simp [*, qan, qao] <;> rfl), by repeat (first | (with_reducible first | exact HB.out | apply qaf | apply qaa | apply qae | refine qad ?_ GE295.out | refine qad ?_ GE302.out | refine qad ?_ GE307.out) | exact HB.out)⟩
end Go.Proofs.YtohijjobmmibcaaGreatDoor.PA
