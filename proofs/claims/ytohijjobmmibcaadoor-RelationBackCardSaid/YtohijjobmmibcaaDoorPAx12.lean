
import Derived.Test.YtohijjobmmibcaaDoorPAx0
import Derived.Test.YtohijjobmmibcaaDoorPAx1
import Derived.Test.YtohijjobmmibcaaDoorPAx6
import Derived.Test.YtohijjobmmibcaaDoorPAx7
import Derived.Test.YtohijjobmmibcaaDoorPAx9
import Derived.Test.YtohijjobmmibcaaDoorPAx11
namespace Go.Proofs.YtohijjobmmibcaaDoor.PA
open Go.RowKit Go.Proofs.YtohijjobmmibcaaDoorW.PrintWords Go.Proofs.YtohijjobmmibcaaDoorW.PrintLast Go.Proofs.YtohijjobmmibcaaDoorW.PrintMore
attribute [local go_sem] max2_int min2_int max_two min_two max_three min_three max_four min_four
set_option linter.unusedVariables false
set_option linter.unusedSimpArgs false
attribute [local go_sem high] eqA26
mutual
def keelsonlaw3_RelationBack.j0 : Nat → ByteArray → Bool → Bool → ByteArray → Int → ByteArray → Option (Bool)
  | 0, _, _, _, _, _, _ => none
  | k + 1, x0, x5, x25, x285000, x285001, x285002 => if x25 = true then (some x5) else ((relation_Parse.f k x0).bind fun bt287 => (if bt287.2.2.2 = 0 then ((relation_Print.f k bt287.1 bt287.2.1 bt287.2.2.1).bind fun t292 => (if t292.toList = x0.toList then ((relation_Right.f k bt287.1 bt287.2.1 bt287.2.2.1).bind fun t293 => (if t293 = true then (keelsonlaw3_RelationBack.j1 k false x285000 x285001 x285002) else (keelsonlaw3_RelationBack.j1 k true x285000 x285001 x285002))) else (keelsonlaw3_RelationBack.j1 k true x285000 x285001 x285002))) else (keelsonlaw3_RelationBack.j1 k (!(bt287.1.toList == ([] : List UInt8)) || (!(bt287.2.1 == 0) || (!(bt287.2.2.1.toList == ([] : List UInt8))))) x285000 x285001 x285002)))
def keelsonlaw3_RelationBack.j1 : Nat → Bool → ByteArray → Int → ByteArray → Option (Bool)
  | 0, _, _, _, _ => none
  | k + 1, x53, x285000, x285001, x285002 => if x53 = true then (some false) else ((relation_Print.f k x285000 x285001 x285002).bind fun t294 => ((relation_Right.f k x285000 x285001 x285002).bind fun t295 => (if t295 = true then ((relation_Parse.f k t294).bind fun bt296 => (if bt296.2.2.2 = 0 then (some (bt296.1.toList == x285000.toList && (bt296.2.1 == x285001 && (bt296.2.2.1.toList == x285002.toList)))) else (some false))) else (some (t294.toList == ([] : List UInt8))))))
end
def keelsonlaw3_RelationBack.f (k : Nat) (a0 : ByteArray) (a1_0 : ByteArray) (a1_1 : Int) (a1_2 : ByteArray) : Option (Bool) := (keelsonlaw3_shown.f k).bind fun t285 => ((keelsonlaw3_small.f a1_0 a1_1 a1_2).bind fun t286 => (if t285 = true then (if t286 = true then (keelsonlaw3_RelationBack.j0 k a0 t285 (decide ((a0.size : Int) > 500)) a1_0 a1_1 a1_2) else (keelsonlaw3_RelationBack.j0 k a0 t285 true a1_0 a1_1 a1_2)) else (keelsonlaw3_RelationBack.j0 k a0 t285 true a1_0 a1_1 a1_2)))
theorem keelsonlaw3_RelationBack.mono_l : ∀ k, (∀ y0 y1 y2 y3 y4 y5, LeO (keelsonlaw3_RelationBack.j0 k y0 y1 y2 y3 y4 y5) (keelsonlaw3_RelationBack.j0 (k + 1) y0 y1 y2 y3 y4 y5)) ∧ (∀ y0 y1 y2 y3, LeO (keelsonlaw3_RelationBack.j1 k y0 y1 y2 y3) (keelsonlaw3_RelationBack.j1 (k + 1) y0 y1 y2 y3))
  | 0 => ⟨fun _ _ _ _ _ _ r h => by simp [keelsonlaw3_RelationBack.j0] at h, fun _ _ _ _ r h => by simp [keelsonlaw3_RelationBack.j1] at h⟩
  | k + 1 => by
    obtain ⟨ih0, ih1⟩ := keelsonlaw3_RelationBack.mono_l k
    refine ⟨?_, ?_⟩
    · intro y0 y1 y2 y3 y4 y5
      unfold keelsonlaw3_RelationBack.j0
      repeat' first
      | (with_reducible exact ih0 _ _ _ _ _ _)
      | (with_reducible exact ih1 _ _ _ _)
      | (with_reducible exact keelsonlaw3_shown.mono _)
      | (with_reducible exact relation_Parse.mono _ _)
      | (with_reducible exact relation_Print.mono _ _ _ _)
      | (with_reducible exact relation_Right.mono _ _ _ _)
      | (with_reducible exact LeO.refl _)
      | (with_reducible exact LeO.none _)
      | (with_reducible refine LeO.ite ?_ ?_)
      | (with_reducible refine LeO.bind ?_ (fun _ => ?_))
      | exact ih0 _ _ _ _ _ _
      | exact ih1 _ _ _ _
      | exact keelsonlaw3_shown.mono _
      | exact relation_Parse.mono _ _
      | exact relation_Print.mono _ _ _ _
      | exact relation_Right.mono _ _ _ _
      | exact LeO.none _
      | refine LeO.ite ?_ ?_
      | refine LeO.bind ?_ (fun _ => ?_)
    · intro y0 y1 y2 y3
      unfold keelsonlaw3_RelationBack.j1
      repeat' first
      | (with_reducible exact ih0 _ _ _ _ _ _)
      | (with_reducible exact ih1 _ _ _ _)
      | (with_reducible exact keelsonlaw3_shown.mono _)
      | (with_reducible exact relation_Parse.mono _ _)
      | (with_reducible exact relation_Print.mono _ _ _ _)
      | (with_reducible exact relation_Right.mono _ _ _ _)
      | (with_reducible exact LeO.refl _)
      | (with_reducible exact LeO.none _)
      | (with_reducible refine LeO.ite ?_ ?_)
      | (with_reducible refine LeO.bind ?_ (fun _ => ?_))
      | exact ih0 _ _ _ _ _ _
      | exact ih1 _ _ _ _
      | exact keelsonlaw3_shown.mono _
      | exact relation_Parse.mono _ _
      | exact relation_Print.mono _ _ _ _
      | exact relation_Right.mono _ _ _ _
      | exact LeO.none _
      | refine LeO.ite ?_ ?_
      | refine LeO.bind ?_ (fun _ => ?_)
theorem keelsonlaw3_RelationBack.mono : ∀ a0 a1 a2 a3 k, LeO (keelsonlaw3_RelationBack.f k a0 a1 a2 a3) (keelsonlaw3_RelationBack.f (k + 1) a0 a1 a2 a3) := by
  intro a0 a1 a2 a3 k
  obtain ⟨ih0, ih1⟩ := keelsonlaw3_RelationBack.mono_l k
  unfold keelsonlaw3_RelationBack.f
  repeat' first
      | (with_reducible exact ih0 _ _ _ _ _ _)
      | (with_reducible exact ih1 _ _ _ _)
      | (with_reducible exact keelsonlaw3_shown.mono _)
      | (with_reducible exact relation_Parse.mono _ _)
      | (with_reducible exact relation_Print.mono _ _ _ _)
      | (with_reducible exact relation_Right.mono _ _ _ _)
      | (with_reducible exact LeO.refl _)
      | (with_reducible exact LeO.none _)
      | (with_reducible refine LeO.ite ?_ ?_)
      | (with_reducible refine LeO.bind ?_ (fun _ => ?_))
      | exact ih0 _ _ _ _ _ _
      | exact ih1 _ _ _ _
      | exact keelsonlaw3_shown.mono _
      | exact relation_Parse.mono _ _
      | exact relation_Print.mono _ _ _ _
      | exact relation_Right.mono _ _ _ _
      | exact LeO.none _
      | refine LeO.ite ?_ ?_
      | refine LeO.bind ?_ (fun _ => ?_)
set_option maxHeartbeats 8000000 in
set_option maxRecDepth 100000 in
theorem keelsonlaw3_RelationBack.calls (k : Nat) (a0 : ByteArray) (a1_0 : ByteArray) (a1_1 : Int) (a1_2 : ByteArray) (r : Bool) (w : World) (hG : GL w) (h : keelsonlaw3_RelationBack.f k a0 a1_0 a1_1 a1_2 = some r) :
    Calls Tryd.prog 6 #[.string a0, .agg #[.string a1_0, .int .i64 a1_1, .string a1_2]] w fun e w' => e = .returned (.bool r) ∧ Below w.heap.size w w' := by
  have hu26 := Tryd.underlying26
  have HB := Aside0.mk (Below.refl w.heap.size w)
  have H : ((keelsonlaw3_shown.f k).bind fun t285 => ((keelsonlaw3_small.f a1_0 a1_1 a1_2).bind fun t286 => (if t285 = true then (if t286 = true then (keelsonlaw3_RelationBack.j0 k a0 t285 (decide ((a0.size : Int) > 500)) a1_0 a1_1 a1_2) else (keelsonlaw3_RelationBack.j0 k a0 t285 true a1_0 a1_1 a1_2)) else (keelsonlaw3_RelationBack.j0 k a0 t285 true a1_0 a1_1 a1_2)))) = some r := h
  clear h
  replace H := Option.bind_eq_some_iff.mp H
  obtain ⟨t285, A30, H⟩ := H
  replace H : ((keelsonlaw3_small.f a1_0 a1_1 a1_2).bind fun t286 => (if t285 = true then (if t286 = true then (keelsonlaw3_RelationBack.j0 k a0 t285 (decide ((a0.size : Int) > 500)) a1_0 a1_1 a1_2) else (keelsonlaw3_RelationBack.j0 k a0 t285 true a1_0 a1_1 a1_2)) else (keelsonlaw3_RelationBack.j0 k a0 t285 true a1_0 a1_1 a1_2))) = some r := H
  have A3 := Aside0.mk A30
  clear A30
  replace H := Option.bind_eq_some_iff.mp H
  obtain ⟨t286, A40, H⟩ := H
  replace H : (if t285 = true then (if t286 = true then (keelsonlaw3_RelationBack.j0 k a0 t285 (decide ((a0.size : Int) > 500)) a1_0 a1_1 a1_2) else (keelsonlaw3_RelationBack.j0 k a0 t285 true a1_0 a1_1 a1_2)) else (keelsonlaw3_RelationBack.j0 k a0 t285 true a1_0 a1_1 a1_2)) = some r := H
  have A4 := Aside0.mk A40
  clear A40
  have HC5 := Aside0.mk H
  clear H
  go_enter Tryd.func6, Tryd.ntmps6
  go_upto_region 3 with (first | ((with_reducible refine gate_dst (N := 3) rfl ?_); (try (refine gate_guard (by rfl) ?_; dsimp only)); refine box_event ?hg (N := 3) ?hd (cs := #[.string a1_0, .int .i64 a1_1, .string a1_2]) (t := 26) ?hr ?_; (case hd => rfl); (case hg => rfl); (case hr => first | (go_simp; done) | (go_simp; rfl)); intro gb284 hg w6 hbox hb; have n0_ := Aside0.mk (qal (by repeat (first | (with_reducible first | exact HB.out | apply qaf | apply qaa | apply qag) | exact HB.out)) hb); have n1_ := Aside0.mk (hbox); have n2_ := Aside0.mk ((by rw [hg]; exact (qao (by repeat (first | (with_reducible first | exact HB.out | apply qaf | apply qaa | apply qag) | exact HB.out))) : w.heap.size ≤ gb284)); have n3_ := Aside0.mk ((by rw [hg]; exact (qao (by repeat (first | (with_reducible first | exact HB.out | apply qaf | apply qaa | apply qag) | exact HB.out))) : w.heap.size ≤ gb284)); clear HB; have HB := n0_; have BK284 := n1_; have GW284 := n2_; have GE284 := n3_; clear n0_ n1_ n2_ n3_; clear hb hbox hg) | ((with_reducible refine qak (f := 7) rfl ?_); refine goesL_ (some 12) rfl rfl Tryd.func7 (by kernel_rfl) rfl #[] rfl (by (try simp only [List.map_toArray, List.map_cons, List.map_nil]); first | done | rfl | (simp only [List.length_drop, List.length_take]; rfl)) ?_; (with_reducible refine (keelsonlaw3_shown.calls k  t285 _ (by first | exact hG | exact GL.below hG (by repeat (first | (with_reducible first | exact HB.out | apply qaf | apply qaa | apply qag | refine qad ?_ GE284.out) | exact HB.out)))  A3.out).mono ?_); rintro e w7 ⟨rfl, hb⟩; refine ⟨_, rfl, ?_⟩; have n0_ := Aside0.mk (qaj (g := gb284) (o := .cells #[.string a1_0, .int .i64 a1_1, .string a1_2] 26 (0, 0)) (by (with_reducible repeat (first | refine qac ?_ _ | refine qae ?_ | refine qab ?_ _)); exact BK284.out) hb); have n1_ := Aside0.mk (qal (by repeat (first | (with_reducible first | exact HB.out | apply qaf | apply qaa | apply qag | refine qad ?_ GE284.out) | exact HB.out)) hb); clear BK284; clear HB; have BK284 := n0_; have HB := n1_; clear n0_ n1_; (try clear hb); (try clear hb2); (try clear hk); (try clear hi); have hcz8_0 : w7.cell? ⟨gb284, 0, none⟩ = some (.string a1_0) := (qai BK284.out 0).trans rfl; have hcz8_1 : w7.cell? ⟨gb284, 1, none⟩ = some (.int .i64 a1_1) := (qai BK284.out 1).trans rfl; have hcz8_2 : w7.cell? ⟨gb284, 2, none⟩ = some (.string a1_2) := (qai BK284.out 2).trans rfl; have hfz8_0 := qah BK284.out 0; have hfz8_1 := qah BK284.out 1; have hfz8_2 := qah BK284.out 2) | ((with_reducible refine qak (f := 9) rfl ?_); refine goesL_ (some 14) rfl rfl Tryd.func9 (by kernel_rfl) rfl #[.agg #[.string a1_0, .int .i64 a1_1, .string a1_2]] rfl (by (try simp only [List.map_toArray, List.map_cons, List.map_nil]); first | done | rfl | (simp only [List.length_drop, List.length_take]; rfl)) ?_; (with_reducible refine (keelsonlaw3_small.calls a1_0 a1_1 a1_2 t286 _ (by first | exact hG | exact GL.below hG (by repeat (first | (with_reducible first | exact HB.out | apply qaf | apply qaa | apply qag | refine qad ?_ GE284.out) | exact HB.out)))  A4.out).mono ?_); rintro e w9 ⟨rfl, hb⟩; refine ⟨_, rfl, ?_⟩; have n0_ := Aside0.mk (qaj (g := gb284) (o := .cells #[.string a1_0, .int .i64 a1_1, .string a1_2] 26 (0, 0)) (by (with_reducible repeat (first | refine qac ?_ _ | refine qae ?_ | refine qab ?_ _)); exact BK284.out) hb); have n1_ := Aside0.mk (qal (by repeat (first | (with_reducible first | exact HB.out | apply qaf | apply qaa | apply qag | refine qad ?_ GE284.out) | exact HB.out)) hb); clear BK284; clear HB; have BK284 := n0_; have HB := n1_; clear n0_ n1_; (try clear hb); (try clear hb2); (try clear hk); (try clear hi)))
  (try simp only [Act.put, List.setIfInBounds_toArray, List.set_cons_zero, List.set_cons_succ])
  go_cut [25] (fun v25 wc => ∃ (kq : Nat) (x25_4 : Bool), v25 = .bool x25_4 ∧ Aside0 (keelsonlaw3_RelationBack.j0 kq a0 t285 x25_4 a1_0 a1_1 a1_2 = some r) ∧ Aside0 (kq ≤ k) ∧ Aside0 (wc.heap[gb284]? = some (.cells #[.string a1_0, .int .i64 a1_1, .string a1_2] 26 (0, 0))) ∧ Aside0 (Below w.heap.size w wc))
  case first =>
    have H := HC5.out
    clear HC5
    by_cases c10 : t285 = true
    · subst c10
      have H1 : (if t286 = true then (keelsonlaw3_RelationBack.j0 k a0 true (decide ((a0.size : Int) > 500)) a1_0 a1_1 a1_2) else (keelsonlaw3_RelationBack.j0 k a0 true true a1_0 a1_1 a1_2)) = some r := by rw [if_pos rfl] at H; exact H
      clear H
      have H := H1
      clear H1
      by_cases c11 : t286 = true
      · subst c11
        have H1 : (keelsonlaw3_RelationBack.j0 k a0 true (decide ((a0.size : Int) > 500)) a1_0 a1_1 a1_2) = some r := by rw [if_pos rfl] at H; exact H
        clear H
        have H := H1
        clear H1
        have H' := Aside0.mk H
        clear H
        go_wp2
        go_meet
        case rel => exact ⟨_, (decide ((a0.size : Int) > 500)), (by first | rfl | (simp; done) | (simp [*]; done) | (simp [qap]; done)), H', ⟨by first | omega | exact Nat.le_refl _⟩, ⟨by (with_reducible repeat (first | refine qac ?_ _ | refine qae ?_ | refine qab ?_ _)); exact BK284.out⟩, ⟨by repeat (first | (with_reducible first | exact HB.out | apply qaf | apply qaa | apply qag | refine qad ?_ GE284.out) | exact HB.out)⟩⟩
      · replace c11 := Bool.eq_false_iff.mpr c11
        subst c11
        have H1 : (keelsonlaw3_RelationBack.j0 k a0 true true a1_0 a1_1 a1_2) = some r := by rw [if_neg (show ¬ (false = true) by decide)] at H; exact H
        clear H
        have H := H1
        clear H1
        have H' := Aside0.mk H
        clear H
        go_wp2
        go_meet
        case rel => exact ⟨_, (true), (by first | rfl | (simp; done) | (simp [*]; done) | (simp [qap]; done)), H', ⟨by first | omega | exact Nat.le_refl _⟩, ⟨by (with_reducible repeat (first | refine qac ?_ _ | refine qae ?_ | refine qab ?_ _)); exact BK284.out⟩, ⟨by repeat (first | (with_reducible first | exact HB.out | apply qaf | apply qaa | apply qag | refine qad ?_ GE284.out) | exact HB.out)⟩⟩
    · replace c10 := Bool.eq_false_iff.mpr c10
      subst c10
      have H1 : (keelsonlaw3_RelationBack.j0 k a0 false true a1_0 a1_1 a1_2) = some r := by rw [if_neg (show ¬ (false = true) by decide)] at H; exact H
      clear H
      have H := H1
      clear H1
      have H' := Aside0.mk H
      clear H
      go_wp2
      go_meet
      case rel => exact ⟨_, (true), (by first | rfl | (simp; done) | (simp [*]; done) | (simp [qap]; done)), H', ⟨by first | omega | exact Nat.le_refl _⟩, ⟨by (with_reducible repeat (first | refine qac ?_ _ | refine qae ?_ | refine qab ?_ _)); exact BK284.out⟩, ⟨by repeat (first | (with_reducible first | exact HB.out | apply qaf | apply qaa | apply qag | refine qad ?_ GE284.out) | exact HB.out)⟩⟩
  case rest =>
    clear HC5
    try clear c1
    try clear p2
    try clear c6
    try clear c7
    try clear c9
    try clear c10
    try clear c11
    try clear hcz8_0
    try clear hcz8_1
    try clear hcz8_2
    try clear hfz8_0
    try clear hfz8_1
    try clear hfz8_2
    obtain ⟨kq, x25_4, rfl, HA, HJ4, BK284, HB⟩ := hcut
    cases kq with
    | zero => exact absurd HA.out (by simp [keelsonlaw3_RelationBack.j0])
    | succ kj4 =>
      have H := HA.out
      clear HA
      simp only [keelsonlaw3_RelationBack.j0] at H
      by_cases c12 : x25_4 = true
      · subst c12
        have H1 : (some t285) = some r := by rw [if_pos rfl] at H; exact H
        clear H
        have H := H1
        clear H1
        obtain rfl := Option.some.inj H
        go_wp2
        go_ret
        exact ⟨by first | rfl | (simp [qam, qan] <;> rfl) | (simp [*, qam, qan] <;> rfl), by repeat (first | (with_reducible first | exact HB.out | apply qaf | apply qaa | apply qag | refine qad ?_ GE284.out) | exact HB.out)⟩
      · replace c12 := Bool.eq_false_iff.mpr c12
        subst c12
        have H1 : ((relation_Parse.f kj4 a0).bind fun bt287 => (if bt287.2.2.2 = 0 then ((relation_Print.f kj4 bt287.1 bt287.2.1 bt287.2.2.1).bind fun t292 => (if t292.toList = a0.toList then ((relation_Right.f kj4 bt287.1 bt287.2.1 bt287.2.2.1).bind fun t293 => (if t293 = true then (keelsonlaw3_RelationBack.j1 kj4 false a1_0 a1_1 a1_2) else (keelsonlaw3_RelationBack.j1 kj4 true a1_0 a1_1 a1_2))) else (keelsonlaw3_RelationBack.j1 kj4 true a1_0 a1_1 a1_2))) else (keelsonlaw3_RelationBack.j1 kj4 (!(bt287.1.toList == ([] : List UInt8)) || (!(bt287.2.1 == 0) || (!(bt287.2.2.1.toList == ([] : List UInt8))))) a1_0 a1_1 a1_2))) = some r := by rw [if_neg (show ¬ (false = true) by decide)] at H; exact H
        clear H
        have H := H1
        clear H1
        replace H := Option.bind_eq_some_iff.mp H
        obtain ⟨⟨t287, t288, t289, t290⟩, A130, H⟩ := H
        replace H : (if t290 = 0 then ((relation_Print.f kj4 t287 t288 t289).bind fun t292 => (if t292.toList = a0.toList then ((relation_Right.f kj4 t287 t288 t289).bind fun t293 => (if t293 = true then (keelsonlaw3_RelationBack.j1 kj4 false a1_0 a1_1 a1_2) else (keelsonlaw3_RelationBack.j1 kj4 true a1_0 a1_1 a1_2))) else (keelsonlaw3_RelationBack.j1 kj4 true a1_0 a1_1 a1_2))) else (keelsonlaw3_RelationBack.j1 kj4 (!(t287.toList == ([] : List UInt8)) || (!(t288 == 0) || (!(t289.toList == ([] : List UInt8))))) a1_0 a1_1 a1_2)) = some r := H
        have A13 := Aside0.mk A130
        clear A130
        have HC14 := Aside0.mk H
        clear H
        go_upto_region 6 with (first | ((with_reducible refine qak (f := 18) rfl ?_); refine goesL_ (some 29) rfl rfl Tryd.func18 (by kernel_rfl) rfl #[.string a0] rfl (by (try simp only [List.map_toArray, List.map_cons, List.map_nil]); first | done | rfl | (simp only [List.length_drop, List.length_take]; rfl)) ?_; (with_reducible refine (relation_Parse.calls kj4 a0 t287 t288 t289 t290 _ (by first | exact hG | exact GL.below hG (by repeat (first | (with_reducible first | exact HB.out | apply qaf | apply qaa | apply qag | refine qad ?_ GE284.out) | exact HB.out)))  A13.out).mono ?_); rintro e w15 ⟨rfl, hb⟩; refine ⟨_, rfl, ?_⟩; have n0_ := Aside0.mk (qaj (g := gb284) (o := .cells #[.string a1_0, .int .i64 a1_1, .string a1_2] 26 (0, 0)) (by (with_reducible repeat (first | refine qac ?_ _ | refine qae ?_ | refine qab ?_ _)); exact BK284.out) hb); have n1_ := Aside0.mk (qal (by repeat (first | (with_reducible first | exact HB.out | apply qaf | apply qaa | apply qag | refine qad ?_ GE284.out) | exact HB.out)) hb); clear BK284; clear HB; have BK284 := n0_; have HB := n1_; clear n0_ n1_; (try clear hb); (try clear hb2); (try clear hk); (try clear hi)) | ((with_reducible refine gate_dst (N := 7) rfl ?_); (try (refine gate_guard (by rfl) ?_; dsimp only)); refine box_event ?hg (N := 7) ?hd (cs := #[.string (⟨#[]⟩ : ByteArray), .int .i64 0, .string (⟨#[]⟩ : ByteArray)]) (t := 26) ?hr ?_; (case hd => rfl); (case hg => rfl); (case hr => first | (go_simp; done) | (go_simp; rfl)); intro gb291 hg w16 hbox hb; have n0_ := Aside0.mk (qaj (g := gb284) (o := .cells #[.string a1_0, .int .i64 a1_1, .string a1_2] 26 (0, 0)) (by (with_reducible repeat (first | refine qac ?_ _ | refine qae ?_ | refine qab ?_ _)); exact BK284.out) hb); have n1_ := Aside0.mk (qal (by repeat (first | (with_reducible first | exact HB.out | apply qaf | apply qaa | apply qag | refine qad ?_ GE284.out) | exact HB.out)) hb); have n2_ := Aside0.mk (hbox); have n3_ := Aside0.mk ((by rw [hg]; exact (qao (by repeat (first | (with_reducible first | exact HB.out | apply qaf | apply qaa | apply qag | refine qad ?_ GE284.out) | exact HB.out))) : w.heap.size ≤ gb291)); have n4_ := Aside0.mk ((by rw [hg]; exact (qao (by repeat (first | (with_reducible first | exact HB.out | apply qaf | apply qaa | apply qag | refine qad ?_ GE284.out) | exact HB.out))) : w.heap.size ≤ gb291)); have n5_ := Aside0.mk ((by rw [hg]; exact Nat.ne_of_lt (blk_lt (g := gb284) (o := .cells #[.string a1_0, .int .i64 a1_1, .string a1_2] 26 (0, 0)) (by (with_reducible repeat (first | refine qac ?_ _ | refine qae ?_ | refine qab ?_ _)); exact BK284.out)) : gb284 ≠ gb291)); have n6_ := Aside0.mk ((by rw [hg]; exact Nat.ne_of_gt (blk_lt (g := gb284) (o := .cells #[.string a1_0, .int .i64 a1_1, .string a1_2] 26 (0, 0)) (by (with_reducible repeat (first | refine qac ?_ _ | refine qae ?_ | refine qab ?_ _)); exact BK284.out)) : gb291 ≠ gb284)); clear BK284; clear HB; have BK284 := n0_; have HB := n1_; have BK291 := n2_; have GW291 := n3_; have GE291 := n4_; have NB284_291 := n5_; have NB291_284 := n6_; clear n0_ n1_ n2_ n3_ n4_ n5_ n6_; clear hb hbox hg; have hnb17 := NB291_284.out; have hnc17 := NB284_291.out; have hcz18_0 : w16.cell? ⟨gb291, 0, none⟩ = some (.string (⟨#[]⟩ : ByteArray)) := (qai BK291.out 0).trans rfl; have hcz18_1 : w16.cell? ⟨gb291, 1, none⟩ = some (.int .i64 0) := (qai BK291.out 1).trans rfl; have hcz18_2 : w16.cell? ⟨gb291, 2, none⟩ = some (.string (⟨#[]⟩ : ByteArray)) := (qai BK291.out 2).trans rfl; have hfz18_0 := qah BK291.out 0; have hfz18_1 := qah BK291.out 1; have hfz18_2 := qah BK291.out 2))
        (try simp only [Act.put, List.setIfInBounds_toArray, List.set_cons_zero, List.set_cons_succ])
        go_cut [53] (fun v53 wc => ∃ (kq : Nat) (x53_13 : Bool), v53 = .bool x53_13 ∧ Aside0 (keelsonlaw3_RelationBack.j1 kq x53_13 a1_0 a1_1 a1_2 = some r) ∧ Aside0 (kq ≤ kj4) ∧ Aside0 (wc.heap[gb284]? = some (.cells #[.string a1_0, .int .i64 a1_1, .string a1_2] 26 (0, 0))) ∧ Aside0 (wc.heap[gb291]? = some (.cells #[.string t287, .int .i64 t288, .string t289] 26 (0, 0))) ∧ Aside0 (Below w.heap.size w wc))
        case first =>
          have H := HC14.out
          clear HC14
          by_cases c19 : t290 = 0
          · rw [if_pos c19] at H
            have c19b0 : (t290 == 0) = true := beq_iff_eq.mpr c19
            have c19b1 : (t290 != 0) = false := bne_eq_false_iff_eq.mpr c19
            clear c19
            (first | rw [c19b0] | (simp only [i64_w, i32_w]; rw [c19b0]) | skip)
            replace H := Option.bind_eq_some_iff.mp H
            obtain ⟨t292, A200, H⟩ := H
            replace H : (if t292.toList = a0.toList then ((relation_Right.f kj4 t287 t288 t289).bind fun t293 => (if t293 = true then (keelsonlaw3_RelationBack.j1 kj4 false a1_0 a1_1 a1_2) else (keelsonlaw3_RelationBack.j1 kj4 true a1_0 a1_1 a1_2))) else (keelsonlaw3_RelationBack.j1 kj4 true a1_0 a1_1 a1_2)) = some r := H
            have A20 := Aside0.mk A200
            clear A200
            by_cases c21 : t292.toList = a0.toList
            · rw [if_pos c21] at H
              have c21b0 : (t292.toList == a0.toList) = true := beq_iff_eq.mpr c21
              have c21b1 : (t292.toList != a0.toList) = false := bne_eq_false_iff_eq.mpr c21
              clear c21
              replace H := Option.bind_eq_some_iff.mp H
              obtain ⟨t293, A220, H⟩ := H
              replace H : (if t293 = true then (keelsonlaw3_RelationBack.j1 kj4 false a1_0 a1_1 a1_2) else (keelsonlaw3_RelationBack.j1 kj4 true a1_0 a1_1 a1_2)) = some r := H
              have A22 := Aside0.mk A220
              clear A220
              by_cases c23 : t293 = true
              · subst c23
                have H1 : (keelsonlaw3_RelationBack.j1 kj4 false a1_0 a1_1 a1_2) = some r := by rw [if_pos rfl] at H; exact H
                clear H
                have H := H1
                clear H1
                have H' := Aside0.mk H
                clear H
                have hnb24 := NB291_284.out
                have hnc24 := NB284_291.out
                have hcz25_0 : w16.cell? ⟨gb291, 0, none⟩ = some (.string (⟨#[]⟩ : ByteArray)) := (qai BK291.out 0).trans rfl
                have hcz25_1 : w16.cell? ⟨gb291, 1, none⟩ = some (.int .i64 0) := (qai BK291.out 1).trans rfl
                have hcz25_2 : w16.cell? ⟨gb291, 2, none⟩ = some (.string (⟨#[]⟩ : ByteArray)) := (qai BK291.out 2).trans rfl
                have hfz25_0 := qah BK291.out 0
                have hfz25_1 := qah BK291.out 1
                have hfz25_2 := qah BK291.out 2
                go_wp2_with (first | (go_at_call 19; (with_reducible refine (relation_Print.calls kj4 t287 t288 t289 t292 _ (by first | exact hG | exact GL.below hG (by repeat (first | (with_reducible first | exact HB.out | apply qaf | apply qaa | apply qag | refine qad ?_ GE284.out | refine qad ?_ GE291.out) | exact HB.out)))  A20.out).mono ?_); rintro e w26 ⟨rfl, hb⟩; have n0_ := Aside0.mk (qaj (g := gb284) (o := .cells #[.string a1_0, .int .i64 a1_1, .string a1_2] 26 (0, 0)) (by (with_reducible repeat (first | refine qac ?_ _ | refine qae ?_ | refine qab ?_ _)); refine blk_far ?_ NB284_291.out _; (with_reducible repeat (first | refine qac ?_ _ | refine qae ?_ | refine qab ?_ _)); refine blk_far ?_ NB284_291.out _; (with_reducible repeat (first | refine qac ?_ _ | refine qae ?_ | refine qab ?_ _)); refine blk_far ?_ NB284_291.out _; (with_reducible repeat (first | refine qac ?_ _ | refine qae ?_ | refine qab ?_ _)); exact BK284.out) hb); have n1_ := Aside0.mk (qaj (g := gb291) (o := .cells #[.string t287, .int .i64 t288, .string t289] 26 (0, 0)) (by (with_reducible repeat (first | refine qac ?_ _ | refine qae ?_ | refine qab ?_ _)); refine blk_put (cs := #[.string t287, .int .i64 t288, .string (⟨#[]⟩ : ByteArray)]) ?_ 2 _ rfl; (with_reducible repeat (first | refine qac ?_ _ | refine qae ?_ | refine qab ?_ _)); refine blk_put (cs := #[.string t287, .int .i64 0, .string (⟨#[]⟩ : ByteArray)]) ?_ 1 _ rfl; (with_reducible repeat (first | refine qac ?_ _ | refine qae ?_ | refine qab ?_ _)); refine blk_put (cs := #[.string (⟨#[]⟩ : ByteArray), .int .i64 0, .string (⟨#[]⟩ : ByteArray)]) ?_ 0 _ rfl; (with_reducible repeat (first | refine qac ?_ _ | refine qae ?_ | refine qab ?_ _)); exact BK291.out) hb); have n2_ := Aside0.mk (qal (by repeat (first | (with_reducible first | exact HB.out | apply qaf | apply qaa | apply qag | refine qad ?_ GE284.out | refine qad ?_ GE291.out) | exact HB.out)) hb); clear BK284; clear BK291; clear HB; have BK284 := n0_; have BK291 := n1_; have HB := n2_; clear n0_ n1_ n2_; (try clear hb); (try clear hb2); (try clear hk); (try clear hi); have hcz27_0 : w26.cell? ⟨gb291, 0, none⟩ = some (.string t287) := (qai BK291.out 0).trans rfl; have hcz27_1 : w26.cell? ⟨gb291, 1, none⟩ = some (.int .i64 t288) := (qai BK291.out 1).trans rfl; have hcz27_2 : w26.cell? ⟨gb291, 2, none⟩ = some (.string t289) := (qai BK291.out 2).trans rfl; have hfz27_0 := qah BK291.out 0; have hfz27_1 := qah BK291.out 1; have hfz27_2 := qah BK291.out 2) | (go_at_call 20; (with_reducible refine (relation_Right.calls kj4 t287 t288 t289 true _ (by first | exact hG | exact GL.below hG (by repeat (first | (with_reducible first | exact HB.out | apply qaf | apply qaa | apply qag | refine qad ?_ GE284.out | refine qad ?_ GE291.out) | exact HB.out)))  A22.out).mono ?_); rintro e w28 ⟨rfl, hb⟩; have n0_ := Aside0.mk (qaj (g := gb284) (o := .cells #[.string a1_0, .int .i64 a1_1, .string a1_2] 26 (0, 0)) (by (with_reducible repeat (first | refine qac ?_ _ | refine qae ?_ | refine qab ?_ _)); exact BK284.out) hb); have n1_ := Aside0.mk (qaj (g := gb291) (o := .cells #[.string t287, .int .i64 t288, .string t289] 26 (0, 0)) (by (with_reducible repeat (first | refine qac ?_ _ | refine qae ?_ | refine qab ?_ _)); exact BK291.out) hb); have n2_ := Aside0.mk (qal (by repeat (first | (with_reducible first | exact HB.out | apply qaf | apply qaa | apply qag | refine qad ?_ GE284.out | refine qad ?_ GE291.out) | exact HB.out)) hb); clear BK284; clear BK291; clear HB; have BK284 := n0_; have BK291 := n1_; have HB := n2_; clear n0_ n1_ n2_; (try clear hb); (try clear hb2); (try clear hk); (try clear hi)))
                go_meet
                case rel => exact ⟨_, (false), (by first | rfl | (simp; done) | (simp [*]; done) | (simp [qap]; done)), H', ⟨by have := HJ4.out; first | omega | exact Nat.le_refl _⟩, ⟨by (with_reducible repeat (first | refine qac ?_ _ | refine qae ?_ | refine qab ?_ _)); exact BK284.out⟩, ⟨by (with_reducible repeat (first | refine qac ?_ _ | refine qae ?_ | refine qab ?_ _)); exact BK291.out⟩, ⟨by repeat (first | (with_reducible first | exact HB.out | apply qaf | apply qaa | apply qag | refine qad ?_ GE284.out | refine qad ?_ GE291.out) | exact HB.out)⟩⟩
              · replace c23 := Bool.eq_false_iff.mpr c23
                subst c23
                have H1 : (keelsonlaw3_RelationBack.j1 kj4 true a1_0 a1_1 a1_2) = some r := by rw [if_neg (show ¬ (false = true) by decide)] at H; exact H
                clear H
                have H := H1
                clear H1
                have H' := Aside0.mk H
                clear H
                have hnb29 := NB291_284.out
                have hnc29 := NB284_291.out
                have hcz30_0 : w16.cell? ⟨gb291, 0, none⟩ = some (.string (⟨#[]⟩ : ByteArray)) := (qai BK291.out 0).trans rfl
                have hcz30_1 : w16.cell? ⟨gb291, 1, none⟩ = some (.int .i64 0) := (qai BK291.out 1).trans rfl
                have hcz30_2 : w16.cell? ⟨gb291, 2, none⟩ = some (.string (⟨#[]⟩ : ByteArray)) := (qai BK291.out 2).trans rfl
                have hfz30_0 := qah BK291.out 0
                have hfz30_1 := qah BK291.out 1
                have hfz30_2 := qah BK291.out 2
                go_wp2_with (first | (go_at_call 19; (with_reducible refine (relation_Print.calls kj4 t287 t288 t289 t292 _ (by first | exact hG | exact GL.below hG (by repeat (first | (with_reducible first | exact HB.out | apply qaf | apply qaa | apply qag | refine qad ?_ GE284.out | refine qad ?_ GE291.out) | exact HB.out)))  A20.out).mono ?_); rintro e w31 ⟨rfl, hb⟩; have n0_ := Aside0.mk (qaj (g := gb284) (o := .cells #[.string a1_0, .int .i64 a1_1, .string a1_2] 26 (0, 0)) (by (with_reducible repeat (first | refine qac ?_ _ | refine qae ?_ | refine qab ?_ _)); refine blk_far ?_ NB284_291.out _; (with_reducible repeat (first | refine qac ?_ _ | refine qae ?_ | refine qab ?_ _)); refine blk_far ?_ NB284_291.out _; (with_reducible repeat (first | refine qac ?_ _ | refine qae ?_ | refine qab ?_ _)); refine blk_far ?_ NB284_291.out _; (with_reducible repeat (first | refine qac ?_ _ | refine qae ?_ | refine qab ?_ _)); exact BK284.out) hb); have n1_ := Aside0.mk (qaj (g := gb291) (o := .cells #[.string t287, .int .i64 t288, .string t289] 26 (0, 0)) (by (with_reducible repeat (first | refine qac ?_ _ | refine qae ?_ | refine qab ?_ _)); refine blk_put (cs := #[.string t287, .int .i64 t288, .string (⟨#[]⟩ : ByteArray)]) ?_ 2 _ rfl; (with_reducible repeat (first | refine qac ?_ _ | refine qae ?_ | refine qab ?_ _)); refine blk_put (cs := #[.string t287, .int .i64 0, .string (⟨#[]⟩ : ByteArray)]) ?_ 1 _ rfl; (with_reducible repeat (first | refine qac ?_ _ | refine qae ?_ | refine qab ?_ _)); refine blk_put (cs := #[.string (⟨#[]⟩ : ByteArray), .int .i64 0, .string (⟨#[]⟩ : ByteArray)]) ?_ 0 _ rfl; (with_reducible repeat (first | refine qac ?_ _ | refine qae ?_ | refine qab ?_ _)); exact BK291.out) hb); have n2_ := Aside0.mk (qal (by repeat (first | (with_reducible first | exact HB.out | apply qaf | apply qaa | apply qag | refine qad ?_ GE284.out | refine qad ?_ GE291.out) | exact HB.out)) hb); clear BK284; clear BK291; clear HB; have BK284 := n0_; have BK291 := n1_; have HB := n2_; clear n0_ n1_ n2_; (try clear hb); (try clear hb2); (try clear hk); (try clear hi); have hcz32_0 : w31.cell? ⟨gb291, 0, none⟩ = some (.string t287) := (qai BK291.out 0).trans rfl; have hcz32_1 : w31.cell? ⟨gb291, 1, none⟩ = some (.int .i64 t288) := (qai BK291.out 1).trans rfl; have hcz32_2 : w31.cell? ⟨gb291, 2, none⟩ = some (.string t289) := (qai BK291.out 2).trans rfl; have hfz32_0 := qah BK291.out 0; have hfz32_1 := qah BK291.out 1; have hfz32_2 := qah BK291.out 2) | (go_at_call 20; (with_reducible refine (relation_Right.calls kj4 t287 t288 t289 false _ (by first | exact hG | exact GL.below hG (by repeat (first | (with_reducible first | exact HB.out | apply qaf | apply qaa | apply qag | refine qad ?_ GE284.out | refine qad ?_ GE291.out) | exact HB.out)))  A22.out).mono ?_); rintro e w33 ⟨rfl, hb⟩; have n0_ := Aside0.mk (qaj (g := gb284) (o := .cells #[.string a1_0, .int .i64 a1_1, .string a1_2] 26 (0, 0)) (by (with_reducible repeat (first | refine qac ?_ _ | refine qae ?_ | refine qab ?_ _)); exact BK284.out) hb); have n1_ := Aside0.mk (qaj (g := gb291) (o := .cells #[.string t287, .int .i64 t288, .string t289] 26 (0, 0)) (by (with_reducible repeat (first | refine qac ?_ _ | refine qae ?_ | refine qab ?_ _)); exact BK291.out) hb); have n2_ := Aside0.mk (qal (by repeat (first | (with_reducible first | exact HB.out | apply qaf | apply qaa | apply qag | refine qad ?_ GE284.out | refine qad ?_ GE291.out) | exact HB.out)) hb); clear BK284; clear BK291; clear HB; have BK284 := n0_; have BK291 := n1_; have HB := n2_; clear n0_ n1_ n2_; (try clear hb); (try clear hb2); (try clear hk); (try clear hi)))
                go_meet
                case rel => exact ⟨_, (true), (by first | rfl | (simp; done) | (simp [*]; done) | (simp [qap]; done)), H', ⟨by have := HJ4.out; first | omega | exact Nat.le_refl _⟩, ⟨by (with_reducible repeat (first | refine qac ?_ _ | refine qae ?_ | refine qab ?_ _)); exact BK284.out⟩, ⟨by (with_reducible repeat (first | refine qac ?_ _ | refine qae ?_ | refine qab ?_ _)); exact BK291.out⟩, ⟨by repeat (first | (with_reducible first | exact HB.out | apply qaf | apply qaa | apply qag | refine qad ?_ GE284.out | refine qad ?_ GE291.out) | exact HB.out)⟩⟩
            · rw [if_neg c21] at H
              have c21b0 : (t292.toList == a0.toList) = false := beq_eq_false_iff_ne.mpr c21
              have c21b1 : (t292.toList != a0.toList) = true := bne_iff_ne.mpr c21
              have H' := Aside0.mk H
              clear H
              have hnb34 := NB291_284.out
              have hnc34 := NB284_291.out
              have hcz35_0 : w16.cell? ⟨gb291, 0, none⟩ = some (.string (⟨#[]⟩ : ByteArray)) := (qai BK291.out 0).trans rfl
              have hcz35_1 : w16.cell? ⟨gb291, 1, none⟩ = some (.int .i64 0) := (qai BK291.out 1).trans rfl
              have hcz35_2 : w16.cell? ⟨gb291, 2, none⟩ = some (.string (⟨#[]⟩ : ByteArray)) := (qai BK291.out 2).trans rfl
              have hfz35_0 := qah BK291.out 0
              have hfz35_1 := qah BK291.out 1
              have hfz35_2 := qah BK291.out 2
              go_wp2_with (first | (go_at_call 19; (with_reducible refine (relation_Print.calls kj4 t287 t288 t289 t292 _ (by first | exact hG | exact GL.below hG (by repeat (first | (with_reducible first | exact HB.out | apply qaf | apply qaa | apply qag | refine qad ?_ GE284.out | refine qad ?_ GE291.out) | exact HB.out)))  A20.out).mono ?_); rintro e w36 ⟨rfl, hb⟩; have n0_ := Aside0.mk (qaj (g := gb284) (o := .cells #[.string a1_0, .int .i64 a1_1, .string a1_2] 26 (0, 0)) (by (with_reducible repeat (first | refine qac ?_ _ | refine qae ?_ | refine qab ?_ _)); refine blk_far ?_ NB284_291.out _; (with_reducible repeat (first | refine qac ?_ _ | refine qae ?_ | refine qab ?_ _)); refine blk_far ?_ NB284_291.out _; (with_reducible repeat (first | refine qac ?_ _ | refine qae ?_ | refine qab ?_ _)); refine blk_far ?_ NB284_291.out _; (with_reducible repeat (first | refine qac ?_ _ | refine qae ?_ | refine qab ?_ _)); exact BK284.out) hb); have n1_ := Aside0.mk (qaj (g := gb291) (o := .cells #[.string t287, .int .i64 t288, .string t289] 26 (0, 0)) (by (with_reducible repeat (first | refine qac ?_ _ | refine qae ?_ | refine qab ?_ _)); refine blk_put (cs := #[.string t287, .int .i64 t288, .string (⟨#[]⟩ : ByteArray)]) ?_ 2 _ rfl; (with_reducible repeat (first | refine qac ?_ _ | refine qae ?_ | refine qab ?_ _)); refine blk_put (cs := #[.string t287, .int .i64 0, .string (⟨#[]⟩ : ByteArray)]) ?_ 1 _ rfl; (with_reducible repeat (first | refine qac ?_ _ | refine qae ?_ | refine qab ?_ _)); refine blk_put (cs := #[.string (⟨#[]⟩ : ByteArray), .int .i64 0, .string (⟨#[]⟩ : ByteArray)]) ?_ 0 _ rfl; (with_reducible repeat (first | refine qac ?_ _ | refine qae ?_ | refine qab ?_ _)); exact BK291.out) hb); have n2_ := Aside0.mk (qal (by repeat (first | (with_reducible first | exact HB.out | apply qaf | apply qaa | apply qag | refine qad ?_ GE284.out | refine qad ?_ GE291.out) | exact HB.out)) hb); clear BK284; clear BK291; clear HB; have BK284 := n0_; have BK291 := n1_; have HB := n2_; clear n0_ n1_ n2_; (try clear hb); (try clear hb2); (try clear hk); (try clear hi)))
              go_meet
              case rel => exact ⟨_, (true), (by first | rfl | (simp; done) | (simp [*]; done) | (simp [qap]; done)), H', ⟨by have := HJ4.out; first | omega | exact Nat.le_refl _⟩, ⟨by (with_reducible repeat (first | refine qac ?_ _ | refine qae ?_ | refine qab ?_ _)); exact BK284.out⟩, ⟨by (with_reducible repeat (first | refine qac ?_ _ | refine qae ?_ | refine qab ?_ _)); exact BK291.out⟩, ⟨by repeat (first | (with_reducible first | exact HB.out | apply qaf | apply qaa | apply qag | refine qad ?_ GE284.out | refine qad ?_ GE291.out) | exact HB.out)⟩⟩
          · rw [if_neg c19] at H
            have c19b0 : (t290 == 0) = false := beq_eq_false_iff_ne.mpr c19
            have c19b1 : (t290 != 0) = true := bne_iff_ne.mpr c19
            (first | rw [c19b0] | (simp only [i64_w, i32_w]; rw [c19b0]) | skip)
            have H' := Aside0.mk H
            clear H
            have hnb37 := NB291_284.out
            have hnc37 := NB284_291.out
            have hcz38_0 : w16.cell? ⟨gb291, 0, none⟩ = some (.string (⟨#[]⟩ : ByteArray)) := (qai BK291.out 0).trans rfl
            have hcz38_1 : w16.cell? ⟨gb291, 1, none⟩ = some (.int .i64 0) := (qai BK291.out 1).trans rfl
            have hcz38_2 : w16.cell? ⟨gb291, 2, none⟩ = some (.string (⟨#[]⟩ : ByteArray)) := (qai BK291.out 2).trans rfl
            have hfz38_0 := qah BK291.out 0
            have hfz38_1 := qah BK291.out 1
            have hfz38_2 := qah BK291.out 2
            go_wp2
            go_meet
            case rel => exact ⟨_, ((!(t287.toList == ([] : List UInt8)) || (!(t288 == 0) || (!(t289.toList == ([] : List UInt8)))))), (by first | rfl | (simp; done) | (simp [*]; done) | (simp [qap]; done)), H', ⟨by have := HJ4.out; first | omega | exact Nat.le_refl _⟩, ⟨by (with_reducible repeat (first | refine qac ?_ _ | refine qae ?_ | refine qab ?_ _)); refine blk_far ?_ NB284_291.out _; (with_reducible repeat (first | refine qac ?_ _ | refine qae ?_ | refine qab ?_ _)); refine blk_far ?_ NB284_291.out _; (with_reducible repeat (first | refine qac ?_ _ | refine qae ?_ | refine qab ?_ _)); refine blk_far ?_ NB284_291.out _; (with_reducible repeat (first | refine qac ?_ _ | refine qae ?_ | refine qab ?_ _)); exact BK284.out⟩, ⟨by (with_reducible repeat (first | refine qac ?_ _ | refine qae ?_ | refine qab ?_ _)); refine blk_put (cs := #[.string t287, .int .i64 t288, .string (⟨#[]⟩ : ByteArray)]) ?_ 2 _ rfl; (with_reducible repeat (first | refine qac ?_ _ | refine qae ?_ | refine qab ?_ _)); refine blk_put (cs := #[.string t287, .int .i64 0, .string (⟨#[]⟩ : ByteArray)]) ?_ 1 _ rfl; (with_reducible repeat (first | refine qac ?_ _ | refine qae ?_ | refine qab ?_ _)); refine blk_put (cs := #[.string (⟨#[]⟩ : ByteArray), .int .i64 0, .string (⟨#[]⟩ : ByteArray)]) ?_ 0 _ rfl; (with_reducible repeat (first | refine qac ?_ _ | refine qae ?_ | refine qab ?_ _)); exact BK291.out⟩, ⟨by repeat (first | (with_reducible first | exact HB.out | apply qaf | apply qaa | apply qag | refine qad ?_ GE284.out | refine qad ?_ GE291.out) | exact HB.out)⟩⟩
        case rest =>
          clear HC14
          try clear c1
          try clear c2
          try clear p2
          try clear c3
          try clear c6
          try clear c7
          try clear c9
          try clear c10
          try clear c11
          try clear c12
          try clear c17
          try clear c18
          try clear c19
          try clear c19b0
          try clear c19b1
          try clear c21
          try clear c21b0
          try clear c21b1
          try clear c23
          try clear c24
          try clear c29
          try clear c34
          try clear c37
          try clear hcz18_0
          try clear hcz18_1
          try clear hcz18_2
          try clear hcz25_0
          try clear hcz25_1
          try clear hcz25_2
          try clear hcz27_0
          try clear hcz27_1
          try clear hcz27_2
          try clear hcz30_0
          try clear hcz30_1
          try clear hcz30_2
          try clear hcz32_0
          try clear hcz32_1
          try clear hcz32_2
          try clear hcz35_0
          try clear hcz35_1
          try clear hcz35_2
          try clear hcz38_0
          try clear hcz38_1
          try clear hcz38_2
          try clear hcz8_0
          try clear hcz8_1
          try clear hcz8_2
          try clear hfz18_0
          try clear hfz18_1
          try clear hfz18_2
          try clear hfz25_0
          try clear hfz25_1
          try clear hfz25_2
          try clear hfz27_0
          try clear hfz27_1
          try clear hfz27_2
          try clear hfz30_0
          try clear hfz30_1
          try clear hfz30_2
          try clear hfz32_0
          try clear hfz32_1
          try clear hfz32_2
          try clear hfz35_0
          try clear hfz35_1
          try clear hfz35_2
          try clear hfz38_0
          try clear hfz38_1
          try clear hfz38_2
          try clear hfz8_0
          try clear hfz8_1
          try clear hfz8_2
          try clear p2
          obtain ⟨kq, x53_13, rfl, HA, HJ13, BK284, BK291, HB⟩ := hcut
          cases kq with
          | zero => exact absurd HA.out (by simp [keelsonlaw3_RelationBack.j1])
          | succ kj13 =>
            have H := HA.out
            clear HA
            simp only [keelsonlaw3_RelationBack.j1] at H
            by_cases c39 : x53_13 = true
            · subst c39
              have H1 : (some false) = some r := by rw [if_pos rfl] at H; exact H
              clear H
              have H := H1
              clear H1
              obtain rfl := Option.some.inj H
              go_wp2
              go_ret
              exact ⟨by first | rfl | (simp [qam, qan] <;> rfl) | (simp [*, qam, qan] <;> rfl), by repeat (first | (with_reducible first | exact HB.out | apply qaf | apply qaa | apply qag | refine qad ?_ GE284.out | refine qad ?_ GE291.out) | exact HB.out)⟩
            · replace c39 := Bool.eq_false_iff.mpr c39
              subst c39
              have H1 : ((relation_Print.f kj13 a1_0 a1_1 a1_2).bind fun t294 => ((relation_Right.f kj13 a1_0 a1_1 a1_2).bind fun t295 => (if t295 = true then ((relation_Parse.f kj13 t294).bind fun bt296 => (if bt296.2.2.2 = 0 then (some (bt296.1.toList == a1_0.toList && (bt296.2.1 == a1_1 && (bt296.2.2.1.toList == a1_2.toList)))) else (some false))) else (some (t294.toList == ([] : List UInt8)))))) = some r := by rw [if_neg (show ¬ (false = true) by decide)] at H; exact H
              clear H
              have H := H1
              clear H1
              replace H := Option.bind_eq_some_iff.mp H
              obtain ⟨t294, A400, H⟩ := H
              replace H : ((relation_Right.f kj13 a1_0 a1_1 a1_2).bind fun t295 => (if t295 = true then ((relation_Parse.f kj13 t294).bind fun bt296 => (if bt296.2.2.2 = 0 then (some (bt296.1.toList == a1_0.toList && (bt296.2.1 == a1_1 && (bt296.2.2.1.toList == a1_2.toList)))) else (some false))) else (some (t294.toList == ([] : List UInt8))))) = some r := H
              have A40 := Aside0.mk A400
              clear A400
              replace H := Option.bind_eq_some_iff.mp H
              obtain ⟨t295, A410, H⟩ := H
              replace H : (if t295 = true then ((relation_Parse.f kj13 t294).bind fun bt296 => (if bt296.2.2.2 = 0 then (some (bt296.1.toList == a1_0.toList && (bt296.2.1 == a1_1 && (bt296.2.2.1.toList == a1_2.toList)))) else (some false))) else (some (t294.toList == ([] : List UInt8)))) = some r := H
              have A41 := Aside0.mk A410
              clear A410
              by_cases c42 : t295 = true
              · subst c42
                have H1 : ((relation_Parse.f kj13 t294).bind fun bt296 => (if bt296.2.2.2 = 0 then (some (bt296.1.toList == a1_0.toList && (bt296.2.1 == a1_1 && (bt296.2.2.1.toList == a1_2.toList)))) else (some false))) = some r := by rw [if_pos rfl] at H; exact H
                clear H
                have H := H1
                clear H1
                replace H := Option.bind_eq_some_iff.mp H
                obtain ⟨⟨t296, t297, t298, t299⟩, A430, H⟩ := H
                replace H : (if t299 = 0 then (some (t296.toList == a1_0.toList && (t297 == a1_1 && (t298.toList == a1_2.toList)))) else (some false)) = some r := H
                have A43 := Aside0.mk A430
                clear A430
                by_cases c44 : t299 = 0
                · rw [if_pos c44] at H
                  have c44b0 : (t299 == 0) = true := beq_iff_eq.mpr c44
                  have c44b1 : (t299 != 0) = false := bne_eq_false_iff_eq.mpr c44
                  clear c44
                  obtain rfl := Option.some.inj H
                  have hnb45 := NB284_291.out
                  have hnc45 := NB291_284.out
                  have hcz46_0 : wc.cell? ⟨gb284, 0, none⟩ = some (.string a1_0) := (qai BK284.out 0).trans rfl
                  have hcz46_1 : wc.cell? ⟨gb284, 1, none⟩ = some (.int .i64 a1_1) := (qai BK284.out 1).trans rfl
                  have hcz46_2 : wc.cell? ⟨gb284, 2, none⟩ = some (.string a1_2) := (qai BK284.out 2).trans rfl
                  have hfz46_0 := qah BK284.out 0
                  have hfz46_1 := qah BK284.out 1
                  have hfz46_2 := qah BK284.out 2
                  go_wp2_with (first | ((with_reducible refine qak (f := 19) rfl ?_); refine goesL_ (some 55) rfl rfl Tryd.func19 (by kernel_rfl) rfl #[.agg #[.string a1_0, .int .i64 a1_1, .string a1_2]] rfl (by (try simp only [List.map_toArray, List.map_cons, List.map_nil]); first | done | rfl | (simp only [List.length_drop, List.length_take]; rfl)) ?_; (with_reducible refine (relation_Print.calls kj13 a1_0 a1_1 a1_2 t294 _ (by first | exact hG | exact GL.below hG (by repeat (first | (with_reducible first | exact HB.out | apply qaf | apply qaa | apply qag | refine qad ?_ GE284.out | refine qad ?_ GE291.out) | exact HB.out)))  A40.out).mono ?_); rintro e w47 ⟨rfl, hb⟩; refine ⟨_, rfl, ?_⟩; have n0_ := Aside0.mk (qaj (g := gb284) (o := .cells #[.string a1_0, .int .i64 a1_1, .string a1_2] 26 (0, 0)) (by (with_reducible repeat (first | refine qac ?_ _ | refine qae ?_ | refine qab ?_ _)); exact BK284.out) hb); have n1_ := Aside0.mk (qaj (g := gb291) (o := .cells #[.string t287, .int .i64 t288, .string t289] 26 (0, 0)) (by (with_reducible repeat (first | refine qac ?_ _ | refine qae ?_ | refine qab ?_ _)); exact BK291.out) hb); have n2_ := Aside0.mk (qal (by repeat (first | (with_reducible first | exact HB.out | apply qaf | apply qaa | apply qag | refine qad ?_ GE284.out | refine qad ?_ GE291.out) | exact HB.out)) hb); clear BK284; clear BK291; clear HB; have BK284 := n0_; have BK291 := n1_; have HB := n2_; clear n0_ n1_ n2_; (try clear hb); (try clear hb2); (try clear hk); (try clear hi); have hcz48_0 : w47.cell? ⟨gb284, 0, none⟩ = some (.string a1_0) := (qai BK284.out 0).trans rfl; have hcz48_1 : w47.cell? ⟨gb284, 1, none⟩ = some (.int .i64 a1_1) := (qai BK284.out 1).trans rfl; have hcz48_2 : w47.cell? ⟨gb284, 2, none⟩ = some (.string a1_2) := (qai BK284.out 2).trans rfl; have hfz48_0 := qah BK284.out 0; have hfz48_1 := qah BK284.out 1; have hfz48_2 := qah BK284.out 2) | ((with_reducible refine qak (f := 20) rfl ?_); refine goesL_ (some 57) rfl rfl Tryd.func20 (by kernel_rfl) rfl #[.agg #[.string a1_0, .int .i64 a1_1, .string a1_2]] rfl (by (try simp only [List.map_toArray, List.map_cons, List.map_nil]); first | done | rfl | (simp only [List.length_drop, List.length_take]; rfl)) ?_; (with_reducible refine (relation_Right.calls kj13 a1_0 a1_1 a1_2 true _ (by first | exact hG | exact GL.below hG (by repeat (first | (with_reducible first | exact HB.out | apply qaf | apply qaa | apply qag | refine qad ?_ GE284.out | refine qad ?_ GE291.out) | exact HB.out)))  A41.out).mono ?_); rintro e w49 ⟨rfl, hb⟩; refine ⟨_, rfl, ?_⟩; have n0_ := Aside0.mk (qaj (g := gb284) (o := .cells #[.string a1_0, .int .i64 a1_1, .string a1_2] 26 (0, 0)) (by (with_reducible repeat (first | refine qac ?_ _ | refine qae ?_ | refine qab ?_ _)); exact BK284.out) hb); have n1_ := Aside0.mk (qaj (g := gb291) (o := .cells #[.string t287, .int .i64 t288, .string t289] 26 (0, 0)) (by (with_reducible repeat (first | refine qac ?_ _ | refine qae ?_ | refine qab ?_ _)); exact BK291.out) hb); have n2_ := Aside0.mk (qal (by repeat (first | (with_reducible first | exact HB.out | apply qaf | apply qaa | apply qag | refine qad ?_ GE284.out | refine qad ?_ GE291.out) | exact HB.out)) hb); clear BK284; clear BK291; clear HB; have BK284 := n0_; have BK291 := n1_; have HB := n2_; clear n0_ n1_ n2_; (try clear hb); (try clear hb2); (try clear hk); (try clear hi)) | ((with_reducible refine qak (f := 18) rfl ?_); refine goesL_ (some 63) rfl rfl Tryd.func18 (by kernel_rfl) rfl #[.string t294] rfl (by (try simp only [List.map_toArray, List.map_cons, List.map_nil]); first | done | rfl | (simp only [List.length_drop, List.length_take]; rfl)) ?_; (with_reducible refine (relation_Parse.calls kj13 t294 t296 t297 t298 t299 _ (by first | exact hG | exact GL.below hG (by repeat (first | (with_reducible first | exact HB.out | apply qaf | apply qaa | apply qag | refine qad ?_ GE284.out | refine qad ?_ GE291.out) | exact HB.out)))  A43.out).mono ?_); rintro e w50 ⟨rfl, hb⟩; refine ⟨_, rfl, ?_⟩; have n0_ := Aside0.mk (qaj (g := gb284) (o := .cells #[.string a1_0, .int .i64 a1_1, .string a1_2] 26 (0, 0)) (by (with_reducible repeat (first | refine qac ?_ _ | refine qae ?_ | refine qab ?_ _)); exact BK284.out) hb); have n1_ := Aside0.mk (qaj (g := gb291) (o := .cells #[.string t287, .int .i64 t288, .string t289] 26 (0, 0)) (by (with_reducible repeat (first | refine qac ?_ _ | refine qae ?_ | refine qab ?_ _)); exact BK291.out) hb); have n2_ := Aside0.mk (qal (by repeat (first | (with_reducible first | exact HB.out | apply qaf | apply qaa | apply qag | refine qad ?_ GE284.out | refine qad ?_ GE291.out) | exact HB.out)) hb); clear BK284; clear BK291; clear HB; have BK284 := n0_; have BK291 := n1_; have HB := n2_; clear n0_ n1_ n2_; (try clear hb); (try clear hb2); (try clear hk); (try clear hi)) | ((with_reducible refine gate_dst (N := 10) rfl ?_); (try (refine gate_guard (by rfl) ?_; dsimp only)); refine box_event ?hg (N := 10) ?hd (cs := #[.string (⟨#[]⟩ : ByteArray), .int .i64 0, .string (⟨#[]⟩ : ByteArray)]) (t := 26) ?hr ?_; (case hd => rfl); (case hg => rfl); (case hr => first | (go_simp; done) | (go_simp; rfl)); intro gb300 hg w51 hbox hb; have n0_ := Aside0.mk (qaj (g := gb284) (o := .cells #[.string a1_0, .int .i64 a1_1, .string a1_2] 26 (0, 0)) (by (with_reducible repeat (first | refine qac ?_ _ | refine qae ?_ | refine qab ?_ _)); exact BK284.out) hb); have n1_ := Aside0.mk (qaj (g := gb291) (o := .cells #[.string t287, .int .i64 t288, .string t289] 26 (0, 0)) (by (with_reducible repeat (first | refine qac ?_ _ | refine qae ?_ | refine qab ?_ _)); exact BK291.out) hb); have n2_ := Aside0.mk (qal (by repeat (first | (with_reducible first | exact HB.out | apply qaf | apply qaa | apply qag | refine qad ?_ GE284.out | refine qad ?_ GE291.out) | exact HB.out)) hb); have n3_ := Aside0.mk (hbox); have n4_ := Aside0.mk ((by rw [hg]; exact (qao (by repeat (first | (with_reducible first | exact HB.out | apply qaf | apply qaa | apply qag | refine qad ?_ GE284.out | refine qad ?_ GE291.out) | exact HB.out))) : w.heap.size ≤ gb300)); have n5_ := Aside0.mk ((by rw [hg]; exact (qao (by repeat (first | (with_reducible first | exact HB.out | apply qaf | apply qaa | apply qag | refine qad ?_ GE284.out | refine qad ?_ GE291.out) | exact HB.out))) : w.heap.size ≤ gb300)); have n6_ := Aside0.mk ((by rw [hg]; exact Nat.ne_of_lt (blk_lt (g := gb284) (o := .cells #[.string a1_0, .int .i64 a1_1, .string a1_2] 26 (0, 0)) (by (with_reducible repeat (first | refine qac ?_ _ | refine qae ?_ | refine qab ?_ _)); exact BK284.out)) : gb284 ≠ gb300)); have n7_ := Aside0.mk ((by rw [hg]; exact Nat.ne_of_gt (blk_lt (g := gb284) (o := .cells #[.string a1_0, .int .i64 a1_1, .string a1_2] 26 (0, 0)) (by (with_reducible repeat (first | refine qac ?_ _ | refine qae ?_ | refine qab ?_ _)); exact BK284.out)) : gb300 ≠ gb284)); have n8_ := Aside0.mk ((by rw [hg]; exact Nat.ne_of_lt (blk_lt (g := gb291) (o := .cells #[.string t287, .int .i64 t288, .string t289] 26 (0, 0)) (by (with_reducible repeat (first | refine qac ?_ _ | refine qae ?_ | refine qab ?_ _)); exact BK291.out)) : gb291 ≠ gb300)); have n9_ := Aside0.mk ((by rw [hg]; exact Nat.ne_of_gt (blk_lt (g := gb291) (o := .cells #[.string t287, .int .i64 t288, .string t289] 26 (0, 0)) (by (with_reducible repeat (first | refine qac ?_ _ | refine qae ?_ | refine qab ?_ _)); exact BK291.out)) : gb300 ≠ gb291)); clear BK284; clear BK291; clear HB; have BK284 := n0_; have BK291 := n1_; have HB := n2_; have BK300 := n3_; have GW300 := n4_; have GE300 := n5_; have NB284_300 := n6_; have NB300_284 := n7_; have NB291_300 := n8_; have NB300_291 := n9_; clear n0_ n1_ n2_ n3_ n4_ n5_ n6_ n7_ n8_ n9_; clear hb hbox hg; have hnb52 := NB300_284.out; have hnc52 := NB284_300.out; have hnb53 := NB300_291.out; have hnc53 := NB291_300.out; have hcz54_0 : w51.cell? ⟨gb300, 0, none⟩ = some (.string (⟨#[]⟩ : ByteArray)) := (qai BK300.out 0).trans rfl; have hcz54_1 : w51.cell? ⟨gb300, 1, none⟩ = some (.int .i64 0) := (qai BK300.out 1).trans rfl; have hcz54_2 : w51.cell? ⟨gb300, 2, none⟩ = some (.string (⟨#[]⟩ : ByteArray)) := (qai BK300.out 2).trans rfl; have hfz54_0 := qah BK300.out 0; have hfz54_1 := qah BK300.out 1; have hfz54_2 := qah BK300.out 2; have hcz55_0 : w51.cell? ⟨gb284, 0, none⟩ = some (.string a1_0) := (qai BK284.out 0).trans rfl; have hcz55_1 : w51.cell? ⟨gb284, 1, none⟩ = some (.int .i64 a1_1) := (qai BK284.out 1).trans rfl; have hcz55_2 : w51.cell? ⟨gb284, 2, none⟩ = some (.string a1_2) := (qai BK284.out 2).trans rfl; have hfz55_0 := qah BK284.out 0; have hfz55_1 := qah BK284.out 1; have hfz55_2 := qah BK284.out 2))
                  go_ret
                  exact ⟨by first | rfl | (simp [qam, qan] <;> rfl) | (simp [*, qam, qan] <;> rfl), by repeat (first | (with_reducible first | exact HB.out | apply qaf | apply qaa | apply qag | refine qad ?_ GE284.out | refine qad ?_ GE291.out | refine qad ?_ GE300.out) | exact HB.out)⟩
                · rw [if_neg c44] at H
                  have c44b0 : (t299 == 0) = false := beq_eq_false_iff_ne.mpr c44
                  have c44b1 : (t299 != 0) = true := bne_iff_ne.mpr c44
                  obtain rfl := Option.some.inj H
                  have hnb56 := NB284_291.out
                  have hnc56 := NB291_284.out
                  have hcz57_0 : wc.cell? ⟨gb284, 0, none⟩ = some (.string a1_0) := (qai BK284.out 0).trans rfl
                  have hcz57_1 : wc.cell? ⟨gb284, 1, none⟩ = some (.int .i64 a1_1) := (qai BK284.out 1).trans rfl
                  have hcz57_2 : wc.cell? ⟨gb284, 2, none⟩ = some (.string a1_2) := (qai BK284.out 2).trans rfl
                  have hfz57_0 := qah BK284.out 0
                  have hfz57_1 := qah BK284.out 1
                  have hfz57_2 := qah BK284.out 2
                  go_wp2_with (first | ((with_reducible refine qak (f := 19) rfl ?_); refine goesL_ (some 55) rfl rfl Tryd.func19 (by kernel_rfl) rfl #[.agg #[.string a1_0, .int .i64 a1_1, .string a1_2]] rfl (by (try simp only [List.map_toArray, List.map_cons, List.map_nil]); first | done | rfl | (simp only [List.length_drop, List.length_take]; rfl)) ?_; (with_reducible refine (relation_Print.calls kj13 a1_0 a1_1 a1_2 t294 _ (by first | exact hG | exact GL.below hG (by repeat (first | (with_reducible first | exact HB.out | apply qaf | apply qaa | apply qag | refine qad ?_ GE284.out | refine qad ?_ GE291.out) | exact HB.out)))  A40.out).mono ?_); rintro e w58 ⟨rfl, hb⟩; refine ⟨_, rfl, ?_⟩; have n0_ := Aside0.mk (qaj (g := gb284) (o := .cells #[.string a1_0, .int .i64 a1_1, .string a1_2] 26 (0, 0)) (by (with_reducible repeat (first | refine qac ?_ _ | refine qae ?_ | refine qab ?_ _)); exact BK284.out) hb); have n1_ := Aside0.mk (qaj (g := gb291) (o := .cells #[.string t287, .int .i64 t288, .string t289] 26 (0, 0)) (by (with_reducible repeat (first | refine qac ?_ _ | refine qae ?_ | refine qab ?_ _)); exact BK291.out) hb); have n2_ := Aside0.mk (qal (by repeat (first | (with_reducible first | exact HB.out | apply qaf | apply qaa | apply qag | refine qad ?_ GE284.out | refine qad ?_ GE291.out) | exact HB.out)) hb); clear BK284; clear BK291; clear HB; have BK284 := n0_; have BK291 := n1_; have HB := n2_; clear n0_ n1_ n2_; (try clear hb); (try clear hb2); (try clear hk); (try clear hi); have hcz59_0 : w58.cell? ⟨gb284, 0, none⟩ = some (.string a1_0) := (qai BK284.out 0).trans rfl; have hcz59_1 : w58.cell? ⟨gb284, 1, none⟩ = some (.int .i64 a1_1) := (qai BK284.out 1).trans rfl; have hcz59_2 : w58.cell? ⟨gb284, 2, none⟩ = some (.string a1_2) := (qai BK284.out 2).trans rfl; have hfz59_0 := qah BK284.out 0; have hfz59_1 := qah BK284.out 1; have hfz59_2 := qah BK284.out 2) | ((with_reducible refine qak (f := 20) rfl ?_); refine goesL_ (some 57) rfl rfl Tryd.func20 (by kernel_rfl) rfl #[.agg #[.string a1_0, .int .i64 a1_1, .string a1_2]] rfl (by (try simp only [List.map_toArray, List.map_cons, List.map_nil]); first | done | rfl | (simp only [List.length_drop, List.length_take]; rfl)) ?_; (with_reducible refine (relation_Right.calls kj13 a1_0 a1_1 a1_2 true _ (by first | exact hG | exact GL.below hG (by repeat (first | (with_reducible first | exact HB.out | apply qaf | apply qaa | apply qag | refine qad ?_ GE284.out | refine qad ?_ GE291.out) | exact HB.out)))  A41.out).mono ?_); rintro e w60 ⟨rfl, hb⟩; refine ⟨_, rfl, ?_⟩; have n0_ := Aside0.mk (qaj (g := gb284) (o := .cells #[.string a1_0, .int .i64 a1_1, .string a1_2] 26 (0, 0)) (by (with_reducible repeat (first | refine qac ?_ _ | refine qae ?_ | refine qab ?_ _)); exact BK284.out) hb); have n1_ := Aside0.mk (qaj (g := gb291) (o := .cells #[.string t287, .int .i64 t288, .string t289] 26 (0, 0)) (by (with_reducible repeat (first | refine qac ?_ _ | refine qae ?_ | refine qab ?_ _)); exact BK291.out) hb); have n2_ := Aside0.mk (qal (by repeat (first | (with_reducible first | exact HB.out | apply qaf | apply qaa | apply qag | refine qad ?_ GE284.out | refine qad ?_ GE291.out) | exact HB.out)) hb); clear BK284; clear BK291; clear HB; have BK284 := n0_; have BK291 := n1_; have HB := n2_; clear n0_ n1_ n2_; (try clear hb); (try clear hb2); (try clear hk); (try clear hi)) | ((with_reducible refine qak (f := 18) rfl ?_); refine goesL_ (some 63) rfl rfl Tryd.func18 (by kernel_rfl) rfl #[.string t294] rfl (by (try simp only [List.map_toArray, List.map_cons, List.map_nil]); first | done | rfl | (simp only [List.length_drop, List.length_take]; rfl)) ?_; (with_reducible refine (relation_Parse.calls kj13 t294 t296 t297 t298 t299 _ (by first | exact hG | exact GL.below hG (by repeat (first | (with_reducible first | exact HB.out | apply qaf | apply qaa | apply qag | refine qad ?_ GE284.out | refine qad ?_ GE291.out) | exact HB.out)))  A43.out).mono ?_); rintro e w61 ⟨rfl, hb⟩; refine ⟨_, rfl, ?_⟩; have n0_ := Aside0.mk (qaj (g := gb284) (o := .cells #[.string a1_0, .int .i64 a1_1, .string a1_2] 26 (0, 0)) (by (with_reducible repeat (first | refine qac ?_ _ | refine qae ?_ | refine qab ?_ _)); exact BK284.out) hb); have n1_ := Aside0.mk (qaj (g := gb291) (o := .cells #[.string t287, .int .i64 t288, .string t289] 26 (0, 0)) (by (with_reducible repeat (first | refine qac ?_ _ | refine qae ?_ | refine qab ?_ _)); exact BK291.out) hb); have n2_ := Aside0.mk (qal (by repeat (first | (with_reducible first | exact HB.out | apply qaf | apply qaa | apply qag | refine qad ?_ GE284.out | refine qad ?_ GE291.out) | exact HB.out)) hb); clear BK284; clear BK291; clear HB; have BK284 := n0_; have BK291 := n1_; have HB := n2_; clear n0_ n1_ n2_; (try clear hb); (try clear hb2); (try clear hk); (try clear hi)) | ((with_reducible refine gate_dst (N := 10) rfl ?_); (try (refine gate_guard (by rfl) ?_; dsimp only)); refine box_event ?hg (N := 10) ?hd (cs := #[.string (⟨#[]⟩ : ByteArray), .int .i64 0, .string (⟨#[]⟩ : ByteArray)]) (t := 26) ?hr ?_; (case hd => rfl); (case hg => rfl); (case hr => first | (go_simp; done) | (go_simp; rfl)); intro gb300 hg w62 hbox hb; have n0_ := Aside0.mk (qaj (g := gb284) (o := .cells #[.string a1_0, .int .i64 a1_1, .string a1_2] 26 (0, 0)) (by (with_reducible repeat (first | refine qac ?_ _ | refine qae ?_ | refine qab ?_ _)); exact BK284.out) hb); have n1_ := Aside0.mk (qaj (g := gb291) (o := .cells #[.string t287, .int .i64 t288, .string t289] 26 (0, 0)) (by (with_reducible repeat (first | refine qac ?_ _ | refine qae ?_ | refine qab ?_ _)); exact BK291.out) hb); have n2_ := Aside0.mk (qal (by repeat (first | (with_reducible first | exact HB.out | apply qaf | apply qaa | apply qag | refine qad ?_ GE284.out | refine qad ?_ GE291.out) | exact HB.out)) hb); have n3_ := Aside0.mk (hbox); have n4_ := Aside0.mk ((by rw [hg]; exact (qao (by repeat (first | (with_reducible first | exact HB.out | apply qaf | apply qaa | apply qag | refine qad ?_ GE284.out | refine qad ?_ GE291.out) | exact HB.out))) : w.heap.size ≤ gb300)); have n5_ := Aside0.mk ((by rw [hg]; exact (qao (by repeat (first | (with_reducible first | exact HB.out | apply qaf | apply qaa | apply qag | refine qad ?_ GE284.out | refine qad ?_ GE291.out) | exact HB.out))) : w.heap.size ≤ gb300)); have n6_ := Aside0.mk ((by rw [hg]; exact Nat.ne_of_lt (blk_lt (g := gb284) (o := .cells #[.string a1_0, .int .i64 a1_1, .string a1_2] 26 (0, 0)) (by (with_reducible repeat (first | refine qac ?_ _ | refine qae ?_ | refine qab ?_ _)); exact BK284.out)) : gb284 ≠ gb300)); have n7_ := Aside0.mk ((by rw [hg]; exact Nat.ne_of_gt (blk_lt (g := gb284) (o := .cells #[.string a1_0, .int .i64 a1_1, .string a1_2] 26 (0, 0)) (by (with_reducible repeat (first | refine qac ?_ _ | refine qae ?_ | refine qab ?_ _)); exact BK284.out)) : gb300 ≠ gb284)); have n8_ := Aside0.mk ((by rw [hg]; exact Nat.ne_of_lt (blk_lt (g := gb291) (o := .cells #[.string t287, .int .i64 t288, .string t289] 26 (0, 0)) (by (with_reducible repeat (first | refine qac ?_ _ | refine qae ?_ | refine qab ?_ _)); exact BK291.out)) : gb291 ≠ gb300)); have n9_ := Aside0.mk ((by rw [hg]; exact Nat.ne_of_gt (blk_lt (g := gb291) (o := .cells #[.string t287, .int .i64 t288, .string t289] 26 (0, 0)) (by (with_reducible repeat (first | refine qac ?_ _ | refine qae ?_ | refine qab ?_ _)); exact BK291.out)) : gb300 ≠ gb291)); clear BK284; clear BK291; clear HB; have BK284 := n0_; have BK291 := n1_; have HB := n2_; have BK300 := n3_; have GW300 := n4_; have GE300 := n5_; have NB284_300 := n6_; have NB300_284 := n7_; have NB291_300 := n8_; have NB300_291 := n9_; clear n0_ n1_ n2_ n3_ n4_ n5_ n6_ n7_ n8_ n9_; clear hb hbox hg; have hnb63 := NB300_284.out; have hnc63 := NB284_300.out; have hnb64 := NB300_291.out; have hnc64 := NB291_300.out; have hcz65_0 : w62.cell? ⟨gb300, 0, none⟩ = some (.string (⟨#[]⟩ : ByteArray)) := (qai BK300.out 0).trans rfl; have hcz65_1 : w62.cell? ⟨gb300, 1, none⟩ = some (.int .i64 0) := (qai BK300.out 1).trans rfl; have hcz65_2 : w62.cell? ⟨gb300, 2, none⟩ = some (.string (⟨#[]⟩ : ByteArray)) := (qai BK300.out 2).trans rfl; have hfz65_0 := qah BK300.out 0; have hfz65_1 := qah BK300.out 1; have hfz65_2 := qah BK300.out 2))
                  go_ret
                  exact ⟨by first | rfl | (simp [qam, qan] <;> rfl) | (simp [*, qam, qan] <;> rfl), by repeat (first | (with_reducible first | exact HB.out | apply qaf | apply qaa | apply qag | refine qad ?_ GE284.out | refine qad ?_ GE291.out | refine qad ?_ GE300.out) | exact HB.out)⟩
              · replace c42 := Bool.eq_false_iff.mpr c42
                subst c42
                have H1 : (some (t294.toList == ([] : List UInt8))) = some r := by rw [if_neg (show ¬ (false = true) by decide)] at H; exact H
                clear H
                have H := H1
                clear H1
                obtain rfl := Option.some.inj H
                have hnb66 := NB284_291.out
                have hnc66 := NB291_284.out
                have hcz67_0 : wc.cell? ⟨gb284, 0, none⟩ = some (.string a1_0) := (qai BK284.out 0).trans rfl
                have hcz67_1 : wc.cell? ⟨gb284, 1, none⟩ = some (.int .i64 a1_1) := (qai BK284.out 1).trans rfl
                have hcz67_2 : wc.cell? ⟨gb284, 2, none⟩ = some (.string a1_2) := (qai BK284.out 2).trans rfl
                have hfz67_0 := qah BK284.out 0
                have hfz67_1 := qah BK284.out 1
                have hfz67_2 := qah BK284.out 2
                go_wp2_with (first | ((with_reducible refine qak (f := 19) rfl ?_); refine goesL_ (some 55) rfl rfl Tryd.func19 (by kernel_rfl) rfl #[.agg #[.string a1_0, .int .i64 a1_1, .string a1_2]] rfl (by (try simp only [List.map_toArray, List.map_cons, List.map_nil]); first | done | rfl | (simp only [List.length_drop, List.length_take]; rfl)) ?_; (with_reducible refine (relation_Print.calls kj13 a1_0 a1_1 a1_2 t294 _ (by first | exact hG | exact GL.below hG (by repeat (first | (with_reducible first | exact HB.out | apply qaf | apply qaa | apply qag | refine qad ?_ GE284.out | refine qad ?_ GE291.out) | exact HB.out)))  A40.out).mono ?_); rintro e w68 ⟨rfl, hb⟩; refine ⟨_, rfl, ?_⟩; have n0_ := Aside0.mk (qaj (g := gb284) (o := .cells #[.string a1_0, .int .i64 a1_1, .string a1_2] 26 (0, 0)) (by (with_reducible repeat (first | refine qac ?_ _ | refine qae ?_ | refine qab ?_ _)); exact BK284.out) hb); have n1_ := Aside0.mk (qaj (g := gb291) (o := .cells #[.string t287, .int .i64 t288, .string t289] 26 (0, 0)) (by (with_reducible repeat (first | refine qac ?_ _ | refine qae ?_ | refine qab ?_ _)); exact BK291.out) hb); have n2_ := Aside0.mk (qal (by repeat (first | (with_reducible first | exact HB.out | apply qaf | apply qaa | apply qag | refine qad ?_ GE284.out | refine qad ?_ GE291.out) | exact HB.out)) hb); clear BK284; clear BK291; clear HB; have BK284 := n0_; have BK291 := n1_; have HB := n2_; clear n0_ n1_ n2_; (try clear hb); (try clear hb2); (try clear hk); (try clear hi); have hcz69_0 : w68.cell? ⟨gb284, 0, none⟩ = some (.string a1_0) := (qai BK284.out 0).trans rfl; have hcz69_1 : w68.cell? ⟨gb284, 1, none⟩ = some (.int .i64 a1_1) := (qai BK284.out 1).trans rfl; have hcz69_2 : w68.cell? ⟨gb284, 2, none⟩ = some (.string a1_2) := (qai BK284.out 2).trans rfl; have hfz69_0 := qah BK284.out 0; have hfz69_1 := qah BK284.out 1; have hfz69_2 := qah BK284.out 2) | ((with_reducible refine qak (f := 20) rfl ?_); refine goesL_ (some 57) rfl rfl Tryd.func20 (by kernel_rfl) rfl #[.agg #[.string a1_0, .int .i64 a1_1, .string a1_2]] rfl (by (try simp only [List.map_toArray, List.map_cons, List.map_nil]); first | done | rfl | (simp only [List.length_drop, List.length_take]; rfl)) ?_; (with_reducible refine (relation_Right.calls kj13 a1_0 a1_1 a1_2 false _ (by first | exact hG | exact GL.below hG (by repeat (first | (with_reducible first | exact HB.out | apply qaf | apply qaa | apply qag | refine qad ?_ GE284.out | refine qad ?_ GE291.out) | exact HB.out)))  A41.out).mono ?_); rintro e w70 ⟨rfl, hb⟩; refine ⟨_, rfl, ?_⟩; have n0_ := Aside0.mk (qaj (g := gb284) (o := .cells #[.string a1_0, .int .i64 a1_1, .string a1_2] 26 (0, 0)) (by (with_reducible repeat (first | refine qac ?_ _ | refine qae ?_ | refine qab ?_ _)); exact BK284.out) hb); have n1_ := Aside0.mk (qaj (g := gb291) (o := .cells #[.string t287, .int .i64 t288, .string t289] 26 (0, 0)) (by (with_reducible repeat (first | refine qac ?_ _ | refine qae ?_ | refine qab ?_ _)); exact BK291.out) hb); have n2_ := Aside0.mk (qal (by repeat (first | (with_reducible first | exact HB.out | apply qaf | apply qaa | apply qag | refine qad ?_ GE284.out | refine qad ?_ GE291.out) | exact HB.out)) hb); clear BK284; clear BK291; clear HB; have BK284 := n0_; have BK291 := n1_; have HB := n2_; clear n0_ n1_ n2_; (try clear hb); (try clear hb2); (try clear hk); (try clear hi)))
                go_ret
                exact ⟨by first | rfl | (simp [qam, qan] <;> rfl) | (simp [*, qam, qan] <;> rfl), by repeat (first | (with_reducible first | exact HB.out | apply qaf | apply qaa | apply qag | refine qad ?_ GE284.out | refine qad ?_ GE291.out) | exact HB.out)⟩
end Go.Proofs.YtohijjobmmibcaaDoor.PA
