
import Derived.Test.YtohijjobmmibcaaGreatDoorPAx0
import Derived.Test.YtohijjobmmibcaaGreatDoorPAx4
import Derived.Test.YtohijjobmmibcaaGreatDoorPAx6
namespace Go.Proofs.YtohijjobmmibcaaGreatDoor.PA
open Go.RowKit Go.Proofs.YtohijjobmmibcaaGreatDoorW.PrintWords Go.Proofs.YtohijjobmmibcaaGreatDoorW.PrintLast Go.Proofs.YtohijjobmmibcaaGreatDoorW.PrintMore
attribute [local go_sem] max2_int min2_int max_two min_two max_three min_three max_four min_four
set_option linter.unusedVariables false
set_option linter.unusedSimpArgs false
def relation_Holds.j0 : Nat → Int → Bool → Int → ByteArray → ByteArray → Int → ByteArray → ByteArray → Option (Bool)
  | 0, _, _, _, _, _, _, _, _ => none
  | k + 1, x0, x29, x198000, x198001, x198002, x203000, x203001, x203002 => if x29 = true then (some false) else ((version_Compare.f k x198000 x198001 x198002 x203000 x203001 x203002).bind fun t203 => (if x0 = 1 then (some (decide (t203 < 0))) else (if x0 = 2 then (some (decide (t203 ≤ 0))) else (if x0 = 3 then (some (t203 == 0)) else (if x0 = 4 then (some (decide (t203 ≥ 0))) else (if x0 = 5 then (some (decide (t203 > 0))) else (some false)))))))
def relation_Holds.f (k : Nat) (a0 : Int) (a1 : ByteArray) (a2 : ByteArray) : Option (Bool) := if a0 = 0 then (some true) else ((version_Parse.f k a1).bind fun bt193 => ((version_Parse.f k a2).bind fun bt198 => (if bt193.2.2.2 = 0 then (relation_Holds.j0 k a0 (bt198.2.2.2 != 0) bt193.1 bt193.2.1 bt193.2.2.1 bt198.1 bt198.2.1 bt198.2.2.1) else (relation_Holds.j0 k a0 true bt193.1 bt193.2.1 bt193.2.2.1 bt198.1 bt198.2.1 bt198.2.2.1))))
theorem relation_Holds.mono_l : ∀ k, (∀ y0 y1 y2 y3 y4 y5 y6 y7, LeO (relation_Holds.j0 k y0 y1 y2 y3 y4 y5 y6 y7) (relation_Holds.j0 (k + 1) y0 y1 y2 y3 y4 y5 y6 y7))
  | 0 => fun _ _ _ _ _ _ _ _ r h => by simp [relation_Holds.j0] at h
  | k + 1 => by
    have ih0 := relation_Holds.mono_l k
    · intro y0 y1 y2 y3 y4 y5 y6 y7
      unfold relation_Holds.j0
      repeat' first
      | (with_reducible exact ih0 _ _ _ _ _ _ _ _)
      | (with_reducible exact version_Compare.mono _ _ _ _ _ _ _)
      | (with_reducible exact version_Parse.mono _ _)
      | (with_reducible exact LeO.refl _)
      | (with_reducible exact LeO.none _)
      | (with_reducible refine LeO.ite ?_ ?_)
      | (with_reducible refine LeO.bind ?_ (fun _ => ?_))
      | exact ih0 _ _ _ _ _ _ _ _
      | exact version_Compare.mono _ _ _ _ _ _ _
      | exact version_Parse.mono _ _
      | exact LeO.none _
      | refine LeO.ite ?_ ?_
      | refine LeO.bind ?_ (fun _ => ?_)
theorem relation_Holds.mono : ∀ a0 a1 a2 k, LeO (relation_Holds.f k a0 a1 a2) (relation_Holds.f (k + 1) a0 a1 a2) := by
  intro a0 a1 a2 k
  have ih0 := relation_Holds.mono_l k
  unfold relation_Holds.f
  repeat' first
      | (with_reducible exact ih0 _ _ _ _ _ _ _ _)
      | (with_reducible exact version_Compare.mono _ _ _ _ _ _ _)
      | (with_reducible exact version_Parse.mono _ _)
      | (with_reducible exact LeO.refl _)
      | (with_reducible exact LeO.none _)
      | (with_reducible refine LeO.ite ?_ ?_)
      | (with_reducible refine LeO.bind ?_ (fun _ => ?_))
      | exact ih0 _ _ _ _ _ _ _ _
      | exact version_Compare.mono _ _ _ _ _ _ _
      | exact version_Parse.mono _ _
      | exact LeO.none _
      | refine LeO.ite ?_ ?_
      | refine LeO.bind ?_ (fun _ => ?_)
set_option maxHeartbeats 8000000 in
set_option maxRecDepth 100000 in
theorem relation_Holds.calls (k : Nat) (a0 : Int) (a1 : ByteArray) (a2 : ByteArray) (r : Bool) (w : World) (hG : GL w) (h : relation_Holds.f k a0 a1 a2 = some r) :
    Calls Tryz.prog 12 #[.int .i64 a0, .string a1, .string a2] w fun e w' => e = .returned (.bool r) ∧ Below w.heap.size w w' := by
  have hu43 := Tryz.underlying43
  have HB := Aside0.mk (Below.refl w.heap.size w)
  have H : (if a0 = 0 then (some true) else ((version_Parse.f k a1).bind fun bt193 => ((version_Parse.f k a2).bind fun bt198 => (if bt193.2.2.2 = 0 then (relation_Holds.j0 k a0 (bt198.2.2.2 != 0) bt193.1 bt193.2.1 bt193.2.2.1 bt198.1 bt198.2.1 bt198.2.2.1) else (relation_Holds.j0 k a0 true bt193.1 bt193.2.1 bt193.2.2.1 bt198.1 bt198.2.1 bt198.2.2.1))))) = some r := h
  clear h
  by_cases c4 : a0 = 0
  · rw [if_pos c4] at H
    have c4b0 : (a0 == 0) = true := beq_iff_eq.mpr c4
    have c4b1 : (a0 != 0) = false := bne_eq_false_iff_eq.mpr c4
    clear c4
    obtain rfl := Option.some.inj H
    go_enter Tryz.func12, Tryz.ntmps12
    go_wp2
    go_ret
    exact ⟨by first | rfl | (simp [qan, qao] <;> rfl) | (simp [*, qan, qao] <;> rfl), by repeat (first | (with_reducible first | exact HB.out | apply qaf | apply qaa | apply qae) | exact HB.out)⟩
  · rw [if_neg c4] at H
    have c4b0 : (a0 == 0) = false := beq_eq_false_iff_ne.mpr c4
    have c4b1 : (a0 != 0) = true := bne_iff_ne.mpr c4
    replace H := Option.bind_eq_some_iff.mp H
    obtain ⟨⟨t193, t194, t195, t196⟩, A50, H⟩ := H
    replace H : ((version_Parse.f k a2).bind fun bt198 => (if t196 = 0 then (relation_Holds.j0 k a0 (bt198.2.2.2 != 0) t193 t194 t195 bt198.1 bt198.2.1 bt198.2.2.1) else (relation_Holds.j0 k a0 true t193 t194 t195 bt198.1 bt198.2.1 bt198.2.2.1))) = some r := H
    have A5 := Aside0.mk A50
    clear A50
    replace H := Option.bind_eq_some_iff.mp H
    obtain ⟨⟨t198, t199, t200, t201⟩, A60, H⟩ := H
    replace H : (if t196 = 0 then (relation_Holds.j0 k a0 (t201 != 0) t193 t194 t195 t198 t199 t200) else (relation_Holds.j0 k a0 true t193 t194 t195 t198 t199 t200)) = some r := H
    have A6 := Aside0.mk A60
    clear A60
    have HC7 := Aside0.mk H
    clear H
    go_enter Tryz.func12, Tryz.ntmps12
    go_upto_region 5 with (first | ((with_reducible refine qam (f := 26) rfl ?_); refine goesL_ (some 16) rfl rfl Tryz.func26 (by kernel_rfl) rfl #[.string a1] rfl (by (try simp only [List.map_toArray, List.map_cons, List.map_nil]); first | done | rfl | (simp only [List.length_drop, List.length_take]; rfl)) ?_; (with_reducible refine (version_Parse.calls k a1 t193 t194 t195 t196 _ (by first | exact hG | exact GL.below hG (by repeat (first | (with_reducible first | exact HB.out | apply qaf | apply qaa | apply qae) | exact HB.out)))  A5.out).mono ?_); rintro e w8 ⟨rfl, hb⟩; refine ⟨_, rfl, ?_⟩; have n0_ := Aside0.mk (qak (by repeat (first | (with_reducible first | exact HB.out | apply qaf | apply qaa | apply qae) | exact HB.out)) hb); clear HB; have HB := n0_; clear n0_; (try clear hb); (try clear hb2); (try clear hk); (try clear hi)) | ((with_reducible refine qar (N := 7) rfl ?_); refine qaq ?hg (N := 7) ?hd (cs := #[.int .i64 0, .string (⟨#[]⟩ : ByteArray), .string (⟨#[]⟩ : ByteArray)]) (t := 43) ?hr ?_; (case hd => rfl); (case hg => rfl); (case hr => first | (go_simp; done) | (go_simp; rfl)); intro gb197 hg w9 hbox hb; have n0_ := Aside0.mk (qak (by repeat (first | (with_reducible first | exact HB.out | apply qaf | apply qaa | apply qae) | exact HB.out)) hb); have n1_ := Aside0.mk (hbox); have n2_ := Aside0.mk ((by rw [hg]; exact (qap (by repeat (first | (with_reducible first | exact HB.out | apply qaf | apply qaa | apply qae) | exact HB.out))) : w.heap.size ≤ gb197)); have n3_ := Aside0.mk ((by rw [hg]; exact (qap (by repeat (first | (with_reducible first | exact HB.out | apply qaf | apply qaa | apply qae) | exact HB.out))) : w.heap.size ≤ gb197)); clear HB; have HB := n0_; have BK197 := n1_; have GW197 := n2_; have GE197 := n3_; clear n0_ n1_ n2_ n3_; clear hb hbox hg; have hcz10_0 : w9.cell? ⟨gb197, 0, none⟩ = some (.int .i64 0) := (qai BK197.out 0).trans rfl; have hcz10_1 : w9.cell? ⟨gb197, 1, none⟩ = some (.string (⟨#[]⟩ : ByteArray)) := (qai BK197.out 1).trans rfl; have hcz10_2 : w9.cell? ⟨gb197, 2, none⟩ = some (.string (⟨#[]⟩ : ByteArray)) := (qai BK197.out 2).trans rfl; have hfz10_0 := qah BK197.out 0; have hfz10_1 := qah BK197.out 1; have hfz10_2 := qah BK197.out 2) | ((with_reducible refine qam (f := 26) rfl ?_); refine goesL_ (some 21) rfl rfl Tryz.func26 (by kernel_rfl) rfl #[.string a2] rfl (by (try simp only [List.map_toArray, List.map_cons, List.map_nil]); first | done | rfl | (simp only [List.length_drop, List.length_take]; rfl)) ?_; (with_reducible refine (version_Parse.calls k a2 t198 t199 t200 t201 _ (by first | exact hG | exact GL.below hG (by repeat (first | (with_reducible first | exact HB.out | apply qaf | apply qaa | apply qae | refine qad ?_ GE197.out) | exact HB.out)))  A6.out).mono ?_); rintro e w11 ⟨rfl, hb⟩; refine ⟨_, rfl, ?_⟩; have n0_ := Aside0.mk (qaj (g := gb197) (o := .cells #[.int .i64 t193, .string t194, .string t195] 43 (0, 0)) (by (with_reducible repeat (first | refine qac ?_ _ | refine qag ?_ | refine qab ?_ _)); refine blk_put (cs := #[.int .i64 t193, .string t194, .string (⟨#[]⟩ : ByteArray)]) ?_ 2 _ rfl; (with_reducible repeat (first | refine qac ?_ _ | refine qag ?_ | refine qab ?_ _)); refine blk_put (cs := #[.int .i64 t193, .string (⟨#[]⟩ : ByteArray), .string (⟨#[]⟩ : ByteArray)]) ?_ 1 _ rfl; (with_reducible repeat (first | refine qac ?_ _ | refine qag ?_ | refine qab ?_ _)); refine blk_put (cs := #[.int .i64 0, .string (⟨#[]⟩ : ByteArray), .string (⟨#[]⟩ : ByteArray)]) ?_ 0 _ rfl; (with_reducible repeat (first | refine qac ?_ _ | refine qag ?_ | refine qab ?_ _)); exact BK197.out) hb); have n1_ := Aside0.mk (qak (by repeat (first | (with_reducible first | exact HB.out | apply qaf | apply qaa | apply qae | refine qad ?_ GE197.out) | exact HB.out)) hb); clear BK197; clear HB; have BK197 := n0_; have HB := n1_; clear n0_ n1_; (try clear hb); (try clear hb2); (try clear hk); (try clear hi)) | ((with_reducible refine qar (N := 9) rfl ?_); refine qaq ?hg (N := 9) ?hd (cs := #[.int .i64 0, .string (⟨#[]⟩ : ByteArray), .string (⟨#[]⟩ : ByteArray)]) (t := 43) ?hr ?_; (case hd => rfl); (case hg => rfl); (case hr => first | (go_simp; done) | (go_simp; rfl)); intro gb202 hg w12 hbox hb; have n0_ := Aside0.mk (qaj (g := gb197) (o := .cells #[.int .i64 t193, .string t194, .string t195] 43 (0, 0)) (by (with_reducible repeat (first | refine qac ?_ _ | refine qag ?_ | refine qab ?_ _)); exact BK197.out) hb); have n1_ := Aside0.mk (qak (by repeat (first | (with_reducible first | exact HB.out | apply qaf | apply qaa | apply qae | refine qad ?_ GE197.out) | exact HB.out)) hb); have n2_ := Aside0.mk (hbox); have n3_ := Aside0.mk ((by rw [hg]; exact (qap (by repeat (first | (with_reducible first | exact HB.out | apply qaf | apply qaa | apply qae | refine qad ?_ GE197.out) | exact HB.out))) : w.heap.size ≤ gb202)); have n4_ := Aside0.mk ((by rw [hg]; exact (qap (by repeat (first | (with_reducible first | exact HB.out | apply qaf | apply qaa | apply qae | refine qad ?_ GE197.out) | exact HB.out))) : w.heap.size ≤ gb202)); have n5_ := Aside0.mk ((by rw [hg]; exact Nat.ne_of_lt (blk_lt (g := gb197) (o := .cells #[.int .i64 t193, .string t194, .string t195] 43 (0, 0)) (by (with_reducible repeat (first | refine qac ?_ _ | refine qag ?_ | refine qab ?_ _)); exact BK197.out)) : gb197 ≠ gb202)); have n6_ := Aside0.mk ((by rw [hg]; exact Nat.ne_of_gt (blk_lt (g := gb197) (o := .cells #[.int .i64 t193, .string t194, .string t195] 43 (0, 0)) (by (with_reducible repeat (first | refine qac ?_ _ | refine qag ?_ | refine qab ?_ _)); exact BK197.out)) : gb202 ≠ gb197)); clear BK197; clear HB; have BK197 := n0_; have HB := n1_; have BK202 := n2_; have GW202 := n3_; have GE202 := n4_; have NB197_202 := n5_; have NB202_197 := n6_; clear n0_ n1_ n2_ n3_ n4_ n5_ n6_; clear hb hbox hg; have hnb13 := NB202_197.out; have hnc13 := NB197_202.out; have hcz14_0 : w12.cell? ⟨gb202, 0, none⟩ = some (.int .i64 0) := (qai BK202.out 0).trans rfl; have hcz14_1 : w12.cell? ⟨gb202, 1, none⟩ = some (.string (⟨#[]⟩ : ByteArray)) := (qai BK202.out 1).trans rfl; have hcz14_2 : w12.cell? ⟨gb202, 2, none⟩ = some (.string (⟨#[]⟩ : ByteArray)) := (qai BK202.out 2).trans rfl; have hfz14_0 := qah BK202.out 0; have hfz14_1 := qah BK202.out 1; have hfz14_2 := qah BK202.out 2))
    (try simp only [Act.put, List.setIfInBounds_toArray, List.set_cons_zero, List.set_cons_succ])
    go_cut [29] (fun v29 wc => ∃ (kq : Nat) (x29_6 : Bool), v29 = .bool x29_6 ∧ Aside0 (relation_Holds.j0 kq a0 x29_6 t193 t194 t195 t198 t199 t200 = some r) ∧ Aside0 (kq ≤ k) ∧ Aside0 (wc.heap[gb197]? = some (.cells #[.int .i64 t193, .string t194, .string t195] 43 (0, 0))) ∧ Aside0 (wc.heap[gb202]? = some (.cells #[.int .i64 t198, .string t199, .string t200] 43 (0, 0))) ∧ Aside0 (Below w.heap.size w wc))
    case first =>
      have H := HC7.out
      clear HC7
      by_cases c15 : t196 = 0
      · rw [if_pos c15] at H
        have c15b0 : (t196 == 0) = true := beq_iff_eq.mpr c15
        have c15b1 : (t196 != 0) = false := bne_eq_false_iff_eq.mpr c15
        clear c15
        (first | rw [c15b0] | (simp only [i64_w, i32_w]; rw [c15b0]) | skip)
        have H' := Aside0.mk H
        clear H
        go_wp2
        go_meet
        case rel => exact ⟨_, ((t201 != 0)), (by first | rfl | (simp; done) | (simp [*]; done) | (simp [qal]; done)), H', ⟨by first | omega | exact Nat.le_refl _⟩, ⟨by (with_reducible repeat (first | refine qac ?_ _ | refine qag ?_ | refine qab ?_ _)); refine blk_far ?_ NB197_202.out _; (with_reducible repeat (first | refine qac ?_ _ | refine qag ?_ | refine qab ?_ _)); refine blk_far ?_ NB197_202.out _; (with_reducible repeat (first | refine qac ?_ _ | refine qag ?_ | refine qab ?_ _)); refine blk_far ?_ NB197_202.out _; (with_reducible repeat (first | refine qac ?_ _ | refine qag ?_ | refine qab ?_ _)); exact BK197.out⟩, ⟨by (with_reducible repeat (first | refine qac ?_ _ | refine qag ?_ | refine qab ?_ _)); refine blk_put (cs := #[.int .i64 t198, .string t199, .string (⟨#[]⟩ : ByteArray)]) ?_ 2 _ rfl; (with_reducible repeat (first | refine qac ?_ _ | refine qag ?_ | refine qab ?_ _)); refine blk_put (cs := #[.int .i64 t198, .string (⟨#[]⟩ : ByteArray), .string (⟨#[]⟩ : ByteArray)]) ?_ 1 _ rfl; (with_reducible repeat (first | refine qac ?_ _ | refine qag ?_ | refine qab ?_ _)); refine blk_put (cs := #[.int .i64 0, .string (⟨#[]⟩ : ByteArray), .string (⟨#[]⟩ : ByteArray)]) ?_ 0 _ rfl; (with_reducible repeat (first | refine qac ?_ _ | refine qag ?_ | refine qab ?_ _)); exact BK202.out⟩, ⟨by repeat (first | (with_reducible first | exact HB.out | apply qaf | apply qaa | apply qae | refine qad ?_ GE197.out | refine qad ?_ GE202.out) | exact HB.out)⟩⟩
      · rw [if_neg c15] at H
        have c15b0 : (t196 == 0) = false := beq_eq_false_iff_ne.mpr c15
        have c15b1 : (t196 != 0) = true := bne_iff_ne.mpr c15
        (first | rw [c15b0] | (simp only [i64_w, i32_w]; rw [c15b0]) | skip)
        have H' := Aside0.mk H
        clear H
        go_wp2
        go_meet
        case rel => exact ⟨_, (true), (by first | rfl | (simp; done) | (simp [*]; done) | (simp [qal]; done)), H', ⟨by first | omega | exact Nat.le_refl _⟩, ⟨by (with_reducible repeat (first | refine qac ?_ _ | refine qag ?_ | refine qab ?_ _)); refine blk_far ?_ NB197_202.out _; (with_reducible repeat (first | refine qac ?_ _ | refine qag ?_ | refine qab ?_ _)); refine blk_far ?_ NB197_202.out _; (with_reducible repeat (first | refine qac ?_ _ | refine qag ?_ | refine qab ?_ _)); refine blk_far ?_ NB197_202.out _; (with_reducible repeat (first | refine qac ?_ _ | refine qag ?_ | refine qab ?_ _)); exact BK197.out⟩, ⟨by (with_reducible repeat (first | refine qac ?_ _ | refine qag ?_ | refine qab ?_ _)); refine blk_put (cs := #[.int .i64 t198, .string t199, .string (⟨#[]⟩ : ByteArray)]) ?_ 2 _ rfl; (with_reducible repeat (first | refine qac ?_ _ | refine qag ?_ | refine qab ?_ _)); refine blk_put (cs := #[.int .i64 t198, .string (⟨#[]⟩ : ByteArray), .string (⟨#[]⟩ : ByteArray)]) ?_ 1 _ rfl; (with_reducible repeat (first | refine qac ?_ _ | refine qag ?_ | refine qab ?_ _)); refine blk_put (cs := #[.int .i64 0, .string (⟨#[]⟩ : ByteArray), .string (⟨#[]⟩ : ByteArray)]) ?_ 0 _ rfl; (with_reducible repeat (first | refine qac ?_ _ | refine qag ?_ | refine qab ?_ _)); exact BK202.out⟩, ⟨by repeat (first | (with_reducible first | exact HB.out | apply qaf | apply qaa | apply qae | refine qad ?_ GE197.out | refine qad ?_ GE202.out) | exact HB.out)⟩⟩
    case rest =>
      clear HC7
      try clear c1
      try clear c2
      try clear p2
      try clear c4
      try clear c4b0
      try clear c4b1
      try clear c12
      try clear c13
      try clear c15
      try clear c15b0
      try clear c15b1
      try clear hcz10_0
      try clear hcz10_1
      try clear hcz10_2
      try clear hcz14_0
      try clear hcz14_1
      try clear hcz14_2
      try clear hfz10_0
      try clear hfz10_1
      try clear hfz10_2
      try clear hfz14_0
      try clear hfz14_1
      try clear hfz14_2
      obtain ⟨kq, x29_6, rfl, HA, HJ6, BK197, BK202, HB⟩ := hcut
      cases kq with
      | zero => exact absurd HA.out (by simp [relation_Holds.j0])
      | succ kj6 =>
        have H := HA.out
        clear HA
        simp only [relation_Holds.j0] at H
        by_cases c16 : x29_6 = true
        · subst c16
          have H1 : (some false) = some r := by rw [if_pos rfl] at H; exact H
          clear H
          have H := H1
          clear H1
          obtain rfl := Option.some.inj H
          go_wp2
          go_ret
          exact ⟨by first | rfl | (simp [qan, qao] <;> rfl) | (simp [*, qan, qao] <;> rfl), by repeat (first | (with_reducible first | exact HB.out | apply qaf | apply qaa | apply qae | refine qad ?_ GE197.out | refine qad ?_ GE202.out) | exact HB.out)⟩
        · replace c16 := Bool.eq_false_iff.mpr c16
          subst c16
          have H1 : ((version_Compare.f kj6 t193 t194 t195 t198 t199 t200).bind fun t203 => (if a0 = 1 then (some (decide (t203 < 0))) else (if a0 = 2 then (some (decide (t203 ≤ 0))) else (if a0 = 3 then (some (t203 == 0)) else (if a0 = 4 then (some (decide (t203 ≥ 0))) else (if a0 = 5 then (some (decide (t203 > 0))) else (some false))))))) = some r := by rw [if_neg (show ¬ (false = true) by decide)] at H; exact H
          clear H
          have H := H1
          clear H1
          replace H := Option.bind_eq_some_iff.mp H
          obtain ⟨t203, A170, H⟩ := H
          replace H : (if a0 = 1 then (some (decide (t203 < 0))) else (if a0 = 2 then (some (decide (t203 ≤ 0))) else (if a0 = 3 then (some (t203 == 0)) else (if a0 = 4 then (some (decide (t203 ≥ 0))) else (if a0 = 5 then (some (decide (t203 > 0))) else (some false)))))) = some r := H
          have A17 := Aside0.mk A170
          clear A170
          by_cases c18 : a0 = 1
          · rw [if_pos c18] at H
            have c18b0 : (a0 == 1) = true := beq_iff_eq.mpr c18
            have c18b1 : (a0 != 1) = false := bne_eq_false_iff_eq.mpr c18
            clear c18
            obtain rfl := Option.some.inj H
            have hnb19 := NB197_202.out
            have hnc19 := NB202_197.out
            have hcz20_0 : wc.cell? ⟨gb197, 0, none⟩ = some (.int .i64 t193) := (qai BK197.out 0).trans rfl
            have hcz20_1 : wc.cell? ⟨gb197, 1, none⟩ = some (.string t194) := (qai BK197.out 1).trans rfl
            have hcz20_2 : wc.cell? ⟨gb197, 2, none⟩ = some (.string t195) := (qai BK197.out 2).trans rfl
            have hfz20_0 := qah BK197.out 0
            have hfz20_1 := qah BK197.out 1
            have hfz20_2 := qah BK197.out 2
            have hcz21_0 : wc.cell? ⟨gb202, 0, none⟩ = some (.int .i64 t198) := (qai BK202.out 0).trans rfl
            have hcz21_1 : wc.cell? ⟨gb202, 1, none⟩ = some (.string t199) := (qai BK202.out 1).trans rfl
            have hcz21_2 : wc.cell? ⟨gb202, 2, none⟩ = some (.string t200) := (qai BK202.out 2).trans rfl
            have hfz21_0 := qah BK202.out 0
            have hfz21_1 := qah BK202.out 1
            have hfz21_2 := qah BK202.out 2
            go_wp2_with (first | ((with_reducible refine qam (f := 27) rfl ?_); refine goesL_ (some 32) rfl rfl Tryz.func27 (by kernel_rfl) rfl #[.agg #[.int .i64 t193, .string t194, .string t195], .agg #[.int .i64 t198, .string t199, .string t200]] rfl (by (try simp only [List.map_toArray, List.map_cons, List.map_nil]); first | done | rfl | (simp only [List.length_drop, List.length_take]; rfl)) ?_; (with_reducible refine (version_Compare.calls kj6 t193 t194 t195 t198 t199 t200 t203 _ (by first | exact hG | exact GL.below hG (by repeat (first | (with_reducible first | exact HB.out | apply qaf | apply qaa | apply qae | refine qad ?_ GE197.out | refine qad ?_ GE202.out) | exact HB.out)))  A17.out).mono ?_); rintro e w22 ⟨rfl, hb⟩; refine ⟨_, rfl, ?_⟩; have n0_ := Aside0.mk (qaj (g := gb197) (o := .cells #[.int .i64 t193, .string t194, .string t195] 43 (0, 0)) (by (with_reducible repeat (first | refine qac ?_ _ | refine qag ?_ | refine qab ?_ _)); exact BK197.out) hb); have n1_ := Aside0.mk (qaj (g := gb202) (o := .cells #[.int .i64 t198, .string t199, .string t200] 43 (0, 0)) (by (with_reducible repeat (first | refine qac ?_ _ | refine qag ?_ | refine qab ?_ _)); exact BK202.out) hb); have n2_ := Aside0.mk (qak (by repeat (first | (with_reducible first | exact HB.out | apply qaf | apply qaa | apply qae | refine qad ?_ GE197.out | refine qad ?_ GE202.out) | exact HB.out)) hb); clear BK197; clear BK202; clear HB; have BK197 := n0_; have BK202 := n1_; have HB := n2_; clear n0_ n1_ n2_; (try clear hb); (try clear hb2); (try clear hk); (try clear hi)))
            go_ret
            exact ⟨by first | rfl | (simp [qan, qao] <;> rfl) | (simp [*, qan, qao] <;> rfl), by repeat (first | (with_reducible first | exact HB.out | apply qaf | apply qaa | apply qae | refine qad ?_ GE197.out | refine qad ?_ GE202.out) | exact HB.out)⟩
          · rw [if_neg c18] at H
            have c18b0 : (a0 == 1) = false := beq_eq_false_iff_ne.mpr c18
            have c18b1 : (a0 != 1) = true := bne_iff_ne.mpr c18
            by_cases c23 : a0 = 2
            · rw [if_pos c23] at H
              have c23b0 : (a0 == 2) = true := beq_iff_eq.mpr c23
              have c23b1 : (a0 != 2) = false := bne_eq_false_iff_eq.mpr c23
              clear c23
              obtain rfl := Option.some.inj H
              have hnb24 := NB197_202.out
              have hnc24 := NB202_197.out
              have hcz25_0 : wc.cell? ⟨gb197, 0, none⟩ = some (.int .i64 t193) := (qai BK197.out 0).trans rfl
              have hcz25_1 : wc.cell? ⟨gb197, 1, none⟩ = some (.string t194) := (qai BK197.out 1).trans rfl
              have hcz25_2 : wc.cell? ⟨gb197, 2, none⟩ = some (.string t195) := (qai BK197.out 2).trans rfl
              have hfz25_0 := qah BK197.out 0
              have hfz25_1 := qah BK197.out 1
              have hfz25_2 := qah BK197.out 2
              have hcz26_0 : wc.cell? ⟨gb202, 0, none⟩ = some (.int .i64 t198) := (qai BK202.out 0).trans rfl
              have hcz26_1 : wc.cell? ⟨gb202, 1, none⟩ = some (.string t199) := (qai BK202.out 1).trans rfl
              have hcz26_2 : wc.cell? ⟨gb202, 2, none⟩ = some (.string t200) := (qai BK202.out 2).trans rfl
              have hfz26_0 := qah BK202.out 0
              have hfz26_1 := qah BK202.out 1
              have hfz26_2 := qah BK202.out 2
              go_wp2_with (first | ((with_reducible refine qam (f := 27) rfl ?_); refine goesL_ (some 32) rfl rfl Tryz.func27 (by kernel_rfl) rfl #[.agg #[.int .i64 t193, .string t194, .string t195], .agg #[.int .i64 t198, .string t199, .string t200]] rfl (by (try simp only [List.map_toArray, List.map_cons, List.map_nil]); first | done | rfl | (simp only [List.length_drop, List.length_take]; rfl)) ?_; (with_reducible refine (version_Compare.calls kj6 t193 t194 t195 t198 t199 t200 t203 _ (by first | exact hG | exact GL.below hG (by repeat (first | (with_reducible first | exact HB.out | apply qaf | apply qaa | apply qae | refine qad ?_ GE197.out | refine qad ?_ GE202.out) | exact HB.out)))  A17.out).mono ?_); rintro e w27 ⟨rfl, hb⟩; refine ⟨_, rfl, ?_⟩; have n0_ := Aside0.mk (qaj (g := gb197) (o := .cells #[.int .i64 t193, .string t194, .string t195] 43 (0, 0)) (by (with_reducible repeat (first | refine qac ?_ _ | refine qag ?_ | refine qab ?_ _)); exact BK197.out) hb); have n1_ := Aside0.mk (qaj (g := gb202) (o := .cells #[.int .i64 t198, .string t199, .string t200] 43 (0, 0)) (by (with_reducible repeat (first | refine qac ?_ _ | refine qag ?_ | refine qab ?_ _)); exact BK202.out) hb); have n2_ := Aside0.mk (qak (by repeat (first | (with_reducible first | exact HB.out | apply qaf | apply qaa | apply qae | refine qad ?_ GE197.out | refine qad ?_ GE202.out) | exact HB.out)) hb); clear BK197; clear BK202; clear HB; have BK197 := n0_; have BK202 := n1_; have HB := n2_; clear n0_ n1_ n2_; (try clear hb); (try clear hb2); (try clear hk); (try clear hi)))
              go_ret
              exact ⟨by first | rfl | (simp [qan, qao] <;> rfl) | (simp [*, qan, qao] <;> rfl), by repeat (first | (with_reducible first | exact HB.out | apply qaf | apply qaa | apply qae | refine qad ?_ GE197.out | refine qad ?_ GE202.out) | exact HB.out)⟩
            · rw [if_neg c23] at H
              have c23b0 : (a0 == 2) = false := beq_eq_false_iff_ne.mpr c23
              have c23b1 : (a0 != 2) = true := bne_iff_ne.mpr c23
              by_cases c28 : a0 = 3
              · rw [if_pos c28] at H
                have c28b0 : (a0 == 3) = true := beq_iff_eq.mpr c28
                have c28b1 : (a0 != 3) = false := bne_eq_false_iff_eq.mpr c28
                clear c28
                obtain rfl := Option.some.inj H
                have hnb29 := NB197_202.out
                have hnc29 := NB202_197.out
                have hcz30_0 : wc.cell? ⟨gb197, 0, none⟩ = some (.int .i64 t193) := (qai BK197.out 0).trans rfl
                have hcz30_1 : wc.cell? ⟨gb197, 1, none⟩ = some (.string t194) := (qai BK197.out 1).trans rfl
                have hcz30_2 : wc.cell? ⟨gb197, 2, none⟩ = some (.string t195) := (qai BK197.out 2).trans rfl
                have hfz30_0 := qah BK197.out 0
                have hfz30_1 := qah BK197.out 1
                have hfz30_2 := qah BK197.out 2
                have hcz31_0 : wc.cell? ⟨gb202, 0, none⟩ = some (.int .i64 t198) := (qai BK202.out 0).trans rfl
                have hcz31_1 : wc.cell? ⟨gb202, 1, none⟩ = some (.string t199) := (qai BK202.out 1).trans rfl
                have hcz31_2 : wc.cell? ⟨gb202, 2, none⟩ = some (.string t200) := (qai BK202.out 2).trans rfl
                have hfz31_0 := qah BK202.out 0
                have hfz31_1 := qah BK202.out 1
                have hfz31_2 := qah BK202.out 2
                go_wp2_with (first | ((with_reducible refine qam (f := 27) rfl ?_); refine goesL_ (some 32) rfl rfl Tryz.func27 (by kernel_rfl) rfl #[.agg #[.int .i64 t193, .string t194, .string t195], .agg #[.int .i64 t198, .string t199, .string t200]] rfl (by (try simp only [List.map_toArray, List.map_cons, List.map_nil]); first | done | rfl | (simp only [List.length_drop, List.length_take]; rfl)) ?_; (with_reducible refine (version_Compare.calls kj6 t193 t194 t195 t198 t199 t200 t203 _ (by first | exact hG | exact GL.below hG (by repeat (first | (with_reducible first | exact HB.out | apply qaf | apply qaa | apply qae | refine qad ?_ GE197.out | refine qad ?_ GE202.out) | exact HB.out)))  A17.out).mono ?_); rintro e w32 ⟨rfl, hb⟩; refine ⟨_, rfl, ?_⟩; have n0_ := Aside0.mk (qaj (g := gb197) (o := .cells #[.int .i64 t193, .string t194, .string t195] 43 (0, 0)) (by (with_reducible repeat (first | refine qac ?_ _ | refine qag ?_ | refine qab ?_ _)); exact BK197.out) hb); have n1_ := Aside0.mk (qaj (g := gb202) (o := .cells #[.int .i64 t198, .string t199, .string t200] 43 (0, 0)) (by (with_reducible repeat (first | refine qac ?_ _ | refine qag ?_ | refine qab ?_ _)); exact BK202.out) hb); have n2_ := Aside0.mk (qak (by repeat (first | (with_reducible first | exact HB.out | apply qaf | apply qaa | apply qae | refine qad ?_ GE197.out | refine qad ?_ GE202.out) | exact HB.out)) hb); clear BK197; clear BK202; clear HB; have BK197 := n0_; have BK202 := n1_; have HB := n2_; clear n0_ n1_ n2_; (try clear hb); (try clear hb2); (try clear hk); (try clear hi)))
                go_ret
                exact ⟨by first | rfl | (simp [qan, qao] <;> rfl) | (simp [*, qan, qao] <;> rfl), by repeat (first | (with_reducible first | exact HB.out | apply qaf | apply qaa | apply qae | refine qad ?_ GE197.out | refine qad ?_ GE202.out) | exact HB.out)⟩
              · rw [if_neg c28] at H
                have c28b0 : (a0 == 3) = false := beq_eq_false_iff_ne.mpr c28
                have c28b1 : (a0 != 3) = true := bne_iff_ne.mpr c28
                by_cases c33 : a0 = 4
                · rw [if_pos c33] at H
                  have c33b0 : (a0 == 4) = true := beq_iff_eq.mpr c33
                  have c33b1 : (a0 != 4) = false := bne_eq_false_iff_eq.mpr c33
                  clear c33
                  obtain rfl := Option.some.inj H
                  have hnb34 := NB197_202.out
                  have hnc34 := NB202_197.out
                  have hcz35_0 : wc.cell? ⟨gb197, 0, none⟩ = some (.int .i64 t193) := (qai BK197.out 0).trans rfl
                  have hcz35_1 : wc.cell? ⟨gb197, 1, none⟩ = some (.string t194) := (qai BK197.out 1).trans rfl
                  have hcz35_2 : wc.cell? ⟨gb197, 2, none⟩ = some (.string t195) := (qai BK197.out 2).trans rfl
                  have hfz35_0 := qah BK197.out 0
                  have hfz35_1 := qah BK197.out 1
                  have hfz35_2 := qah BK197.out 2
                  have hcz36_0 : wc.cell? ⟨gb202, 0, none⟩ = some (.int .i64 t198) := (qai BK202.out 0).trans rfl
                  have hcz36_1 : wc.cell? ⟨gb202, 1, none⟩ = some (.string t199) := (qai BK202.out 1).trans rfl
                  have hcz36_2 : wc.cell? ⟨gb202, 2, none⟩ = some (.string t200) := (qai BK202.out 2).trans rfl
                  have hfz36_0 := qah BK202.out 0
                  have hfz36_1 := qah BK202.out 1
                  have hfz36_2 := qah BK202.out 2
                  go_wp2_with (first | ((with_reducible refine qam (f := 27) rfl ?_); refine goesL_ (some 32) rfl rfl Tryz.func27 (by kernel_rfl) rfl #[.agg #[.int .i64 t193, .string t194, .string t195], .agg #[.int .i64 t198, .string t199, .string t200]] rfl (by (try simp only [List.map_toArray, List.map_cons, List.map_nil]); first | done | rfl | (simp only [List.length_drop, List.length_take]; rfl)) ?_; (with_reducible refine (version_Compare.calls kj6 t193 t194 t195 t198 t199 t200 t203 _ (by first | exact hG | exact GL.below hG (by repeat (first | (with_reducible first | exact HB.out | apply qaf | apply qaa | apply qae | refine qad ?_ GE197.out | refine qad ?_ GE202.out) | exact HB.out)))  A17.out).mono ?_); rintro e w37 ⟨rfl, hb⟩; refine ⟨_, rfl, ?_⟩; have n0_ := Aside0.mk (qaj (g := gb197) (o := .cells #[.int .i64 t193, .string t194, .string t195] 43 (0, 0)) (by (with_reducible repeat (first | refine qac ?_ _ | refine qag ?_ | refine qab ?_ _)); exact BK197.out) hb); have n1_ := Aside0.mk (qaj (g := gb202) (o := .cells #[.int .i64 t198, .string t199, .string t200] 43 (0, 0)) (by (with_reducible repeat (first | refine qac ?_ _ | refine qag ?_ | refine qab ?_ _)); exact BK202.out) hb); have n2_ := Aside0.mk (qak (by repeat (first | (with_reducible first | exact HB.out | apply qaf | apply qaa | apply qae | refine qad ?_ GE197.out | refine qad ?_ GE202.out) | exact HB.out)) hb); clear BK197; clear BK202; clear HB; have BK197 := n0_; have BK202 := n1_; have HB := n2_; clear n0_ n1_ n2_; (try clear hb); (try clear hb2); (try clear hk); (try clear hi)))
                  go_ret
                  exact ⟨by first | rfl | (simp [qan, qao] <;> rfl) | (simp [*, qan, qao] <;> rfl), by repeat (first | (with_reducible first | exact HB.out | apply qaf | apply qaa | apply qae | refine qad ?_ GE197.out | refine qad ?_ GE202.out) | exact HB.out)⟩
                · rw [if_neg c33] at H
                  have c33b0 : (a0 == 4) = false := beq_eq_false_iff_ne.mpr c33
                  have c33b1 : (a0 != 4) = true := bne_iff_ne.mpr c33
                  by_cases c38 : a0 = 5
                  · rw [if_pos c38] at H
                    have c38b0 : (a0 == 5) = true := beq_iff_eq.mpr c38
                    have c38b1 : (a0 != 5) = false := bne_eq_false_iff_eq.mpr c38
                    clear c38
                    obtain rfl := Option.some.inj H
                    have hnb39 := NB197_202.out
                    have hnc39 := NB202_197.out
                    have hcz40_0 : wc.cell? ⟨gb197, 0, none⟩ = some (.int .i64 t193) := (qai BK197.out 0).trans rfl
                    have hcz40_1 : wc.cell? ⟨gb197, 1, none⟩ = some (.string t194) := (qai BK197.out 1).trans rfl
                    have hcz40_2 : wc.cell? ⟨gb197, 2, none⟩ = some (.string t195) := (qai BK197.out 2).trans rfl
                    have hfz40_0 := qah BK197.out 0
                    have hfz40_1 := qah BK197.out 1
                    have hfz40_2 := qah BK197.out 2
                    have hcz41_0 : wc.cell? ⟨gb202, 0, none⟩ = some (.int .i64 t198) := (qai BK202.out 0).trans rfl
                    have hcz41_1 : wc.cell? ⟨gb202, 1, none⟩ = some (.string t199) := (qai BK202.out 1).trans rfl
                    have hcz41_2 : wc.cell? ⟨gb202, 2, none⟩ = some (.string t200) := (qai BK202.out 2).trans rfl
                    have hfz41_0 := qah BK202.out 0
                    have hfz41_1 := qah BK202.out 1
                    have hfz41_2 := qah BK202.out 2
                    go_wp2_with (first | ((with_reducible refine qam (f := 27) rfl ?_); refine goesL_ (some 32) rfl rfl Tryz.func27 (by kernel_rfl) rfl #[.agg #[.int .i64 t193, .string t194, .string t195], .agg #[.int .i64 t198, .string t199, .string t200]] rfl (by (try simp only [List.map_toArray, List.map_cons, List.map_nil]); first | done | rfl | (simp only [List.length_drop, List.length_take]; rfl)) ?_; (with_reducible refine (version_Compare.calls kj6 t193 t194 t195 t198 t199 t200 t203 _ (by first | exact hG | exact GL.below hG (by repeat (first | (with_reducible first | exact HB.out | apply qaf | apply qaa | apply qae | refine qad ?_ GE197.out | refine qad ?_ GE202.out) | exact HB.out)))  A17.out).mono ?_); rintro e w42 ⟨rfl, hb⟩; refine ⟨_, rfl, ?_⟩; have n0_ := Aside0.mk (qaj (g := gb197) (o := .cells #[.int .i64 t193, .string t194, .string t195] 43 (0, 0)) (by (with_reducible repeat (first | refine qac ?_ _ | refine qag ?_ | refine qab ?_ _)); exact BK197.out) hb); have n1_ := Aside0.mk (qaj (g := gb202) (o := .cells #[.int .i64 t198, .string t199, .string t200] 43 (0, 0)) (by (with_reducible repeat (first | refine qac ?_ _ | refine qag ?_ | refine qab ?_ _)); exact BK202.out) hb); have n2_ := Aside0.mk (qak (by repeat (first | (with_reducible first | exact HB.out | apply qaf | apply qaa | apply qae | refine qad ?_ GE197.out | refine qad ?_ GE202.out) | exact HB.out)) hb); clear BK197; clear BK202; clear HB; have BK197 := n0_; have BK202 := n1_; have HB := n2_; clear n0_ n1_ n2_; (try clear hb); (try clear hb2); (try clear hk); (try clear hi)))
                    go_ret
                    exact ⟨by first | rfl | (simp [qan, qao] <;> rfl) | (simp [*, qan, qao] <;> rfl), by repeat (first | (with_reducible first | exact HB.out | apply qaf | apply qaa | apply qae | refine qad ?_ GE197.out | refine qad ?_ GE202.out) | exact HB.out)⟩
                  · rw [if_neg c38] at H
                    have c38b0 : (a0 == 5) = false := beq_eq_false_iff_ne.mpr c38
                    have c38b1 : (a0 != 5) = true := bne_iff_ne.mpr c38
                    obtain rfl := Option.some.inj H
                    have hnb43 := NB197_202.out
                    have hnc43 := NB202_197.out
                    have hcz44_0 : wc.cell? ⟨gb197, 0, none⟩ = some (.int .i64 t193) := (qai BK197.out 0).trans rfl
                    have hcz44_1 : wc.cell? ⟨gb197, 1, none⟩ = some (.string t194) := (qai BK197.out 1).trans rfl
                    have hcz44_2 : wc.cell? ⟨gb197, 2, none⟩ = some (.string t195) := (qai BK197.out 2).trans rfl
                    have hfz44_0 := qah BK197.out 0
                    have hfz44_1 := qah BK197.out 1
                    have hfz44_2 := qah BK197.out 2
                    have hcz45_0 : wc.cell? ⟨gb202, 0, none⟩ = some (.int .i64 t198) := (qai BK202.out 0).trans rfl
                    have hcz45_1 : wc.cell? ⟨gb202, 1, none⟩ = some (.string t199) := (qai BK202.out 1).trans rfl
                    have hcz45_2 : wc.cell? ⟨gb202, 2, none⟩ = some (.string t200) := (qai BK202.out 2).trans rfl
                    have hfz45_0 := qah BK202.out 0
                    have hfz45_1 := qah BK202.out 1
                    have hfz45_2 := qah BK202.out 2
                    go_wp2_with (first | ((with_reducible refine qam (f := 27) rfl ?_); refine goesL_ (some 32) rfl rfl Tryz.func27 (by kernel_rfl) rfl #[.agg #[.int .i64 t193, .string t194, .string t195], .agg #[.int .i64 t198, .string t199, .string t200]] rfl (by (try simp only [List.map_toArray, List.map_cons, List.map_nil]); first | done | rfl | (simp only [List.length_drop, List.length_take]; rfl)) ?_; (with_reducible refine (version_Compare.calls kj6 t193 t194 t195 t198 t199 t200 t203 _ (by first | exact hG | exact GL.below hG (by repeat (first | (with_reducible first | exact HB.out | apply qaf | apply qaa | apply qae | refine qad ?_ GE197.out | refine qad ?_ GE202.out) | exact HB.out)))  A17.out).mono ?_); rintro e w46 ⟨rfl, hb⟩; refine ⟨_, rfl, ?_⟩; have n0_ := Aside0.mk (qaj (g := gb197) (o := .cells #[.int .i64 t193, .string t194, .string t195] 43 (0, 0)) (by (with_reducible repeat (first | refine qac ?_ _ | refine qag ?_ | refine qab ?_ _)); exact BK197.out) hb); have n1_ := Aside0.mk (qaj (g := gb202) (o := .cells #[.int .i64 t198, .string t199, .string t200] 43 (0, 0)) (by (with_reducible repeat (first | refine qac ?_ _ | refine qag ?_ | refine qab ?_ _)); exact BK202.out) hb); have n2_ := Aside0.mk (qak (by repeat (first | (with_reducible first | exact HB.out | apply qaf | apply qaa | apply qae | refine qad ?_ GE197.out | refine qad ?_ GE202.out) | exact HB.out)) hb); clear BK197; clear BK202; clear HB; have BK197 := n0_; have BK202 := n1_; have HB := n2_; clear n0_ n1_ n2_; (try clear hb); (try clear hb2); (try clear hk); (try clear hi)))
                    go_ret
                    exact ⟨by first | rfl | (simp [qan, qao] <;> rfl) | (simp [*, qan, qao] <;> rfl), by repeat (first | (with_reducible first | exact HB.out | apply qaf | apply qaa | apply qae | refine qad ?_ GE197.out | refine qad ?_ GE202.out) | exact HB.out)⟩
def relation_Provides.f (k : Nat) (a0_0 : ByteArray) (a0_1 : Int) (a0_2 : ByteArray) (a1_0 : ByteArray) (a1_1 : Int) (a1_2 : ByteArray) : Option (Bool) := if a0_0.toList = a1_0.toList then (if a0_1 = 0 then (some true) else (if a1_1 = 3 then ((relation_Holds.f k a0_1 a1_2 a0_2).bind fun t206 => (some t206)) else (some false))) else (some false)
theorem relation_Provides.mono : ∀ a0 a1 a2 a3 a4 a5 k, LeO (relation_Provides.f k a0 a1 a2 a3 a4 a5) (relation_Provides.f (k + 1) a0 a1 a2 a3 a4 a5) := by
  intro a0 a1 a2 a3 a4 a5 k
  unfold relation_Provides.f
  repeat' first
      | (with_reducible exact relation_Holds.mono _ _ _ _)
      | (with_reducible exact LeO.refl _)
      | (with_reducible exact LeO.none _)
      | (with_reducible refine LeO.ite ?_ ?_)
      | (with_reducible refine LeO.bind ?_ (fun _ => ?_))
      | exact relation_Holds.mono _ _ _ _
      | exact LeO.none _
      | refine LeO.ite ?_ ?_
      | refine LeO.bind ?_ (fun _ => ?_)
set_option maxHeartbeats 8000000 in
set_option maxRecDepth 100000 in
theorem relation_Provides.calls (k : Nat) (a0_0 : ByteArray) (a0_1 : Int) (a0_2 : ByteArray) (a1_0 : ByteArray) (a1_1 : Int) (a1_2 : ByteArray) (r : Bool) (w : World) (hG : GL w) (h : relation_Provides.f k a0_0 a0_1 a0_2 a1_0 a1_1 a1_2 = some r) :
    Calls Tryz.prog 13 #[.agg #[.string a0_0, .int .i64 a0_1, .string a0_2], .agg #[.string a1_0, .int .i64 a1_1, .string a1_2]] w fun e w' => e = .returned (.bool r) ∧ Below w.heap.size w w' := by
  have hu23 := Tryz.underlying23
  have HB := Aside0.mk (Below.refl w.heap.size w)
  have H : (if a0_0.toList = a1_0.toList then (if a0_1 = 0 then (some true) else (if a1_1 = 3 then ((relation_Holds.f k a0_1 a1_2 a0_2).bind fun t206 => (some t206)) else (some false))) else (some false)) = some r := h
  clear h
  by_cases c3 : a0_0.toList = a1_0.toList
  · rw [if_pos c3] at H
    have c3b0 : (a0_0.toList == a1_0.toList) = true := beq_iff_eq.mpr c3
    have c3b1 : (a0_0.toList != a1_0.toList) = false := bne_eq_false_iff_eq.mpr c3
    clear c3
    by_cases c4 : a0_1 = 0
    · rw [if_pos c4] at H
      have c4b0 : (a0_1 == 0) = true := beq_iff_eq.mpr c4
      have c4b1 : (a0_1 != 0) = false := bne_eq_false_iff_eq.mpr c4
      clear c4
      obtain rfl := Option.some.inj H
      go_enter Tryz.func13, Tryz.ntmps13
      go_wp2_with (first | ((with_reducible refine qar (N := 2) rfl ?_); refine qaq ?hg (N := 2) ?hd (cs := #[.string a0_0, .int .i64 a0_1, .string a0_2]) (t := 23) ?hr ?_; (case hd => rfl); (case hg => rfl); (case hr => first | (go_simp; done) | (go_simp; rfl)); intro gb204 hg w5 hbox hb; have n0_ := Aside0.mk (qak (by repeat (first | (with_reducible first | exact HB.out | apply qaf | apply qaa | apply qae) | exact HB.out)) hb); have n1_ := Aside0.mk (hbox); have n2_ := Aside0.mk ((by rw [hg]; exact (qap (by repeat (first | (with_reducible first | exact HB.out | apply qaf | apply qaa | apply qae) | exact HB.out))) : w.heap.size ≤ gb204)); have n3_ := Aside0.mk ((by rw [hg]; exact (qap (by repeat (first | (with_reducible first | exact HB.out | apply qaf | apply qaa | apply qae) | exact HB.out))) : w.heap.size ≤ gb204)); clear HB; have HB := n0_; have BK204 := n1_; have GW204 := n2_; have GE204 := n3_; clear n0_ n1_ n2_ n3_; clear hb hbox hg) | ((with_reducible refine qar (N := 3) rfl ?_); refine qaq ?hg (N := 3) ?hd (cs := #[.string a1_0, .int .i64 a1_1, .string a1_2]) (t := 23) ?hr ?_; (case hd => rfl); (case hg => rfl); (case hr => first | (go_simp; done) | (go_simp; rfl)); intro gb205 hg w6 hbox hb; have n0_ := Aside0.mk (qaj (g := gb204) (o := .cells #[.string a0_0, .int .i64 a0_1, .string a0_2] 23 (0, 0)) (by (with_reducible repeat (first | refine qac ?_ _ | refine qag ?_ | refine qab ?_ _)); exact BK204.out) hb); have n1_ := Aside0.mk (qak (by repeat (first | (with_reducible first | exact HB.out | apply qaf | apply qaa | apply qae | refine qad ?_ GE204.out) | exact HB.out)) hb); have n2_ := Aside0.mk (hbox); have n3_ := Aside0.mk ((by rw [hg]; exact (qap (by repeat (first | (with_reducible first | exact HB.out | apply qaf | apply qaa | apply qae | refine qad ?_ GE204.out) | exact HB.out))) : w.heap.size ≤ gb205)); have n4_ := Aside0.mk ((by rw [hg]; exact (qap (by repeat (first | (with_reducible first | exact HB.out | apply qaf | apply qaa | apply qae | refine qad ?_ GE204.out) | exact HB.out))) : w.heap.size ≤ gb205)); have n5_ := Aside0.mk ((by rw [hg]; exact Nat.ne_of_lt (blk_lt (g := gb204) (o := .cells #[.string a0_0, .int .i64 a0_1, .string a0_2] 23 (0, 0)) (by (with_reducible repeat (first | refine qac ?_ _ | refine qag ?_ | refine qab ?_ _)); exact BK204.out)) : gb204 ≠ gb205)); have n6_ := Aside0.mk ((by rw [hg]; exact Nat.ne_of_gt (blk_lt (g := gb204) (o := .cells #[.string a0_0, .int .i64 a0_1, .string a0_2] 23 (0, 0)) (by (with_reducible repeat (first | refine qac ?_ _ | refine qag ?_ | refine qab ?_ _)); exact BK204.out)) : gb205 ≠ gb204)); clear BK204; clear HB; have BK204 := n0_; have HB := n1_; have BK205 := n2_; have GW205 := n3_; have GE205 := n4_; have NB204_205 := n5_; have NB205_204 := n6_; clear n0_ n1_ n2_ n3_ n4_ n5_ n6_; clear hb hbox hg; have hnb7 := NB204_205.out; have hnc7 := NB205_204.out; have hcz8_0 : w6.cell? ⟨gb204, 0, none⟩ = some (.string a0_0) := (qai BK204.out 0).trans rfl; have hcz8_1 : w6.cell? ⟨gb204, 1, none⟩ = some (.int .i64 a0_1) := (qai BK204.out 1).trans rfl; have hcz8_2 : w6.cell? ⟨gb204, 2, none⟩ = some (.string a0_2) := (qai BK204.out 2).trans rfl; have hfz8_0 := qah BK204.out 0; have hfz8_1 := qah BK204.out 1; have hfz8_2 := qah BK204.out 2; have hcz9_0 : w6.cell? ⟨gb205, 0, none⟩ = some (.string a1_0) := (qai BK205.out 0).trans rfl; have hcz9_1 : w6.cell? ⟨gb205, 1, none⟩ = some (.int .i64 a1_1) := (qai BK205.out 1).trans rfl; have hcz9_2 : w6.cell? ⟨gb205, 2, none⟩ = some (.string a1_2) := (qai BK205.out 2).trans rfl; have hfz9_0 := qah BK205.out 0; have hfz9_1 := qah BK205.out 1; have hfz9_2 := qah BK205.out 2))
      go_ret
      exact ⟨by first | rfl | (simp [qan, qao] <;> rfl) | (simp [*, qan, qao] <;> rfl), by repeat (first | (with_reducible first | exact HB.out | apply qaf | apply qaa | apply qae | refine qad ?_ GE204.out | refine qad ?_ GE205.out) | exact HB.out)⟩
    · rw [if_neg c4] at H
      have c4b0 : (a0_1 == 0) = false := beq_eq_false_iff_ne.mpr c4
      have c4b1 : (a0_1 != 0) = true := bne_iff_ne.mpr c4
      by_cases c10 : a1_1 = 3
      · rw [if_pos c10] at H
        have c10b0 : (a1_1 == 3) = true := beq_iff_eq.mpr c10
        have c10b1 : (a1_1 != 3) = false := bne_eq_false_iff_eq.mpr c10
        clear c10
        replace H := Option.bind_eq_some_iff.mp H
        obtain ⟨t206, A110, H⟩ := H
        replace H : (some t206) = some r := H
        have A11 := Aside0.mk A110
        clear A110
        obtain rfl := Option.some.inj H
        go_enter Tryz.func13, Tryz.ntmps13
        go_wp2_with (first | ((with_reducible refine qar (N := 2) rfl ?_); refine qaq ?hg (N := 2) ?hd (cs := #[.string a0_0, .int .i64 a0_1, .string a0_2]) (t := 23) ?hr ?_; (case hd => rfl); (case hg => rfl); (case hr => first | (go_simp; done) | (go_simp; rfl)); intro gb204 hg w12 hbox hb; have n0_ := Aside0.mk (qak (by repeat (first | (with_reducible first | exact HB.out | apply qaf | apply qaa | apply qae) | exact HB.out)) hb); have n1_ := Aside0.mk (hbox); have n2_ := Aside0.mk ((by rw [hg]; exact (qap (by repeat (first | (with_reducible first | exact HB.out | apply qaf | apply qaa | apply qae) | exact HB.out))) : w.heap.size ≤ gb204)); have n3_ := Aside0.mk ((by rw [hg]; exact (qap (by repeat (first | (with_reducible first | exact HB.out | apply qaf | apply qaa | apply qae) | exact HB.out))) : w.heap.size ≤ gb204)); clear HB; have HB := n0_; have BK204 := n1_; have GW204 := n2_; have GE204 := n3_; clear n0_ n1_ n2_ n3_; clear hb hbox hg) | ((with_reducible refine qar (N := 3) rfl ?_); refine qaq ?hg (N := 3) ?hd (cs := #[.string a1_0, .int .i64 a1_1, .string a1_2]) (t := 23) ?hr ?_; (case hd => rfl); (case hg => rfl); (case hr => first | (go_simp; done) | (go_simp; rfl)); intro gb205 hg w13 hbox hb; have n0_ := Aside0.mk (qaj (g := gb204) (o := .cells #[.string a0_0, .int .i64 a0_1, .string a0_2] 23 (0, 0)) (by (with_reducible repeat (first | refine qac ?_ _ | refine qag ?_ | refine qab ?_ _)); exact BK204.out) hb); have n1_ := Aside0.mk (qak (by repeat (first | (with_reducible first | exact HB.out | apply qaf | apply qaa | apply qae | refine qad ?_ GE204.out) | exact HB.out)) hb); have n2_ := Aside0.mk (hbox); have n3_ := Aside0.mk ((by rw [hg]; exact (qap (by repeat (first | (with_reducible first | exact HB.out | apply qaf | apply qaa | apply qae | refine qad ?_ GE204.out) | exact HB.out))) : w.heap.size ≤ gb205)); have n4_ := Aside0.mk ((by rw [hg]; exact (qap (by repeat (first | (with_reducible first | exact HB.out | apply qaf | apply qaa | apply qae | refine qad ?_ GE204.out) | exact HB.out))) : w.heap.size ≤ gb205)); have n5_ := Aside0.mk ((by rw [hg]; exact Nat.ne_of_lt (blk_lt (g := gb204) (o := .cells #[.string a0_0, .int .i64 a0_1, .string a0_2] 23 (0, 0)) (by (with_reducible repeat (first | refine qac ?_ _ | refine qag ?_ | refine qab ?_ _)); exact BK204.out)) : gb204 ≠ gb205)); have n6_ := Aside0.mk ((by rw [hg]; exact Nat.ne_of_gt (blk_lt (g := gb204) (o := .cells #[.string a0_0, .int .i64 a0_1, .string a0_2] 23 (0, 0)) (by (with_reducible repeat (first | refine qac ?_ _ | refine qag ?_ | refine qab ?_ _)); exact BK204.out)) : gb205 ≠ gb204)); clear BK204; clear HB; have BK204 := n0_; have HB := n1_; have BK205 := n2_; have GW205 := n3_; have GE205 := n4_; have NB204_205 := n5_; have NB205_204 := n6_; clear n0_ n1_ n2_ n3_ n4_ n5_ n6_; clear hb hbox hg; have hnb14 := NB204_205.out; have hnc14 := NB205_204.out; have hcz15_0 : w13.cell? ⟨gb204, 0, none⟩ = some (.string a0_0) := (qai BK204.out 0).trans rfl; have hcz15_1 : w13.cell? ⟨gb204, 1, none⟩ = some (.int .i64 a0_1) := (qai BK204.out 1).trans rfl; have hcz15_2 : w13.cell? ⟨gb204, 2, none⟩ = some (.string a0_2) := (qai BK204.out 2).trans rfl; have hfz15_0 := qah BK204.out 0; have hfz15_1 := qah BK204.out 1; have hfz15_2 := qah BK204.out 2; have hcz16_0 : w13.cell? ⟨gb205, 0, none⟩ = some (.string a1_0) := (qai BK205.out 0).trans rfl; have hcz16_1 : w13.cell? ⟨gb205, 1, none⟩ = some (.int .i64 a1_1) := (qai BK205.out 1).trans rfl; have hcz16_2 : w13.cell? ⟨gb205, 2, none⟩ = some (.string a1_2) := (qai BK205.out 2).trans rfl; have hfz16_0 := qah BK205.out 0; have hfz16_1 := qah BK205.out 1; have hfz16_2 := qah BK205.out 2) | (go_at_call 12; (with_reducible refine (relation_Holds.calls k a0_1 a1_2 a0_2 t206 _ (by first | exact hG | exact GL.below hG (by repeat (first | (with_reducible first | exact HB.out | apply qaf | apply qaa | apply qae | refine qad ?_ GE204.out | refine qad ?_ GE205.out) | exact HB.out)))  A11.out).mono ?_); rintro e w17 ⟨rfl, hb⟩; have n0_ := Aside0.mk (qaj (g := gb204) (o := .cells #[.string a0_0, .int .i64 a0_1, .string a0_2] 23 (0, 0)) (by (with_reducible repeat (first | refine qac ?_ _ | refine qag ?_ | refine qab ?_ _)); exact BK204.out) hb); have n1_ := Aside0.mk (qaj (g := gb205) (o := .cells #[.string a1_0, .int .i64 a1_1, .string a1_2] 23 (0, 0)) (by (with_reducible repeat (first | refine qac ?_ _ | refine qag ?_ | refine qab ?_ _)); exact BK205.out) hb); have n2_ := Aside0.mk (qak (by repeat (first | (with_reducible first | exact HB.out | apply qaf | apply qaa | apply qae | refine qad ?_ GE204.out | refine qad ?_ GE205.out) | exact HB.out)) hb); clear BK204; clear BK205; clear HB; have BK204 := n0_; have BK205 := n1_; have HB := n2_; clear n0_ n1_ n2_; (try clear hb); (try clear hb2); (try clear hk); (try clear hi)))
        go_ret
        exact ⟨by first | rfl | (simp [qan, qao] <;> rfl) | (simp [*, qan, qao] <;> rfl), by repeat (first | (with_reducible first | exact HB.out | apply qaf | apply qaa | apply qae | refine qad ?_ GE204.out | refine qad ?_ GE205.out) | exact HB.out)⟩
      · rw [if_neg c10] at H
        have c10b0 : (a1_1 == 3) = false := beq_eq_false_iff_ne.mpr c10
        have c10b1 : (a1_1 != 3) = true := bne_iff_ne.mpr c10
        obtain rfl := Option.some.inj H
        go_enter Tryz.func13, Tryz.ntmps13
        go_wp2_with (first | ((with_reducible refine qar (N := 2) rfl ?_); refine qaq ?hg (N := 2) ?hd (cs := #[.string a0_0, .int .i64 a0_1, .string a0_2]) (t := 23) ?hr ?_; (case hd => rfl); (case hg => rfl); (case hr => first | (go_simp; done) | (go_simp; rfl)); intro gb204 hg w18 hbox hb; have n0_ := Aside0.mk (qak (by repeat (first | (with_reducible first | exact HB.out | apply qaf | apply qaa | apply qae) | exact HB.out)) hb); have n1_ := Aside0.mk (hbox); have n2_ := Aside0.mk ((by rw [hg]; exact (qap (by repeat (first | (with_reducible first | exact HB.out | apply qaf | apply qaa | apply qae) | exact HB.out))) : w.heap.size ≤ gb204)); have n3_ := Aside0.mk ((by rw [hg]; exact (qap (by repeat (first | (with_reducible first | exact HB.out | apply qaf | apply qaa | apply qae) | exact HB.out))) : w.heap.size ≤ gb204)); clear HB; have HB := n0_; have BK204 := n1_; have GW204 := n2_; have GE204 := n3_; clear n0_ n1_ n2_ n3_; clear hb hbox hg) | ((with_reducible refine qar (N := 3) rfl ?_); refine qaq ?hg (N := 3) ?hd (cs := #[.string a1_0, .int .i64 a1_1, .string a1_2]) (t := 23) ?hr ?_; (case hd => rfl); (case hg => rfl); (case hr => first | (go_simp; done) | (go_simp; rfl)); intro gb205 hg w19 hbox hb; have n0_ := Aside0.mk (qaj (g := gb204) (o := .cells #[.string a0_0, .int .i64 a0_1, .string a0_2] 23 (0, 0)) (by (with_reducible repeat (first | refine qac ?_ _ | refine qag ?_ | refine qab ?_ _)); exact BK204.out) hb); have n1_ := Aside0.mk (qak (by repeat (first | (with_reducible first | exact HB.out | apply qaf | apply qaa | apply qae | refine qad ?_ GE204.out) | exact HB.out)) hb); have n2_ := Aside0.mk (hbox); have n3_ := Aside0.mk ((by rw [hg]; exact (qap (by repeat (first | (with_reducible first | exact HB.out | apply qaf | apply qaa | apply qae | refine qad ?_ GE204.out) | exact HB.out))) : w.heap.size ≤ gb205)); have n4_ := Aside0.mk ((by rw [hg]; exact (qap (by repeat (first | (with_reducible first | exact HB.out | apply qaf | apply qaa | apply qae | refine qad ?_ GE204.out) | exact HB.out))) : w.heap.size ≤ gb205)); have n5_ := Aside0.mk ((by rw [hg]; exact Nat.ne_of_lt (blk_lt (g := gb204) (o := .cells #[.string a0_0, .int .i64 a0_1, .string a0_2] 23 (0, 0)) (by (with_reducible repeat (first | refine qac ?_ _ | refine qag ?_ | refine qab ?_ _)); exact BK204.out)) : gb204 ≠ gb205)); have n6_ := Aside0.mk ((by rw [hg]; exact Nat.ne_of_gt (blk_lt (g := gb204) (o := .cells #[.string a0_0, .int .i64 a0_1, .string a0_2] 23 (0, 0)) (by (with_reducible repeat (first | refine qac ?_ _ | refine qag ?_ | refine qab ?_ _)); exact BK204.out)) : gb205 ≠ gb204)); clear BK204; clear HB; have BK204 := n0_; have HB := n1_; have BK205 := n2_; have GW205 := n3_; have GE205 := n4_; have NB204_205 := n5_; have NB205_204 := n6_; clear n0_ n1_ n2_ n3_ n4_ n5_ n6_; clear hb hbox hg; have hnb20 := NB204_205.out; have hnc20 := NB205_204.out; have hcz21_0 : w19.cell? ⟨gb204, 0, none⟩ = some (.string a0_0) := (qai BK204.out 0).trans rfl; have hcz21_1 : w19.cell? ⟨gb204, 1, none⟩ = some (.int .i64 a0_1) := (qai BK204.out 1).trans rfl; have hcz21_2 : w19.cell? ⟨gb204, 2, none⟩ = some (.string a0_2) := (qai BK204.out 2).trans rfl; have hfz21_0 := qah BK204.out 0; have hfz21_1 := qah BK204.out 1; have hfz21_2 := qah BK204.out 2; have hcz22_0 : w19.cell? ⟨gb205, 0, none⟩ = some (.string a1_0) := (qai BK205.out 0).trans rfl; have hcz22_1 : w19.cell? ⟨gb205, 1, none⟩ = some (.int .i64 a1_1) := (qai BK205.out 1).trans rfl; have hcz22_2 : w19.cell? ⟨gb205, 2, none⟩ = some (.string a1_2) := (qai BK205.out 2).trans rfl; have hfz22_0 := qah BK205.out 0; have hfz22_1 := qah BK205.out 1; have hfz22_2 := qah BK205.out 2))
        go_ret
        exact ⟨by first | rfl | (simp [qan, qao] <;> rfl) | (simp [*, qan, qao] <;> rfl), by repeat (first | (with_reducible first | exact HB.out | apply qaf | apply qaa | apply qae | refine qad ?_ GE204.out | refine qad ?_ GE205.out) | exact HB.out)⟩
  · rw [if_neg c3] at H
    have c3b0 : (a0_0.toList == a1_0.toList) = false := beq_eq_false_iff_ne.mpr c3
    have c3b1 : (a0_0.toList != a1_0.toList) = true := bne_iff_ne.mpr c3
    obtain rfl := Option.some.inj H
    go_enter Tryz.func13, Tryz.ntmps13
    go_wp2_with (first | ((with_reducible refine qar (N := 2) rfl ?_); refine qaq ?hg (N := 2) ?hd (cs := #[.string a0_0, .int .i64 a0_1, .string a0_2]) (t := 23) ?hr ?_; (case hd => rfl); (case hg => rfl); (case hr => first | (go_simp; done) | (go_simp; rfl)); intro gb204 hg w23 hbox hb; have n0_ := Aside0.mk (qak (by repeat (first | (with_reducible first | exact HB.out | apply qaf | apply qaa | apply qae) | exact HB.out)) hb); have n1_ := Aside0.mk (hbox); have n2_ := Aside0.mk ((by rw [hg]; exact (qap (by repeat (first | (with_reducible first | exact HB.out | apply qaf | apply qaa | apply qae) | exact HB.out))) : w.heap.size ≤ gb204)); have n3_ := Aside0.mk ((by rw [hg]; exact (qap (by repeat (first | (with_reducible first | exact HB.out | apply qaf | apply qaa | apply qae) | exact HB.out))) : w.heap.size ≤ gb204)); clear HB; have HB := n0_; have BK204 := n1_; have GW204 := n2_; have GE204 := n3_; clear n0_ n1_ n2_ n3_; clear hb hbox hg) | ((with_reducible refine qar (N := 3) rfl ?_); refine qaq ?hg (N := 3) ?hd (cs := #[.string a1_0, .int .i64 a1_1, .string a1_2]) (t := 23) ?hr ?_; (case hd => rfl); (case hg => rfl); (case hr => first | (go_simp; done) | (go_simp; rfl)); intro gb205 hg w24 hbox hb; have n0_ := Aside0.mk (qaj (g := gb204) (o := .cells #[.string a0_0, .int .i64 a0_1, .string a0_2] 23 (0, 0)) (by (with_reducible repeat (first | refine qac ?_ _ | refine qag ?_ | refine qab ?_ _)); exact BK204.out) hb); have n1_ := Aside0.mk (qak (by repeat (first | (with_reducible first | exact HB.out | apply qaf | apply qaa | apply qae | refine qad ?_ GE204.out) | exact HB.out)) hb); have n2_ := Aside0.mk (hbox); have n3_ := Aside0.mk ((by rw [hg]; exact (qap (by repeat (first | (with_reducible first | exact HB.out | apply qaf | apply qaa | apply qae | refine qad ?_ GE204.out) | exact HB.out))) : w.heap.size ≤ gb205)); have n4_ := Aside0.mk ((by rw [hg]; exact (qap (by repeat (first | (with_reducible first | exact HB.out | apply qaf | apply qaa | apply qae | refine qad ?_ GE204.out) | exact HB.out))) : w.heap.size ≤ gb205)); have n5_ := Aside0.mk ((by rw [hg]; exact Nat.ne_of_lt (blk_lt (g := gb204) (o := .cells #[.string a0_0, .int .i64 a0_1, .string a0_2] 23 (0, 0)) (by (with_reducible repeat (first | refine qac ?_ _ | refine qag ?_ | refine qab ?_ _)); exact BK204.out)) : gb204 ≠ gb205)); have n6_ := Aside0.mk ((by rw [hg]; exact Nat.ne_of_gt (blk_lt (g := gb204) (o := .cells #[.string a0_0, .int .i64 a0_1, .string a0_2] 23 (0, 0)) (by (with_reducible repeat (first | refine qac ?_ _ | refine qag ?_ | refine qab ?_ _)); exact BK204.out)) : gb205 ≠ gb204)); clear BK204; clear HB; have BK204 := n0_; have HB := n1_; have BK205 := n2_; have GW205 := n3_; have GE205 := n4_; have NB204_205 := n5_; have NB205_204 := n6_; clear n0_ n1_ n2_ n3_ n4_ n5_ n6_; clear hb hbox hg; have hnb25 := NB204_205.out; have hnc25 := NB205_204.out; have hcz26_0 : w24.cell? ⟨gb204, 0, none⟩ = some (.string a0_0) := (qai BK204.out 0).trans rfl; have hcz26_1 : w24.cell? ⟨gb204, 1, none⟩ = some (.int .i64 a0_1) := (qai BK204.out 1).trans rfl; have hcz26_2 : w24.cell? ⟨gb204, 2, none⟩ = some (.string a0_2) := (qai BK204.out 2).trans rfl; have hfz26_0 := qah BK204.out 0; have hfz26_1 := qah BK204.out 1; have hfz26_2 := qah BK204.out 2; have hcz27_0 : w24.cell? ⟨gb205, 0, none⟩ = some (.string a1_0) := (qai BK205.out 0).trans rfl; have hcz27_1 : w24.cell? ⟨gb205, 1, none⟩ = some (.int .i64 a1_1) := (qai BK205.out 1).trans rfl; have hcz27_2 : w24.cell? ⟨gb205, 2, none⟩ = some (.string a1_2) := (qai BK205.out 2).trans rfl; have hfz27_0 := qah BK205.out 0; have hfz27_1 := qah BK205.out 1; have hfz27_2 := qah BK205.out 2))
    go_ret
    exact ⟨by first | rfl | (simp [qan, qao] <;> rfl) | (simp [*, qan, qao] <;> rfl), by repeat (first | (with_reducible first | exact HB.out | apply qaf | apply qaa | apply qae | refine qad ?_ GE204.out | refine qad ?_ GE205.out) | exact HB.out)⟩
end Go.Proofs.YtohijjobmmibcaaGreatDoor.PA
