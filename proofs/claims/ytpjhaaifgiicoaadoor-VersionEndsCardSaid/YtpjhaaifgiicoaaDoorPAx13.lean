-- out of the turned printer (wip/tool)
import Derived.Test.YtpjhaaifgiicoaaDoorPAx0
import Derived.Test.YtpjhaaifgiicoaaDoorPAx3
import Derived.Test.YtpjhaaifgiicoaaDoorPAx5
import Derived.Test.YtpjhaaifgiicoaaDoorPAx6
import Derived.Test.YtpjhaaifgiicoaaDoorPAx12
namespace Go.Proofs.YtpjhaaifgiicoaaDoor.PA
open Go.RowKit Go.Proofs.YtpjhaaifgiicoaaDoorW.PrintWords Go.Proofs.YtpjhaaifgiicoaaDoorW.PrintLast Go.Proofs.YtpjhaaifgiicoaaDoorW.PrintMore
attribute [local go_sem] max2_int min2_int max_two min_two max_three min_three max_four min_four   -- for this text's walks alone
set_option linter.unusedVariables false
set_option linter.unusedSimpArgs false

/-! ### version_Order: function 17 -/
def version_Order.j0 : Nat → Int → Int → Bool → Int → ByteArray → ByteArray → Int → ByteArray → ByteArray → Option (Int)
  | 0, _, _, _, _, _, _, _, _, _ => none
  | k + 1, x6, x8, x19, x260000, x260001, x260002, x265000, x265001, x265002 => if x19 = true then (some 0) else (if x6 = 0 then (if x8 = 0 then ((version_Compare.f k x260000 x260001 x260002 x265000 x265001 x265002).bind fun t265 => (some t265)) else (some 1)) else (some (-1)))
def version_Order.f (k : Nat) (a0 : ByteArray) (a1 : ByteArray) : Option (Int) := (version_Parse.f k a0).bind fun bt255 => ((version_Parse.f k a1).bind fun bt260 => (if bt255.2.2.2 = 0 then (version_Order.j0 k bt255.2.2.2 bt260.2.2.2 false bt255.1 bt255.2.1 bt255.2.2.1 bt260.1 bt260.2.1 bt260.2.2.1) else (version_Order.j0 k bt255.2.2.2 bt260.2.2.2 (bt260.2.2.2 != 0) bt255.1 bt255.2.1 bt255.2.2.1 bt260.1 bt260.2.1 bt260.2.2.1)))
theorem version_Order.mono_l : ∀ k, (∀ y0 y1 y2 y3 y4 y5 y6 y7 y8, LeO (version_Order.j0 k y0 y1 y2 y3 y4 y5 y6 y7 y8) (version_Order.j0 (k + 1) y0 y1 y2 y3 y4 y5 y6 y7 y8))
  | 0 => fun _ _ _ _ _ _ _ _ _ r h => by simp [version_Order.j0] at h
  | k + 1 => by
    have ih0 := version_Order.mono_l k
    · intro y0 y1 y2 y3 y4 y5 y6 y7 y8
      unfold version_Order.j0
      repeat' first
      | (with_reducible exact ih0 _ _ _ _ _ _ _ _ _)
      | (with_reducible exact version_Compare.mono _ _ _ _ _ _ _)
      | (with_reducible exact version_Parse.mono _ _)
      | (with_reducible exact LeO.refl _)
      | (with_reducible exact LeO.none _)
      | (with_reducible refine LeO.ite ?_ ?_)
      | (with_reducible refine LeO.bind ?_ (fun _ => ?_))
      | exact ih0 _ _ _ _ _ _ _ _ _
      | exact version_Compare.mono _ _ _ _ _ _ _
      | exact version_Parse.mono _ _
      | exact LeO.none _
      | refine LeO.ite ?_ ?_
      | refine LeO.bind ?_ (fun _ => ?_)
theorem version_Order.mono : ∀ a0 a1 k, LeO (version_Order.f k a0 a1) (version_Order.f (k + 1) a0 a1) := by
  intro a0 a1 k
  have ih0 := version_Order.mono_l k
  unfold version_Order.f
  repeat' first
      | (with_reducible exact ih0 _ _ _ _ _ _ _ _ _)
      | (with_reducible exact version_Compare.mono _ _ _ _ _ _ _)
      | (with_reducible exact version_Parse.mono _ _)
      | (with_reducible exact LeO.refl _)
      | (with_reducible exact LeO.none _)
      | (with_reducible refine LeO.ite ?_ ?_)
      | (with_reducible refine LeO.bind ?_ (fun _ => ?_))
      | exact ih0 _ _ _ _ _ _ _ _ _
      | exact version_Compare.mono _ _ _ _ _ _ _
      | exact version_Parse.mono _ _
      | exact LeO.none _
      | refine LeO.ite ?_ ?_
      | refine LeO.bind ?_ (fun _ => ?_)
set_option maxHeartbeats 8000000 in
set_option maxRecDepth 100000 in
theorem version_Order.calls (k : Nat) (a0 : ByteArray) (a1 : ByteArray) (r : Int) (w : World) (hG : GL w) (h : version_Order.f k a0 a1 = some r) :
    Calls Tryd.prog 17 #[.string a0, .string a1] w fun e w' => e = .returned (.int .i64 r) ∧ Below w.heap.size w w' := by
  have hu27 := Tryd.underlying27
  have HB := Aside0.mk (Below.refl w.heap.size w)
  have H : ((version_Parse.f k a0).bind fun bt255 => ((version_Parse.f k a1).bind fun bt260 => (if bt255.2.2.2 = 0 then (version_Order.j0 k bt255.2.2.2 bt260.2.2.2 false bt255.1 bt255.2.1 bt255.2.2.1 bt260.1 bt260.2.1 bt260.2.2.1) else (version_Order.j0 k bt255.2.2.2 bt260.2.2.2 (bt260.2.2.2 != 0) bt255.1 bt255.2.1 bt255.2.2.1 bt260.1 bt260.2.1 bt260.2.2.1)))) = some r := h
  clear h
  replace H := Option.bind_eq_some_iff.mp H
  obtain ⟨⟨t255, t256, t257, t258⟩, A30, H⟩ := H
  replace H : ((version_Parse.f k a1).bind fun bt260 => (if t258 = 0 then (version_Order.j0 k t258 bt260.2.2.2 false t255 t256 t257 bt260.1 bt260.2.1 bt260.2.2.1) else (version_Order.j0 k t258 bt260.2.2.2 (bt260.2.2.2 != 0) t255 t256 t257 bt260.1 bt260.2.1 bt260.2.2.1))) = some r := H
  have A3 := Aside0.mk A30
  clear A30
  replace H := Option.bind_eq_some_iff.mp H
  obtain ⟨⟨t260, t261, t262, t263⟩, A40, H⟩ := H
  replace H : (if t258 = 0 then (version_Order.j0 k t258 t263 false t255 t256 t257 t260 t261 t262) else (version_Order.j0 k t258 t263 (t263 != 0) t255 t256 t257 t260 t261 t262)) = some r := H
  have A4 := Aside0.mk A40
  clear A40
  have HC5 := Aside0.mk H
  clear H
  go_enter Tryd.func17, Tryd.ntmps17
  go_upto_region 3 with (first | ((with_reducible refine gate_callee (f := 11) rfl ?_); refine goesL_ (some 11) rfl rfl Tryd.func11 (by kernel_rfl) rfl #[.string a0] rfl (by (try simp only [List.map_toArray, List.map_cons, List.map_nil]); first | done | rfl | (simp only [List.length_drop, List.length_take]; rfl)) ?_; (with_reducible refine (version_Parse.calls k a0 t255 t256 t257 t258 _ (by first | exact hG | exact GL.below hG (by repeat (first | (with_reducible first | exact HB.out | apply below_alloc | apply pw_below_drewN | apply below_drew1) | exact HB.out)))  A3.out).mono ?_); rintro e w6 ⟨rfl, hb⟩; refine ⟨_, rfl, ?_⟩; have n0_ := Aside0.mk (below_step (by repeat (first | (with_reducible first | exact HB.out | apply below_alloc | apply pw_below_drewN | apply below_drew1) | exact HB.out)) hb); clear HB; have HB := n0_; clear n0_; (try clear hb); (try clear hb2); (try clear hk); (try clear hi)) | ((with_reducible refine gate_dst (N := 5) rfl ?_); refine box_event ?hg (N := 5) ?hd (cs := #[.int .i64 0, .string (⟨#[]⟩ : ByteArray), .string (⟨#[]⟩ : ByteArray)]) (t := 27) ?hr ?_; (case hd => rfl); (case hg => rfl); (case hr => first | (go_simp; done) | (go_simp; rfl)); intro gb259 hg w7 hbox hb; have n0_ := Aside0.mk (below_step (by repeat (first | (with_reducible first | exact HB.out | apply below_alloc | apply pw_below_drewN | apply below_drew1) | exact HB.out)) hb); have n1_ := Aside0.mk (hbox); have n2_ := Aside0.mk ((by rw [hg]; exact (below_size (by repeat (first | (with_reducible first | exact HB.out | apply below_alloc | apply pw_below_drewN | apply below_drew1) | exact HB.out))) : w.heap.size ≤ gb259)); have n3_ := Aside0.mk ((by rw [hg]; exact (below_size (by repeat (first | (with_reducible first | exact HB.out | apply below_alloc | apply pw_below_drewN | apply below_drew1) | exact HB.out))) : w.heap.size ≤ gb259)); clear HB; have HB := n0_; have BK259 := n1_; have GW259 := n2_; have GE259 := n3_; clear n0_ n1_ n2_ n3_; clear hb hbox hg; have hcz8_0 : w7.cell? ⟨gb259, 0, none⟩ = some (.int .i64 0) := (blk_cell BK259.out 0).trans rfl; have hcz8_1 : w7.cell? ⟨gb259, 1, none⟩ = some (.string (⟨#[]⟩ : ByteArray)) := (blk_cell BK259.out 1).trans rfl; have hcz8_2 : w7.cell? ⟨gb259, 2, none⟩ = some (.string (⟨#[]⟩ : ByteArray)) := (blk_cell BK259.out 2).trans rfl; have hfz8_0 := blk_frozen BK259.out 0; have hfz8_1 := blk_frozen BK259.out 1; have hfz8_2 := blk_frozen BK259.out 2) | ((with_reducible refine gate_callee (f := 11) rfl ?_); refine goesL_ (some 16) rfl rfl Tryd.func11 (by kernel_rfl) rfl #[.string a1] rfl (by (try simp only [List.map_toArray, List.map_cons, List.map_nil]); first | done | rfl | (simp only [List.length_drop, List.length_take]; rfl)) ?_; (with_reducible refine (version_Parse.calls k a1 t260 t261 t262 t263 _ (by first | exact hG | exact GL.below hG (by repeat (first | (with_reducible first | exact HB.out | apply below_alloc | apply pw_below_drewN | apply below_drew1 | refine below_set ?_ GE259.out) | exact HB.out)))  A4.out).mono ?_); rintro e w9 ⟨rfl, hb⟩; refine ⟨_, rfl, ?_⟩; have n0_ := Aside0.mk (blk_below (g := gb259) (o := .cells #[.int .i64 t255, .string t256, .string t257] 27 (0, 0)) (by (with_reducible repeat (first | refine blk_drewN ?_ _ | refine blk_drew ?_ | refine blk_alloc ?_ _)); refine blk_put (cs := #[.int .i64 t255, .string t256, .string (⟨#[]⟩ : ByteArray)]) ?_ 2 _ rfl; (with_reducible repeat (first | refine blk_drewN ?_ _ | refine blk_drew ?_ | refine blk_alloc ?_ _)); refine blk_put (cs := #[.int .i64 t255, .string (⟨#[]⟩ : ByteArray), .string (⟨#[]⟩ : ByteArray)]) ?_ 1 _ rfl; (with_reducible repeat (first | refine blk_drewN ?_ _ | refine blk_drew ?_ | refine blk_alloc ?_ _)); refine blk_put (cs := #[.int .i64 0, .string (⟨#[]⟩ : ByteArray), .string (⟨#[]⟩ : ByteArray)]) ?_ 0 _ rfl; (with_reducible repeat (first | refine blk_drewN ?_ _ | refine blk_drew ?_ | refine blk_alloc ?_ _)); exact BK259.out) hb); have n1_ := Aside0.mk (below_step (by repeat (first | (with_reducible first | exact HB.out | apply below_alloc | apply pw_below_drewN | apply below_drew1 | refine below_set ?_ GE259.out) | exact HB.out)) hb); clear BK259; clear HB; have BK259 := n0_; have HB := n1_; clear n0_ n1_; (try clear hb); (try clear hb2); (try clear hk); (try clear hi)) | ((with_reducible refine gate_dst (N := 7) rfl ?_); refine box_event ?hg (N := 7) ?hd (cs := #[.int .i64 0, .string (⟨#[]⟩ : ByteArray), .string (⟨#[]⟩ : ByteArray)]) (t := 27) ?hr ?_; (case hd => rfl); (case hg => rfl); (case hr => first | (go_simp; done) | (go_simp; rfl)); intro gb264 hg w10 hbox hb; have n0_ := Aside0.mk (blk_below (g := gb259) (o := .cells #[.int .i64 t255, .string t256, .string t257] 27 (0, 0)) (by (with_reducible repeat (first | refine blk_drewN ?_ _ | refine blk_drew ?_ | refine blk_alloc ?_ _)); exact BK259.out) hb); have n1_ := Aside0.mk (below_step (by repeat (first | (with_reducible first | exact HB.out | apply below_alloc | apply pw_below_drewN | apply below_drew1 | refine below_set ?_ GE259.out) | exact HB.out)) hb); have n2_ := Aside0.mk (hbox); have n3_ := Aside0.mk ((by rw [hg]; exact (below_size (by repeat (first | (with_reducible first | exact HB.out | apply below_alloc | apply pw_below_drewN | apply below_drew1 | refine below_set ?_ GE259.out) | exact HB.out))) : w.heap.size ≤ gb264)); have n4_ := Aside0.mk ((by rw [hg]; exact (below_size (by repeat (first | (with_reducible first | exact HB.out | apply below_alloc | apply pw_below_drewN | apply below_drew1 | refine below_set ?_ GE259.out) | exact HB.out))) : w.heap.size ≤ gb264)); have n5_ := Aside0.mk ((by rw [hg]; exact Nat.ne_of_lt (blk_lt (g := gb259) (o := .cells #[.int .i64 t255, .string t256, .string t257] 27 (0, 0)) (by (with_reducible repeat (first | refine blk_drewN ?_ _ | refine blk_drew ?_ | refine blk_alloc ?_ _)); exact BK259.out)) : gb259 ≠ gb264)); have n6_ := Aside0.mk ((by rw [hg]; exact Nat.ne_of_gt (blk_lt (g := gb259) (o := .cells #[.int .i64 t255, .string t256, .string t257] 27 (0, 0)) (by (with_reducible repeat (first | refine blk_drewN ?_ _ | refine blk_drew ?_ | refine blk_alloc ?_ _)); exact BK259.out)) : gb264 ≠ gb259)); clear BK259; clear HB; have BK259 := n0_; have HB := n1_; have BK264 := n2_; have GW264 := n3_; have GE264 := n4_; have NB259_264 := n5_; have NB264_259 := n6_; clear n0_ n1_ n2_ n3_ n4_ n5_ n6_; clear hb hbox hg; have hnb11 := NB264_259.out; have hnc11 := NB259_264.out; have hcz12_0 : w10.cell? ⟨gb264, 0, none⟩ = some (.int .i64 0) := (blk_cell BK264.out 0).trans rfl; have hcz12_1 : w10.cell? ⟨gb264, 1, none⟩ = some (.string (⟨#[]⟩ : ByteArray)) := (blk_cell BK264.out 1).trans rfl; have hcz12_2 : w10.cell? ⟨gb264, 2, none⟩ = some (.string (⟨#[]⟩ : ByteArray)) := (blk_cell BK264.out 2).trans rfl; have hfz12_0 := blk_frozen BK264.out 0; have hfz12_1 := blk_frozen BK264.out 1; have hfz12_2 := blk_frozen BK264.out 2))
  (try simp only [Act.put, List.setIfInBounds_toArray, List.set_cons_zero, List.set_cons_succ])
  go_cut [19] (fun v19 wc => ∃ (kq : Nat) (x19_4 : Bool), v19 = .bool x19_4 ∧ Aside0 (version_Order.j0 kq t258 t263 x19_4 t255 t256 t257 t260 t261 t262 = some r) ∧ Aside0 (kq ≤ k) ∧ Aside0 (wc.heap[gb259]? = some (.cells #[.int .i64 t255, .string t256, .string t257] 27 (0, 0))) ∧ Aside0 (wc.heap[gb264]? = some (.cells #[.int .i64 t260, .string t261, .string t262] 27 (0, 0))) ∧ Aside0 (Below w.heap.size w wc))
  case first =>
    have H := HC5.out
    clear HC5
    by_cases c13 : t258 = 0
    · rw [if_pos c13] at H
      have c13b0 : (t258 == 0) = true := beq_iff_eq.mpr c13
      have c13b1 : (t258 != 0) = false := bne_eq_false_iff_eq.mpr c13
      clear c13
      (first | rw [c13b0] | (simp only [i64_w, i32_w]; rw [c13b0]) | skip)
      have H' := Aside0.mk H
      clear H
      go_wp2
      go_meet
      case rel => exact ⟨_, (false), (by first | rfl | (simp; done) | (simp [*]; done) | (simp [isEmpty_bne]; done)), H', ⟨by first | omega | exact Nat.le_refl _⟩, ⟨by (with_reducible repeat (first | refine blk_drewN ?_ _ | refine blk_drew ?_ | refine blk_alloc ?_ _)); refine blk_far ?_ NB259_264.out _; (with_reducible repeat (first | refine blk_drewN ?_ _ | refine blk_drew ?_ | refine blk_alloc ?_ _)); refine blk_far ?_ NB259_264.out _; (with_reducible repeat (first | refine blk_drewN ?_ _ | refine blk_drew ?_ | refine blk_alloc ?_ _)); refine blk_far ?_ NB259_264.out _; (with_reducible repeat (first | refine blk_drewN ?_ _ | refine blk_drew ?_ | refine blk_alloc ?_ _)); exact BK259.out⟩, ⟨by (with_reducible repeat (first | refine blk_drewN ?_ _ | refine blk_drew ?_ | refine blk_alloc ?_ _)); refine blk_put (cs := #[.int .i64 t260, .string t261, .string (⟨#[]⟩ : ByteArray)]) ?_ 2 _ rfl; (with_reducible repeat (first | refine blk_drewN ?_ _ | refine blk_drew ?_ | refine blk_alloc ?_ _)); refine blk_put (cs := #[.int .i64 t260, .string (⟨#[]⟩ : ByteArray), .string (⟨#[]⟩ : ByteArray)]) ?_ 1 _ rfl; (with_reducible repeat (first | refine blk_drewN ?_ _ | refine blk_drew ?_ | refine blk_alloc ?_ _)); refine blk_put (cs := #[.int .i64 0, .string (⟨#[]⟩ : ByteArray), .string (⟨#[]⟩ : ByteArray)]) ?_ 0 _ rfl; (with_reducible repeat (first | refine blk_drewN ?_ _ | refine blk_drew ?_ | refine blk_alloc ?_ _)); exact BK264.out⟩, ⟨by repeat (first | (with_reducible first | exact HB.out | apply below_alloc | apply pw_below_drewN | apply below_drew1 | refine below_set ?_ GE259.out | refine below_set ?_ GE264.out) | exact HB.out)⟩⟩
    · rw [if_neg c13] at H
      have c13b0 : (t258 == 0) = false := beq_eq_false_iff_ne.mpr c13
      have c13b1 : (t258 != 0) = true := bne_iff_ne.mpr c13
      (first | rw [c13b0] | (simp only [i64_w, i32_w]; rw [c13b0]) | skip)
      have H' := Aside0.mk H
      clear H
      go_wp2
      go_meet
      case rel => exact ⟨_, ((t263 != 0)), (by first | rfl | (simp; done) | (simp [*]; done) | (simp [isEmpty_bne]; done)), H', ⟨by first | omega | exact Nat.le_refl _⟩, ⟨by (with_reducible repeat (first | refine blk_drewN ?_ _ | refine blk_drew ?_ | refine blk_alloc ?_ _)); refine blk_far ?_ NB259_264.out _; (with_reducible repeat (first | refine blk_drewN ?_ _ | refine blk_drew ?_ | refine blk_alloc ?_ _)); refine blk_far ?_ NB259_264.out _; (with_reducible repeat (first | refine blk_drewN ?_ _ | refine blk_drew ?_ | refine blk_alloc ?_ _)); refine blk_far ?_ NB259_264.out _; (with_reducible repeat (first | refine blk_drewN ?_ _ | refine blk_drew ?_ | refine blk_alloc ?_ _)); exact BK259.out⟩, ⟨by (with_reducible repeat (first | refine blk_drewN ?_ _ | refine blk_drew ?_ | refine blk_alloc ?_ _)); refine blk_put (cs := #[.int .i64 t260, .string t261, .string (⟨#[]⟩ : ByteArray)]) ?_ 2 _ rfl; (with_reducible repeat (first | refine blk_drewN ?_ _ | refine blk_drew ?_ | refine blk_alloc ?_ _)); refine blk_put (cs := #[.int .i64 t260, .string (⟨#[]⟩ : ByteArray), .string (⟨#[]⟩ : ByteArray)]) ?_ 1 _ rfl; (with_reducible repeat (first | refine blk_drewN ?_ _ | refine blk_drew ?_ | refine blk_alloc ?_ _)); refine blk_put (cs := #[.int .i64 0, .string (⟨#[]⟩ : ByteArray), .string (⟨#[]⟩ : ByteArray)]) ?_ 0 _ rfl; (with_reducible repeat (first | refine blk_drewN ?_ _ | refine blk_drew ?_ | refine blk_alloc ?_ _)); exact BK264.out⟩, ⟨by repeat (first | (with_reducible first | exact HB.out | apply below_alloc | apply pw_below_drewN | apply below_drew1 | refine below_set ?_ GE259.out | refine below_set ?_ GE264.out) | exact HB.out)⟩⟩
  case rest =>
    clear HC5
    try clear c1
    try clear p2
    try clear c11
    try clear c13
    try clear c13b0
    try clear c13b1
    try clear hcz12_0
    try clear hcz12_1
    try clear hcz12_2
    try clear hcz8_0
    try clear hcz8_1
    try clear hcz8_2
    try clear hfz12_0
    try clear hfz12_1
    try clear hfz12_2
    try clear hfz8_0
    try clear hfz8_1
    try clear hfz8_2
    obtain ⟨kq, x19_4, rfl, HA, HJ4, BK259, BK264, HB⟩ := hcut
    cases kq with
    | zero => exact absurd HA.out (by simp [version_Order.j0])
    | succ kj4 =>
      have H := HA.out
      clear HA
      simp only [version_Order.j0] at H
      by_cases c14 : x19_4 = true
      · subst c14
        have H1 : (some 0) = some r := by rw [if_pos rfl] at H; exact H
        clear H
        have H := H1
        clear H1
        obtain rfl := Option.some.inj H
        go_wp2
        go_ret
        exact ⟨by first | rfl | (simp [errW_none, errW_some] <;> rfl) | (simp [*, errW_none, errW_some] <;> rfl), by repeat (first | (with_reducible first | exact HB.out | apply below_alloc | apply pw_below_drewN | apply below_drew1 | refine below_set ?_ GE259.out | refine below_set ?_ GE264.out) | exact HB.out)⟩
      · replace c14 := Bool.eq_false_iff.mpr c14
        subst c14
        have H1 : (if t258 = 0 then (if t263 = 0 then ((version_Compare.f kj4 t255 t256 t257 t260 t261 t262).bind fun t265 => (some t265)) else (some 1)) else (some (-1))) = some r := by rw [if_neg (show ¬ (false = true) by decide)] at H; exact H
        clear H
        have H := H1
        clear H1
        by_cases c15 : t258 = 0
        · rw [if_pos c15] at H
          have c15b0 : (t258 == 0) = true := beq_iff_eq.mpr c15
          have c15b1 : (t258 != 0) = false := bne_eq_false_iff_eq.mpr c15
          clear c15
          by_cases c16 : t263 = 0
          · rw [if_pos c16] at H
            have c16b0 : (t263 == 0) = true := beq_iff_eq.mpr c16
            have c16b1 : (t263 != 0) = false := bne_eq_false_iff_eq.mpr c16
            clear c16
            replace H := Option.bind_eq_some_iff.mp H
            obtain ⟨t265, A170, H⟩ := H
            replace H : (some t265) = some r := H
            have A17 := Aside0.mk A170
            clear A170
            obtain rfl := Option.some.inj H
            have hnb18 := NB259_264.out
            have hnc18 := NB264_259.out
            have hcz19_0 : wc.cell? ⟨gb259, 0, none⟩ = some (.int .i64 t255) := (blk_cell BK259.out 0).trans rfl
            have hcz19_1 : wc.cell? ⟨gb259, 1, none⟩ = some (.string t256) := (blk_cell BK259.out 1).trans rfl
            have hcz19_2 : wc.cell? ⟨gb259, 2, none⟩ = some (.string t257) := (blk_cell BK259.out 2).trans rfl
            have hfz19_0 := blk_frozen BK259.out 0
            have hfz19_1 := blk_frozen BK259.out 1
            have hfz19_2 := blk_frozen BK259.out 2
            have hcz20_0 : wc.cell? ⟨gb264, 0, none⟩ = some (.int .i64 t260) := (blk_cell BK264.out 0).trans rfl
            have hcz20_1 : wc.cell? ⟨gb264, 1, none⟩ = some (.string t261) := (blk_cell BK264.out 1).trans rfl
            have hcz20_2 : wc.cell? ⟨gb264, 2, none⟩ = some (.string t262) := (blk_cell BK264.out 2).trans rfl
            have hfz20_0 := blk_frozen BK264.out 0
            have hfz20_1 := blk_frozen BK264.out 1
            have hfz20_2 := blk_frozen BK264.out 2
            go_wp2_with (first | ((with_reducible refine gate_callee (f := 38) rfl ?_); refine goesL_ (some 34) rfl rfl Tryd.func38 (by kernel_rfl) rfl #[.agg #[.int .i64 t255, .string t256, .string t257], .agg #[.int .i64 t260, .string t261, .string t262]] rfl (by (try simp only [List.map_toArray, List.map_cons, List.map_nil]); first | done | rfl | (simp only [List.length_drop, List.length_take]; rfl)) ?_; (with_reducible refine (version_Compare.calls kj4 t255 t256 t257 t260 t261 t262 t265 _ (by first | exact hG | exact GL.below hG (by repeat (first | (with_reducible first | exact HB.out | apply below_alloc | apply pw_below_drewN | apply below_drew1 | refine below_set ?_ GE259.out | refine below_set ?_ GE264.out) | exact HB.out)))  A17.out).mono ?_); rintro e w21 ⟨rfl, hb⟩; refine ⟨_, rfl, ?_⟩; have n0_ := Aside0.mk (blk_below (g := gb259) (o := .cells #[.int .i64 t255, .string t256, .string t257] 27 (0, 0)) (by (with_reducible repeat (first | refine blk_drewN ?_ _ | refine blk_drew ?_ | refine blk_alloc ?_ _)); exact BK259.out) hb); have n1_ := Aside0.mk (blk_below (g := gb264) (o := .cells #[.int .i64 t260, .string t261, .string t262] 27 (0, 0)) (by (with_reducible repeat (first | refine blk_drewN ?_ _ | refine blk_drew ?_ | refine blk_alloc ?_ _)); exact BK264.out) hb); have n2_ := Aside0.mk (below_step (by repeat (first | (with_reducible first | exact HB.out | apply below_alloc | apply pw_below_drewN | apply below_drew1 | refine below_set ?_ GE259.out | refine below_set ?_ GE264.out) | exact HB.out)) hb); clear BK259; clear BK264; clear HB; have BK259 := n0_; have BK264 := n1_; have HB := n2_; clear n0_ n1_ n2_; (try clear hb); (try clear hb2); (try clear hk); (try clear hi)))
            go_ret
            exact ⟨by first | rfl | (simp [errW_none, errW_some] <;> rfl) | (simp [*, errW_none, errW_some] <;> rfl), by repeat (first | (with_reducible first | exact HB.out | apply below_alloc | apply pw_below_drewN | apply below_drew1 | refine below_set ?_ GE259.out | refine below_set ?_ GE264.out) | exact HB.out)⟩
          · rw [if_neg c16] at H
            have c16b0 : (t263 == 0) = false := beq_eq_false_iff_ne.mpr c16
            have c16b1 : (t263 != 0) = true := bne_iff_ne.mpr c16
            obtain rfl := Option.some.inj H
            go_wp2
            go_ret
            exact ⟨by first | rfl | (simp [errW_none, errW_some] <;> rfl) | (simp [*, errW_none, errW_some] <;> rfl), by repeat (first | (with_reducible first | exact HB.out | apply below_alloc | apply pw_below_drewN | apply below_drew1 | refine below_set ?_ GE259.out | refine below_set ?_ GE264.out) | exact HB.out)⟩
        · rw [if_neg c15] at H
          have c15b0 : (t258 == 0) = false := beq_eq_false_iff_ne.mpr c15
          have c15b1 : (t258 != 0) = true := bne_iff_ne.mpr c15
          obtain rfl := Option.some.inj H
          go_wp2
          go_ret
          exact ⟨by first | rfl | (simp [errW_none, errW_some] <;> rfl) | (simp [*, errW_none, errW_some] <;> rfl), by repeat (first | (with_reducible first | exact HB.out | apply below_alloc | apply pw_below_drewN | apply below_drew1 | refine below_set ?_ GE259.out | refine below_set ?_ GE264.out) | exact HB.out)⟩

/-! ### keelsonlaw2_VersionOrders: function 6 -/
mutual
def keelsonlaw2_VersionOrders.j0 : Nat → ByteArray → ByteArray → ByteArray → Bool → Bool → Option (Bool)
  | 0, _, _, _, _, _ => none
  | k + 1, x0, x1, x2, x7, x29 => if x29 = true then (some x7) else ((version_CompareText.f k x0 x1).bind fun t267 => ((version_CompareText.f k x1 x2).bind fun t268 => ((version_CompareText.f k x0 x2).bind fun t269 => ((version_CompareText.f k x0 x0).bind fun t270 => (if t270 = 0 then ((version_CompareText.f k x1 x0).bind fun t271 => (if t267 = (wrap64 (-t271)) then (if t267 = 0 then (if t268 = t269 then (if t268 = 0 then (keelsonlaw2_VersionOrders.j1 k x0 x1 t267 t268 t269 (t267 != t269)) else (keelsonlaw2_VersionOrders.j1 k x0 x1 t267 t268 t269 false)) else (keelsonlaw2_VersionOrders.j1 k x0 x1 t267 t268 t269 true)) else (if t268 = 0 then (keelsonlaw2_VersionOrders.j1 k x0 x1 t267 t268 t269 (t267 != t269)) else (keelsonlaw2_VersionOrders.j1 k x0 x1 t267 t268 t269 false))) else (keelsonlaw2_VersionOrders.j1 k x0 x1 t267 t268 t269 true))) else (keelsonlaw2_VersionOrders.j1 k x0 x1 t267 t268 t269 true))))))
def keelsonlaw2_VersionOrders.j1 : Nat → ByteArray → ByteArray → Int → Int → Int → Bool → Option (Bool)
  | 0, _, _, _, _, _, _ => none
  | k + 1, x0, x1, x8, x9, x10, x69 => if x69 = true then (some false) else (if x8 < 0 then (if x9 < 0 then (if x10 ≥ 0 then (keelsonlaw2_VersionOrders.j2 k x0 x1 true) else (if x8 > 0 then (if x9 > 0 then (keelsonlaw2_VersionOrders.j2 k x0 x1 (decide (x10 ≤ 0))) else (keelsonlaw2_VersionOrders.j2 k x0 x1 false)) else (keelsonlaw2_VersionOrders.j2 k x0 x1 false))) else (if x8 > 0 then (if x9 > 0 then (keelsonlaw2_VersionOrders.j2 k x0 x1 (decide (x10 ≤ 0))) else (keelsonlaw2_VersionOrders.j2 k x0 x1 false)) else (keelsonlaw2_VersionOrders.j2 k x0 x1 false))) else (if x8 > 0 then (if x9 > 0 then (keelsonlaw2_VersionOrders.j2 k x0 x1 (decide (x10 ≤ 0))) else (keelsonlaw2_VersionOrders.j2 k x0 x1 false)) else (keelsonlaw2_VersionOrders.j2 k x0 x1 false)))
def keelsonlaw2_VersionOrders.j2 : Nat → ByteArray → ByteArray → Bool → Option (Bool)
  | 0, _, _, _ => none
  | k + 1, x0, x1, x91 => if x91 = true then (some false) else ((version_Order.f k x0 x1).bind fun t272 => ((version_Order.f k x1 x0).bind fun t273 => (if t272 = (wrap64 (-t273)) then ((version_Order.f k x0 x0).bind fun t274 => (some (t274 == 0))) else (some false))))
end
def keelsonlaw2_VersionOrders.f (k : Nat) (a0 : ByteArray) (a1 : ByteArray) (a2 : ByteArray) : Option (Bool) := (keelsonlaw2_shown.f k).bind fun t266 => (if t266 = true then (if (a0.size : Int) > 200 then (keelsonlaw2_VersionOrders.j0 k a0 a1 a2 t266 true) else (if (a1.size : Int) > 200 then (keelsonlaw2_VersionOrders.j0 k a0 a1 a2 t266 true) else (keelsonlaw2_VersionOrders.j0 k a0 a1 a2 t266 (decide ((a2.size : Int) > 200))))) else (keelsonlaw2_VersionOrders.j0 k a0 a1 a2 t266 true))
theorem keelsonlaw2_VersionOrders.mono_l : ∀ k, (∀ y0 y1 y2 y3 y4, LeO (keelsonlaw2_VersionOrders.j0 k y0 y1 y2 y3 y4) (keelsonlaw2_VersionOrders.j0 (k + 1) y0 y1 y2 y3 y4)) ∧ (∀ y0 y1 y2 y3 y4 y5, LeO (keelsonlaw2_VersionOrders.j1 k y0 y1 y2 y3 y4 y5) (keelsonlaw2_VersionOrders.j1 (k + 1) y0 y1 y2 y3 y4 y5)) ∧ (∀ y0 y1 y2, LeO (keelsonlaw2_VersionOrders.j2 k y0 y1 y2) (keelsonlaw2_VersionOrders.j2 (k + 1) y0 y1 y2))
  | 0 => ⟨fun _ _ _ _ _ r h => by simp [keelsonlaw2_VersionOrders.j0] at h, fun _ _ _ _ _ _ r h => by simp [keelsonlaw2_VersionOrders.j1] at h, fun _ _ _ r h => by simp [keelsonlaw2_VersionOrders.j2] at h⟩
  | k + 1 => by
    obtain ⟨ih0, ih1, ih2⟩ := keelsonlaw2_VersionOrders.mono_l k
    refine ⟨?_, ?_, ?_⟩
    · intro y0 y1 y2 y3 y4
      unfold keelsonlaw2_VersionOrders.j0
      repeat' first
      | (with_reducible exact ih0 _ _ _ _ _)
      | (with_reducible exact ih1 _ _ _ _ _ _)
      | (with_reducible exact ih2 _ _ _)
      | (with_reducible exact keelsonlaw2_shown.mono _)
      | (with_reducible exact version_CompareText.mono _ _ _)
      | (with_reducible exact version_Order.mono _ _ _)
      | (with_reducible exact LeO.refl _)
      | (with_reducible exact LeO.none _)
      | (with_reducible refine LeO.ite ?_ ?_)
      | (with_reducible refine LeO.bind ?_ (fun _ => ?_))
      | exact ih0 _ _ _ _ _
      | exact ih1 _ _ _ _ _ _
      | exact ih2 _ _ _
      | exact keelsonlaw2_shown.mono _
      | exact version_CompareText.mono _ _ _
      | exact version_Order.mono _ _ _
      | exact LeO.none _
      | refine LeO.ite ?_ ?_
      | refine LeO.bind ?_ (fun _ => ?_)
    · intro y0 y1 y2 y3 y4 y5
      unfold keelsonlaw2_VersionOrders.j1
      repeat' first
      | (with_reducible exact ih0 _ _ _ _ _)
      | (with_reducible exact ih1 _ _ _ _ _ _)
      | (with_reducible exact ih2 _ _ _)
      | (with_reducible exact keelsonlaw2_shown.mono _)
      | (with_reducible exact version_CompareText.mono _ _ _)
      | (with_reducible exact version_Order.mono _ _ _)
      | (with_reducible exact LeO.refl _)
      | (with_reducible exact LeO.none _)
      | (with_reducible refine LeO.ite ?_ ?_)
      | (with_reducible refine LeO.bind ?_ (fun _ => ?_))
      | exact ih0 _ _ _ _ _
      | exact ih1 _ _ _ _ _ _
      | exact ih2 _ _ _
      | exact keelsonlaw2_shown.mono _
      | exact version_CompareText.mono _ _ _
      | exact version_Order.mono _ _ _
      | exact LeO.none _
      | refine LeO.ite ?_ ?_
      | refine LeO.bind ?_ (fun _ => ?_)
    · intro y0 y1 y2
      unfold keelsonlaw2_VersionOrders.j2
      repeat' first
      | (with_reducible exact ih0 _ _ _ _ _)
      | (with_reducible exact ih1 _ _ _ _ _ _)
      | (with_reducible exact ih2 _ _ _)
      | (with_reducible exact keelsonlaw2_shown.mono _)
      | (with_reducible exact version_CompareText.mono _ _ _)
      | (with_reducible exact version_Order.mono _ _ _)
      | (with_reducible exact LeO.refl _)
      | (with_reducible exact LeO.none _)
      | (with_reducible refine LeO.ite ?_ ?_)
      | (with_reducible refine LeO.bind ?_ (fun _ => ?_))
      | exact ih0 _ _ _ _ _
      | exact ih1 _ _ _ _ _ _
      | exact ih2 _ _ _
      | exact keelsonlaw2_shown.mono _
      | exact version_CompareText.mono _ _ _
      | exact version_Order.mono _ _ _
      | exact LeO.none _
      | refine LeO.ite ?_ ?_
      | refine LeO.bind ?_ (fun _ => ?_)
theorem keelsonlaw2_VersionOrders.mono : ∀ a0 a1 a2 k, LeO (keelsonlaw2_VersionOrders.f k a0 a1 a2) (keelsonlaw2_VersionOrders.f (k + 1) a0 a1 a2) := by
  intro a0 a1 a2 k
  obtain ⟨ih0, ih1, ih2⟩ := keelsonlaw2_VersionOrders.mono_l k
  unfold keelsonlaw2_VersionOrders.f
  repeat' first
      | (with_reducible exact ih0 _ _ _ _ _)
      | (with_reducible exact ih1 _ _ _ _ _ _)
      | (with_reducible exact ih2 _ _ _)
      | (with_reducible exact keelsonlaw2_shown.mono _)
      | (with_reducible exact version_CompareText.mono _ _ _)
      | (with_reducible exact version_Order.mono _ _ _)
      | (with_reducible exact LeO.refl _)
      | (with_reducible exact LeO.none _)
      | (with_reducible refine LeO.ite ?_ ?_)
      | (with_reducible refine LeO.bind ?_ (fun _ => ?_))
      | exact ih0 _ _ _ _ _
      | exact ih1 _ _ _ _ _ _
      | exact ih2 _ _ _
      | exact keelsonlaw2_shown.mono _
      | exact version_CompareText.mono _ _ _
      | exact version_Order.mono _ _ _
      | exact LeO.none _
      | refine LeO.ite ?_ ?_
      | refine LeO.bind ?_ (fun _ => ?_)
set_option maxHeartbeats 8000000 in
set_option maxRecDepth 100000 in
theorem keelsonlaw2_VersionOrders.calls (k : Nat) (a0 : ByteArray) (a1 : ByteArray) (a2 : ByteArray) (r : Bool) (w : World) (hG : GL w) (h : keelsonlaw2_VersionOrders.f k a0 a1 a2 = some r) :
    Calls Tryd.prog 6 #[.string a0, .string a1, .string a2] w fun e w' => e = .returned (.bool r) ∧ Below w.heap.size w w' := by
  have HB := Aside0.mk (Below.refl w.heap.size w)
  have H : ((keelsonlaw2_shown.f k).bind fun t266 => (if t266 = true then (if (a0.size : Int) > 200 then (keelsonlaw2_VersionOrders.j0 k a0 a1 a2 t266 true) else (if (a1.size : Int) > 200 then (keelsonlaw2_VersionOrders.j0 k a0 a1 a2 t266 true) else (keelsonlaw2_VersionOrders.j0 k a0 a1 a2 t266 (decide ((a2.size : Int) > 200))))) else (keelsonlaw2_VersionOrders.j0 k a0 a1 a2 t266 true))) = some r := h
  clear h
  replace H := Option.bind_eq_some_iff.mp H
  obtain ⟨t266, A40, H⟩ := H
  replace H : (if t266 = true then (if (a0.size : Int) > 200 then (keelsonlaw2_VersionOrders.j0 k a0 a1 a2 t266 true) else (if (a1.size : Int) > 200 then (keelsonlaw2_VersionOrders.j0 k a0 a1 a2 t266 true) else (keelsonlaw2_VersionOrders.j0 k a0 a1 a2 t266 (decide ((a2.size : Int) > 200))))) else (keelsonlaw2_VersionOrders.j0 k a0 a1 a2 t266 true)) = some r := H
  have A4 := Aside0.mk A40
  clear A40
  have HC5 := Aside0.mk H
  clear H
  go_enter Tryd.func6, Tryd.ntmps6
  go_upto_region 2 with (first | ((with_reducible refine gate_callee (f := 8) rfl ?_); refine goesL_ (some 12) rfl rfl Tryd.func8 (by kernel_rfl) rfl #[] rfl (by (try simp only [List.map_toArray, List.map_cons, List.map_nil]); first | done | rfl | (simp only [List.length_drop, List.length_take]; rfl)) ?_; (with_reducible refine (keelsonlaw2_shown.calls k  t266 _ (by first | exact hG | exact GL.below hG (by repeat (first | (with_reducible first | exact HB.out | apply below_alloc | apply pw_below_drewN | apply below_drew1) | exact HB.out)))  A4.out).mono ?_); rintro e w6 ⟨rfl, hb⟩; refine ⟨_, rfl, ?_⟩; have n0_ := Aside0.mk (below_step (by repeat (first | (with_reducible first | exact HB.out | apply below_alloc | apply pw_below_drewN | apply below_drew1) | exact HB.out)) hb); clear HB; have HB := n0_; clear n0_; (try clear hb); (try clear hb2); (try clear hk); (try clear hi)))
  (try simp only [Act.put, List.setIfInBounds_toArray, List.set_cons_zero, List.set_cons_succ])
  go_cut [29] (fun v29 wc => ∃ (kq : Nat) (x29_4 : Bool), v29 = .bool x29_4 ∧ Aside0 (keelsonlaw2_VersionOrders.j0 kq a0 a1 a2 t266 x29_4 = some r) ∧ Aside0 (kq ≤ k) ∧ Aside0 (Below w.heap.size w wc))
  case first =>
    have H := HC5.out
    clear HC5
    by_cases c7 : t266 = true
    · subst c7
      have H1 : (if (a0.size : Int) > 200 then (keelsonlaw2_VersionOrders.j0 k a0 a1 a2 true true) else (if (a1.size : Int) > 200 then (keelsonlaw2_VersionOrders.j0 k a0 a1 a2 true true) else (keelsonlaw2_VersionOrders.j0 k a0 a1 a2 true (decide ((a2.size : Int) > 200))))) = some r := by rw [if_pos rfl] at H; exact H
      clear H
      have H := H1
      clear H1
      by_cases c8 : (a0.size : Int) > 200
      · rw [if_pos c8] at H
        have c8b0 : decide (200 < (a0.size : Int)) = true := decide_eq_true c8
        have c8b1 : decide (200 < a0.size) = true := decide_eq_true (by omega)
        clear c8
        (first | rw [c8b0] | (simp only [i64_w, i32_w]; rw [c8b0]) | skip)
        have H' := Aside0.mk H
        clear H
        go_wp2
        go_meet
        case rel => exact ⟨_, (true), (by first | rfl | (simp; done) | (simp [*]; done) | (simp [isEmpty_bne]; done)), H', ⟨by first | omega | exact Nat.le_refl _⟩, ⟨by repeat (first | (with_reducible first | exact HB.out | apply below_alloc | apply pw_below_drewN | apply below_drew1) | exact HB.out)⟩⟩
      · rw [if_neg c8] at H
        have c8b0 : decide (200 < (a0.size : Int)) = false := decide_eq_false c8
        have c8b1 : decide (200 < a0.size) = false := decide_eq_false (by omega)
        clear c8
        (first | rw [c8b0] | (simp only [i64_w, i32_w]; rw [c8b0]) | skip)
        by_cases c9 : (a1.size : Int) > 200
        · rw [if_pos c9] at H
          have c9b0 : decide (200 < (a1.size : Int)) = true := decide_eq_true c9
          have c9b1 : decide (200 < a1.size) = true := decide_eq_true (by omega)
          clear c9
          have H' := Aside0.mk H
          clear H
          go_wp2
          go_meet
          case rel => exact ⟨_, (true), (by first | rfl | (simp; done) | (simp [*]; done) | (simp [isEmpty_bne]; done)), H', ⟨by first | omega | exact Nat.le_refl _⟩, ⟨by repeat (first | (with_reducible first | exact HB.out | apply below_alloc | apply pw_below_drewN | apply below_drew1) | exact HB.out)⟩⟩
        · rw [if_neg c9] at H
          have c9b0 : decide (200 < (a1.size : Int)) = false := decide_eq_false c9
          have c9b1 : decide (200 < a1.size) = false := decide_eq_false (by omega)
          clear c9
          have H' := Aside0.mk H
          clear H
          go_wp2
          go_meet
          case rel => exact ⟨_, (decide ((a2.size : Int) > 200)), (by first | rfl | (simp; done) | (simp [*]; done) | (simp [isEmpty_bne]; done)), H', ⟨by first | omega | exact Nat.le_refl _⟩, ⟨by repeat (first | (with_reducible first | exact HB.out | apply below_alloc | apply pw_below_drewN | apply below_drew1) | exact HB.out)⟩⟩
    · replace c7 := Bool.eq_false_iff.mpr c7
      subst c7
      have H1 : (keelsonlaw2_VersionOrders.j0 k a0 a1 a2 false true) = some r := by rw [if_neg (show ¬ (false = true) by decide)] at H; exact H
      clear H
      have H := H1
      clear H1
      have H' := Aside0.mk H
      clear H
      go_wp2
      go_meet
      case rel => exact ⟨_, (true), (by first | rfl | (simp; done) | (simp [*]; done) | (simp [isEmpty_bne]; done)), H', ⟨by first | omega | exact Nat.le_refl _⟩, ⟨by repeat (first | (with_reducible first | exact HB.out | apply below_alloc | apply pw_below_drewN | apply below_drew1) | exact HB.out)⟩⟩
  case rest =>
    clear HC5
    try clear p2
    try clear c6
    try clear c7
    try clear c8
    try clear c8b0
    try clear c8b1
    try clear c9
    try clear c9b0
    try clear c9b1
    obtain ⟨kq, x29_4, rfl, HA, HJ4, HB⟩ := hcut
    cases kq with
    | zero => exact absurd HA.out (by simp [keelsonlaw2_VersionOrders.j0])
    | succ kj4 =>
      have H := HA.out
      clear HA
      simp only [keelsonlaw2_VersionOrders.j0] at H
      by_cases c10 : x29_4 = true
      · subst c10
        have H1 : (some t266) = some r := by rw [if_pos rfl] at H; exact H
        clear H
        have H := H1
        clear H1
        obtain rfl := Option.some.inj H
        go_wp2
        go_ret
        exact ⟨by first | rfl | (simp [errW_none, errW_some] <;> rfl) | (simp [*, errW_none, errW_some] <;> rfl), by repeat (first | (with_reducible first | exact HB.out | apply below_alloc | apply pw_below_drewN | apply below_drew1) | exact HB.out)⟩
      · replace c10 := Bool.eq_false_iff.mpr c10
        subst c10
        have H1 : ((version_CompareText.f kj4 a0 a1).bind fun t267 => ((version_CompareText.f kj4 a1 a2).bind fun t268 => ((version_CompareText.f kj4 a0 a2).bind fun t269 => ((version_CompareText.f kj4 a0 a0).bind fun t270 => (if t270 = 0 then ((version_CompareText.f kj4 a1 a0).bind fun t271 => (if t267 = (wrap64 (-t271)) then (if t267 = 0 then (if t268 = t269 then (if t268 = 0 then (keelsonlaw2_VersionOrders.j1 kj4 a0 a1 t267 t268 t269 (t267 != t269)) else (keelsonlaw2_VersionOrders.j1 kj4 a0 a1 t267 t268 t269 false)) else (keelsonlaw2_VersionOrders.j1 kj4 a0 a1 t267 t268 t269 true)) else (if t268 = 0 then (keelsonlaw2_VersionOrders.j1 kj4 a0 a1 t267 t268 t269 (t267 != t269)) else (keelsonlaw2_VersionOrders.j1 kj4 a0 a1 t267 t268 t269 false))) else (keelsonlaw2_VersionOrders.j1 kj4 a0 a1 t267 t268 t269 true))) else (keelsonlaw2_VersionOrders.j1 kj4 a0 a1 t267 t268 t269 true)))))) = some r := by rw [if_neg (show ¬ (false = true) by decide)] at H; exact H
        clear H
        have H := H1
        clear H1
        replace H := Option.bind_eq_some_iff.mp H
        obtain ⟨t267, A110, H⟩ := H
        replace H : ((version_CompareText.f kj4 a1 a2).bind fun t268 => ((version_CompareText.f kj4 a0 a2).bind fun t269 => ((version_CompareText.f kj4 a0 a0).bind fun t270 => (if t270 = 0 then ((version_CompareText.f kj4 a1 a0).bind fun t271 => (if t267 = (wrap64 (-t271)) then (if t267 = 0 then (if t268 = t269 then (if t268 = 0 then (keelsonlaw2_VersionOrders.j1 kj4 a0 a1 t267 t268 t269 (t267 != t269)) else (keelsonlaw2_VersionOrders.j1 kj4 a0 a1 t267 t268 t269 false)) else (keelsonlaw2_VersionOrders.j1 kj4 a0 a1 t267 t268 t269 true)) else (if t268 = 0 then (keelsonlaw2_VersionOrders.j1 kj4 a0 a1 t267 t268 t269 (t267 != t269)) else (keelsonlaw2_VersionOrders.j1 kj4 a0 a1 t267 t268 t269 false))) else (keelsonlaw2_VersionOrders.j1 kj4 a0 a1 t267 t268 t269 true))) else (keelsonlaw2_VersionOrders.j1 kj4 a0 a1 t267 t268 t269 true))))) = some r := H
        have A11 := Aside0.mk A110
        clear A110
        replace H := Option.bind_eq_some_iff.mp H
        obtain ⟨t268, A120, H⟩ := H
        replace H : ((version_CompareText.f kj4 a0 a2).bind fun t269 => ((version_CompareText.f kj4 a0 a0).bind fun t270 => (if t270 = 0 then ((version_CompareText.f kj4 a1 a0).bind fun t271 => (if t267 = (wrap64 (-t271)) then (if t267 = 0 then (if t268 = t269 then (if t268 = 0 then (keelsonlaw2_VersionOrders.j1 kj4 a0 a1 t267 t268 t269 (t267 != t269)) else (keelsonlaw2_VersionOrders.j1 kj4 a0 a1 t267 t268 t269 false)) else (keelsonlaw2_VersionOrders.j1 kj4 a0 a1 t267 t268 t269 true)) else (if t268 = 0 then (keelsonlaw2_VersionOrders.j1 kj4 a0 a1 t267 t268 t269 (t267 != t269)) else (keelsonlaw2_VersionOrders.j1 kj4 a0 a1 t267 t268 t269 false))) else (keelsonlaw2_VersionOrders.j1 kj4 a0 a1 t267 t268 t269 true))) else (keelsonlaw2_VersionOrders.j1 kj4 a0 a1 t267 t268 t269 true)))) = some r := H
        have A12 := Aside0.mk A120
        clear A120
        replace H := Option.bind_eq_some_iff.mp H
        obtain ⟨t269, A130, H⟩ := H
        replace H : ((version_CompareText.f kj4 a0 a0).bind fun t270 => (if t270 = 0 then ((version_CompareText.f kj4 a1 a0).bind fun t271 => (if t267 = (wrap64 (-t271)) then (if t267 = 0 then (if t268 = t269 then (if t268 = 0 then (keelsonlaw2_VersionOrders.j1 kj4 a0 a1 t267 t268 t269 (t267 != t269)) else (keelsonlaw2_VersionOrders.j1 kj4 a0 a1 t267 t268 t269 false)) else (keelsonlaw2_VersionOrders.j1 kj4 a0 a1 t267 t268 t269 true)) else (if t268 = 0 then (keelsonlaw2_VersionOrders.j1 kj4 a0 a1 t267 t268 t269 (t267 != t269)) else (keelsonlaw2_VersionOrders.j1 kj4 a0 a1 t267 t268 t269 false))) else (keelsonlaw2_VersionOrders.j1 kj4 a0 a1 t267 t268 t269 true))) else (keelsonlaw2_VersionOrders.j1 kj4 a0 a1 t267 t268 t269 true))) = some r := H
        have A13 := Aside0.mk A130
        clear A130
        have HC14 := Aside0.mk H
        clear H
        go_upto_region 7 with (first | ((with_reducible refine gate_callee (f := 10) rfl ?_); refine goesL_ (some 33) rfl rfl Tryd.func10 (by kernel_rfl) rfl #[.string a0, .string a1] rfl (by (try simp only [List.map_toArray, List.map_cons, List.map_nil]); first | done | rfl | (simp only [List.length_drop, List.length_take]; rfl)) ?_; (with_reducible refine (version_CompareText.calls kj4 a0 a1 t267 _ (by first | exact hG | exact GL.below hG (by repeat (first | (with_reducible first | exact HB.out | apply below_alloc | apply pw_below_drewN | apply below_drew1) | exact HB.out)))  A11.out).mono ?_); rintro e w15 ⟨rfl, hb⟩; refine ⟨_, rfl, ?_⟩; have n0_ := Aside0.mk (below_step (by repeat (first | (with_reducible first | exact HB.out | apply below_alloc | apply pw_below_drewN | apply below_drew1) | exact HB.out)) hb); clear HB; have HB := n0_; clear n0_; (try clear hb); (try clear hb2); (try clear hk); (try clear hi)) | ((with_reducible refine gate_callee (f := 10) rfl ?_); refine goesL_ (some 36) rfl rfl Tryd.func10 (by kernel_rfl) rfl #[.string a1, .string a2] rfl (by (try simp only [List.map_toArray, List.map_cons, List.map_nil]); first | done | rfl | (simp only [List.length_drop, List.length_take]; rfl)) ?_; (with_reducible refine (version_CompareText.calls kj4 a1 a2 t268 _ (by first | exact hG | exact GL.below hG (by repeat (first | (with_reducible first | exact HB.out | apply below_alloc | apply pw_below_drewN | apply below_drew1) | exact HB.out)))  A12.out).mono ?_); rintro e w16 ⟨rfl, hb⟩; refine ⟨_, rfl, ?_⟩; have n0_ := Aside0.mk (below_step (by repeat (first | (with_reducible first | exact HB.out | apply below_alloc | apply pw_below_drewN | apply below_drew1) | exact HB.out)) hb); clear HB; have HB := n0_; clear n0_; (try clear hb); (try clear hb2); (try clear hk); (try clear hi)) | ((with_reducible refine gate_callee (f := 10) rfl ?_); refine goesL_ (some 39) rfl rfl Tryd.func10 (by kernel_rfl) rfl #[.string a0, .string a2] rfl (by (try simp only [List.map_toArray, List.map_cons, List.map_nil]); first | done | rfl | (simp only [List.length_drop, List.length_take]; rfl)) ?_; (with_reducible refine (version_CompareText.calls kj4 a0 a2 t269 _ (by first | exact hG | exact GL.below hG (by repeat (first | (with_reducible first | exact HB.out | apply below_alloc | apply pw_below_drewN | apply below_drew1) | exact HB.out)))  A13.out).mono ?_); rintro e w17 ⟨rfl, hb⟩; refine ⟨_, rfl, ?_⟩; have n0_ := Aside0.mk (below_step (by repeat (first | (with_reducible first | exact HB.out | apply below_alloc | apply pw_below_drewN | apply below_drew1) | exact HB.out)) hb); clear HB; have HB := n0_; clear n0_; (try clear hb); (try clear hb2); (try clear hk); (try clear hi)))
        (try simp only [Act.put, List.setIfInBounds_toArray, List.set_cons_zero, List.set_cons_succ])
        go_cut [69] (fun v69 wc => ∃ (kq : Nat) (x69_13 : Bool), v69 = .bool x69_13 ∧ Aside0 (keelsonlaw2_VersionOrders.j1 kq a0 a1 t267 t268 t269 x69_13 = some r) ∧ Aside0 (kq ≤ kj4) ∧ Aside0 (Below w.heap.size w wc))
        case first =>
          have H := HC14.out
          clear HC14
          replace H := Option.bind_eq_some_iff.mp H
          obtain ⟨t270, A180, H⟩ := H
          replace H : (if t270 = 0 then ((version_CompareText.f kj4 a1 a0).bind fun t271 => (if t267 = (wrap64 (-t271)) then (if t267 = 0 then (if t268 = t269 then (if t268 = 0 then (keelsonlaw2_VersionOrders.j1 kj4 a0 a1 t267 t268 t269 (t267 != t269)) else (keelsonlaw2_VersionOrders.j1 kj4 a0 a1 t267 t268 t269 false)) else (keelsonlaw2_VersionOrders.j1 kj4 a0 a1 t267 t268 t269 true)) else (if t268 = 0 then (keelsonlaw2_VersionOrders.j1 kj4 a0 a1 t267 t268 t269 (t267 != t269)) else (keelsonlaw2_VersionOrders.j1 kj4 a0 a1 t267 t268 t269 false))) else (keelsonlaw2_VersionOrders.j1 kj4 a0 a1 t267 t268 t269 true))) else (keelsonlaw2_VersionOrders.j1 kj4 a0 a1 t267 t268 t269 true)) = some r := H
          have A18 := Aside0.mk A180
          clear A180
          by_cases c19 : t270 = 0
          · rw [if_pos c19] at H
            have c19b0 : (t270 == 0) = true := beq_iff_eq.mpr c19
            have c19b1 : (t270 != 0) = false := bne_eq_false_iff_eq.mpr c19
            clear c19
            (first | rw [c19b0] | (simp only [i64_w, i32_w]; rw [c19b0]) | skip)
            replace H := Option.bind_eq_some_iff.mp H
            obtain ⟨t271, A200, H⟩ := H
            replace H : (if t267 = (wrap64 (-t271)) then (if t267 = 0 then (if t268 = t269 then (if t268 = 0 then (keelsonlaw2_VersionOrders.j1 kj4 a0 a1 t267 t268 t269 (t267 != t269)) else (keelsonlaw2_VersionOrders.j1 kj4 a0 a1 t267 t268 t269 false)) else (keelsonlaw2_VersionOrders.j1 kj4 a0 a1 t267 t268 t269 true)) else (if t268 = 0 then (keelsonlaw2_VersionOrders.j1 kj4 a0 a1 t267 t268 t269 (t267 != t269)) else (keelsonlaw2_VersionOrders.j1 kj4 a0 a1 t267 t268 t269 false))) else (keelsonlaw2_VersionOrders.j1 kj4 a0 a1 t267 t268 t269 true)) = some r := H
            have A20 := Aside0.mk A200
            clear A200
            by_cases c21 : t267 = (wrap64 (-t271))
            · rw [if_pos c21] at H
              have c21b0 : (t267 == (wrap64 (-t271))) = true := beq_iff_eq.mpr c21
              have c21b1 : (t267 != (wrap64 (-t271))) = false := bne_eq_false_iff_eq.mpr c21
              clear c21
              by_cases c22 : t267 = 0
              · rw [if_pos c22] at H
                have c22b0 : (t267 == 0) = true := beq_iff_eq.mpr c22
                have c22b1 : (t267 != 0) = false := bne_eq_false_iff_eq.mpr c22
                clear c22
                by_cases c23 : t268 = t269
                · rw [if_pos c23] at H
                  have c23b0 : (t268 == t269) = true := beq_iff_eq.mpr c23
                  have c23b1 : (t268 != t269) = false := bne_eq_false_iff_eq.mpr c23
                  clear c23
                  by_cases c24 : t268 = 0
                  · rw [if_pos c24] at H
                    have c24b0 : (t268 == 0) = true := beq_iff_eq.mpr c24
                    have c24b1 : (t268 != 0) = false := bne_eq_false_iff_eq.mpr c24
                    clear c24
                    have H' := Aside0.mk H
                    clear H
                    go_wp2_with (first | ((with_reducible refine gate_callee (f := 10) rfl ?_); refine goesL_ (some 42) rfl rfl Tryd.func10 (by kernel_rfl) rfl #[.string a0, .string a0] rfl (by (try simp only [List.map_toArray, List.map_cons, List.map_nil]); first | done | rfl | (simp only [List.length_drop, List.length_take]; rfl)) ?_; (with_reducible refine (version_CompareText.calls kj4 a0 a0 t270 _ (by first | exact hG | exact GL.below hG (by repeat (first | (with_reducible first | exact HB.out | apply below_alloc | apply pw_below_drewN | apply below_drew1) | exact HB.out)))  A18.out).mono ?_); rintro e w25 ⟨rfl, hb⟩; refine ⟨_, rfl, ?_⟩; have n0_ := Aside0.mk (below_step (by repeat (first | (with_reducible first | exact HB.out | apply below_alloc | apply pw_below_drewN | apply below_drew1) | exact HB.out)) hb); clear HB; have HB := n0_; clear n0_; (try clear hb); (try clear hb2); (try clear hk); (try clear hi)) | (go_at_call 10; (with_reducible refine (version_CompareText.calls kj4 a1 a0 t271 _ (by first | exact hG | exact GL.below hG (by repeat (first | (with_reducible first | exact HB.out | apply below_alloc | apply pw_below_drewN | apply below_drew1) | exact HB.out)))  A20.out).mono ?_); rintro e w26 ⟨rfl, hb⟩; have n0_ := Aside0.mk (below_step (by repeat (first | (with_reducible first | exact HB.out | apply below_alloc | apply pw_below_drewN | apply below_drew1) | exact HB.out)) hb); clear HB; have HB := n0_; clear n0_; (try clear hb); (try clear hb2); (try clear hk); (try clear hi)))
                    go_meet
                    case rel => exact ⟨_, ((t267 != t269)), (by first | rfl | (simp; done) | (simp [*]; done) | (simp [isEmpty_bne]; done)), H', ⟨by have := HJ4.out; first | omega | exact Nat.le_refl _⟩, ⟨by repeat (first | (with_reducible first | exact HB.out | apply below_alloc | apply pw_below_drewN | apply below_drew1) | exact HB.out)⟩⟩
                  · rw [if_neg c24] at H
                    have c24b0 : (t268 == 0) = false := beq_eq_false_iff_ne.mpr c24
                    have c24b1 : (t268 != 0) = true := bne_iff_ne.mpr c24
                    have H' := Aside0.mk H
                    clear H
                    go_wp2_with (first | ((with_reducible refine gate_callee (f := 10) rfl ?_); refine goesL_ (some 42) rfl rfl Tryd.func10 (by kernel_rfl) rfl #[.string a0, .string a0] rfl (by (try simp only [List.map_toArray, List.map_cons, List.map_nil]); first | done | rfl | (simp only [List.length_drop, List.length_take]; rfl)) ?_; (with_reducible refine (version_CompareText.calls kj4 a0 a0 t270 _ (by first | exact hG | exact GL.below hG (by repeat (first | (with_reducible first | exact HB.out | apply below_alloc | apply pw_below_drewN | apply below_drew1) | exact HB.out)))  A18.out).mono ?_); rintro e w27 ⟨rfl, hb⟩; refine ⟨_, rfl, ?_⟩; have n0_ := Aside0.mk (below_step (by repeat (first | (with_reducible first | exact HB.out | apply below_alloc | apply pw_below_drewN | apply below_drew1) | exact HB.out)) hb); clear HB; have HB := n0_; clear n0_; (try clear hb); (try clear hb2); (try clear hk); (try clear hi)) | (go_at_call 10; (with_reducible refine (version_CompareText.calls kj4 a1 a0 t271 _ (by first | exact hG | exact GL.below hG (by repeat (first | (with_reducible first | exact HB.out | apply below_alloc | apply pw_below_drewN | apply below_drew1) | exact HB.out)))  A20.out).mono ?_); rintro e w28 ⟨rfl, hb⟩; have n0_ := Aside0.mk (below_step (by repeat (first | (with_reducible first | exact HB.out | apply below_alloc | apply pw_below_drewN | apply below_drew1) | exact HB.out)) hb); clear HB; have HB := n0_; clear n0_; (try clear hb); (try clear hb2); (try clear hk); (try clear hi)))
                    go_meet
                    case rel => exact ⟨_, (false), (by first | rfl | (simp; done) | (simp [*]; done) | (simp [isEmpty_bne]; done)), H', ⟨by have := HJ4.out; first | omega | exact Nat.le_refl _⟩, ⟨by repeat (first | (with_reducible first | exact HB.out | apply below_alloc | apply pw_below_drewN | apply below_drew1) | exact HB.out)⟩⟩
                · rw [if_neg c23] at H
                  have c23b0 : (t268 == t269) = false := beq_eq_false_iff_ne.mpr c23
                  have c23b1 : (t268 != t269) = true := bne_iff_ne.mpr c23
                  have H' := Aside0.mk H
                  clear H
                  go_wp2_with (first | ((with_reducible refine gate_callee (f := 10) rfl ?_); refine goesL_ (some 42) rfl rfl Tryd.func10 (by kernel_rfl) rfl #[.string a0, .string a0] rfl (by (try simp only [List.map_toArray, List.map_cons, List.map_nil]); first | done | rfl | (simp only [List.length_drop, List.length_take]; rfl)) ?_; (with_reducible refine (version_CompareText.calls kj4 a0 a0 t270 _ (by first | exact hG | exact GL.below hG (by repeat (first | (with_reducible first | exact HB.out | apply below_alloc | apply pw_below_drewN | apply below_drew1) | exact HB.out)))  A18.out).mono ?_); rintro e w29 ⟨rfl, hb⟩; refine ⟨_, rfl, ?_⟩; have n0_ := Aside0.mk (below_step (by repeat (first | (with_reducible first | exact HB.out | apply below_alloc | apply pw_below_drewN | apply below_drew1) | exact HB.out)) hb); clear HB; have HB := n0_; clear n0_; (try clear hb); (try clear hb2); (try clear hk); (try clear hi)) | (go_at_call 10; (with_reducible refine (version_CompareText.calls kj4 a1 a0 t271 _ (by first | exact hG | exact GL.below hG (by repeat (first | (with_reducible first | exact HB.out | apply below_alloc | apply pw_below_drewN | apply below_drew1) | exact HB.out)))  A20.out).mono ?_); rintro e w30 ⟨rfl, hb⟩; have n0_ := Aside0.mk (below_step (by repeat (first | (with_reducible first | exact HB.out | apply below_alloc | apply pw_below_drewN | apply below_drew1) | exact HB.out)) hb); clear HB; have HB := n0_; clear n0_; (try clear hb); (try clear hb2); (try clear hk); (try clear hi)))
                  go_meet
                  case rel => exact ⟨_, (true), (by first | rfl | (simp; done) | (simp [*]; done) | (simp [isEmpty_bne]; done)), H', ⟨by have := HJ4.out; first | omega | exact Nat.le_refl _⟩, ⟨by repeat (first | (with_reducible first | exact HB.out | apply below_alloc | apply pw_below_drewN | apply below_drew1) | exact HB.out)⟩⟩
              · rw [if_neg c22] at H
                have c22b0 : (t267 == 0) = false := beq_eq_false_iff_ne.mpr c22
                have c22b1 : (t267 != 0) = true := bne_iff_ne.mpr c22
                by_cases c31 : t268 = 0
                · rw [if_pos c31] at H
                  have c31b0 : (t268 == 0) = true := beq_iff_eq.mpr c31
                  have c31b1 : (t268 != 0) = false := bne_eq_false_iff_eq.mpr c31
                  clear c31
                  have H' := Aside0.mk H
                  clear H
                  go_wp2_with (first | ((with_reducible refine gate_callee (f := 10) rfl ?_); refine goesL_ (some 42) rfl rfl Tryd.func10 (by kernel_rfl) rfl #[.string a0, .string a0] rfl (by (try simp only [List.map_toArray, List.map_cons, List.map_nil]); first | done | rfl | (simp only [List.length_drop, List.length_take]; rfl)) ?_; (with_reducible refine (version_CompareText.calls kj4 a0 a0 t270 _ (by first | exact hG | exact GL.below hG (by repeat (first | (with_reducible first | exact HB.out | apply below_alloc | apply pw_below_drewN | apply below_drew1) | exact HB.out)))  A18.out).mono ?_); rintro e w32 ⟨rfl, hb⟩; refine ⟨_, rfl, ?_⟩; have n0_ := Aside0.mk (below_step (by repeat (first | (with_reducible first | exact HB.out | apply below_alloc | apply pw_below_drewN | apply below_drew1) | exact HB.out)) hb); clear HB; have HB := n0_; clear n0_; (try clear hb); (try clear hb2); (try clear hk); (try clear hi)) | (go_at_call 10; (with_reducible refine (version_CompareText.calls kj4 a1 a0 t271 _ (by first | exact hG | exact GL.below hG (by repeat (first | (with_reducible first | exact HB.out | apply below_alloc | apply pw_below_drewN | apply below_drew1) | exact HB.out)))  A20.out).mono ?_); rintro e w33 ⟨rfl, hb⟩; have n0_ := Aside0.mk (below_step (by repeat (first | (with_reducible first | exact HB.out | apply below_alloc | apply pw_below_drewN | apply below_drew1) | exact HB.out)) hb); clear HB; have HB := n0_; clear n0_; (try clear hb); (try clear hb2); (try clear hk); (try clear hi)))
                  go_meet
                  case rel => exact ⟨_, ((t267 != t269)), (by first | rfl | (simp; done) | (simp [*]; done) | (simp [isEmpty_bne]; done)), H', ⟨by have := HJ4.out; first | omega | exact Nat.le_refl _⟩, ⟨by repeat (first | (with_reducible first | exact HB.out | apply below_alloc | apply pw_below_drewN | apply below_drew1) | exact HB.out)⟩⟩
                · rw [if_neg c31] at H
                  have c31b0 : (t268 == 0) = false := beq_eq_false_iff_ne.mpr c31
                  have c31b1 : (t268 != 0) = true := bne_iff_ne.mpr c31
                  have H' := Aside0.mk H
                  clear H
                  go_wp2_with (first | ((with_reducible refine gate_callee (f := 10) rfl ?_); refine goesL_ (some 42) rfl rfl Tryd.func10 (by kernel_rfl) rfl #[.string a0, .string a0] rfl (by (try simp only [List.map_toArray, List.map_cons, List.map_nil]); first | done | rfl | (simp only [List.length_drop, List.length_take]; rfl)) ?_; (with_reducible refine (version_CompareText.calls kj4 a0 a0 t270 _ (by first | exact hG | exact GL.below hG (by repeat (first | (with_reducible first | exact HB.out | apply below_alloc | apply pw_below_drewN | apply below_drew1) | exact HB.out)))  A18.out).mono ?_); rintro e w34 ⟨rfl, hb⟩; refine ⟨_, rfl, ?_⟩; have n0_ := Aside0.mk (below_step (by repeat (first | (with_reducible first | exact HB.out | apply below_alloc | apply pw_below_drewN | apply below_drew1) | exact HB.out)) hb); clear HB; have HB := n0_; clear n0_; (try clear hb); (try clear hb2); (try clear hk); (try clear hi)) | (go_at_call 10; (with_reducible refine (version_CompareText.calls kj4 a1 a0 t271 _ (by first | exact hG | exact GL.below hG (by repeat (first | (with_reducible first | exact HB.out | apply below_alloc | apply pw_below_drewN | apply below_drew1) | exact HB.out)))  A20.out).mono ?_); rintro e w35 ⟨rfl, hb⟩; have n0_ := Aside0.mk (below_step (by repeat (first | (with_reducible first | exact HB.out | apply below_alloc | apply pw_below_drewN | apply below_drew1) | exact HB.out)) hb); clear HB; have HB := n0_; clear n0_; (try clear hb); (try clear hb2); (try clear hk); (try clear hi)))
                  go_meet
                  case rel => exact ⟨_, (false), (by first | rfl | (simp; done) | (simp [*]; done) | (simp [isEmpty_bne]; done)), H', ⟨by have := HJ4.out; first | omega | exact Nat.le_refl _⟩, ⟨by repeat (first | (with_reducible first | exact HB.out | apply below_alloc | apply pw_below_drewN | apply below_drew1) | exact HB.out)⟩⟩
            · rw [if_neg c21] at H
              have c21b0 : (t267 == (wrap64 (-t271))) = false := beq_eq_false_iff_ne.mpr c21
              have c21b1 : (t267 != (wrap64 (-t271))) = true := bne_iff_ne.mpr c21
              have H' := Aside0.mk H
              clear H
              go_wp2_with (first | ((with_reducible refine gate_callee (f := 10) rfl ?_); refine goesL_ (some 42) rfl rfl Tryd.func10 (by kernel_rfl) rfl #[.string a0, .string a0] rfl (by (try simp only [List.map_toArray, List.map_cons, List.map_nil]); first | done | rfl | (simp only [List.length_drop, List.length_take]; rfl)) ?_; (with_reducible refine (version_CompareText.calls kj4 a0 a0 t270 _ (by first | exact hG | exact GL.below hG (by repeat (first | (with_reducible first | exact HB.out | apply below_alloc | apply pw_below_drewN | apply below_drew1) | exact HB.out)))  A18.out).mono ?_); rintro e w36 ⟨rfl, hb⟩; refine ⟨_, rfl, ?_⟩; have n0_ := Aside0.mk (below_step (by repeat (first | (with_reducible first | exact HB.out | apply below_alloc | apply pw_below_drewN | apply below_drew1) | exact HB.out)) hb); clear HB; have HB := n0_; clear n0_; (try clear hb); (try clear hb2); (try clear hk); (try clear hi)) | (go_at_call 10; (with_reducible refine (version_CompareText.calls kj4 a1 a0 t271 _ (by first | exact hG | exact GL.below hG (by repeat (first | (with_reducible first | exact HB.out | apply below_alloc | apply pw_below_drewN | apply below_drew1) | exact HB.out)))  A20.out).mono ?_); rintro e w37 ⟨rfl, hb⟩; have n0_ := Aside0.mk (below_step (by repeat (first | (with_reducible first | exact HB.out | apply below_alloc | apply pw_below_drewN | apply below_drew1) | exact HB.out)) hb); clear HB; have HB := n0_; clear n0_; (try clear hb); (try clear hb2); (try clear hk); (try clear hi)))
              go_meet
              case rel => exact ⟨_, (true), (by first | rfl | (simp; done) | (simp [*]; done) | (simp [isEmpty_bne]; done)), H', ⟨by have := HJ4.out; first | omega | exact Nat.le_refl _⟩, ⟨by repeat (first | (with_reducible first | exact HB.out | apply below_alloc | apply pw_below_drewN | apply below_drew1) | exact HB.out)⟩⟩
          · rw [if_neg c19] at H
            have c19b0 : (t270 == 0) = false := beq_eq_false_iff_ne.mpr c19
            have c19b1 : (t270 != 0) = true := bne_iff_ne.mpr c19
            (first | rw [c19b0] | (simp only [i64_w, i32_w]; rw [c19b0]) | skip)
            have H' := Aside0.mk H
            clear H
            go_wp2_with (first | ((with_reducible refine gate_callee (f := 10) rfl ?_); refine goesL_ (some 42) rfl rfl Tryd.func10 (by kernel_rfl) rfl #[.string a0, .string a0] rfl (by (try simp only [List.map_toArray, List.map_cons, List.map_nil]); first | done | rfl | (simp only [List.length_drop, List.length_take]; rfl)) ?_; (with_reducible refine (version_CompareText.calls kj4 a0 a0 t270 _ (by first | exact hG | exact GL.below hG (by repeat (first | (with_reducible first | exact HB.out | apply below_alloc | apply pw_below_drewN | apply below_drew1) | exact HB.out)))  A18.out).mono ?_); rintro e w38 ⟨rfl, hb⟩; refine ⟨_, rfl, ?_⟩; have n0_ := Aside0.mk (below_step (by repeat (first | (with_reducible first | exact HB.out | apply below_alloc | apply pw_below_drewN | apply below_drew1) | exact HB.out)) hb); clear HB; have HB := n0_; clear n0_; (try clear hb); (try clear hb2); (try clear hk); (try clear hi)))
            go_meet
            case rel => exact ⟨_, (true), (by first | rfl | (simp; done) | (simp [*]; done) | (simp [isEmpty_bne]; done)), H', ⟨by have := HJ4.out; first | omega | exact Nat.le_refl _⟩, ⟨by repeat (first | (with_reducible first | exact HB.out | apply below_alloc | apply pw_below_drewN | apply below_drew1) | exact HB.out)⟩⟩
        case rest =>
          clear HC14
          try clear c1
          try clear c2
          try clear p2
          try clear c3
          try clear c6
          try clear p6
          try clear c7
          try clear c8
          try clear c8b0
          try clear c8b1
          try clear c9
          try clear c9b0
          try clear c9b1
          try clear c10
          try clear c19
          try clear c19b0
          try clear c19b1
          try clear c21
          try clear c21b0
          try clear c21b1
          try clear c22
          try clear c22b0
          try clear c22b1
          try clear c23
          try clear c23b0
          try clear c23b1
          try clear c24
          try clear c24b0
          try clear c24b1
          try clear c31
          try clear c31b0
          try clear c31b1
          try clear p2
          obtain ⟨kq, x69_13, rfl, HA, HJ13, HB⟩ := hcut
          cases kq with
          | zero => exact absurd HA.out (by simp [keelsonlaw2_VersionOrders.j1])
          | succ kj13 =>
            have H := HA.out
            clear HA
            simp only [keelsonlaw2_VersionOrders.j1] at H
            by_cases c39 : x69_13 = true
            · subst c39
              have H1 : (some false) = some r := by rw [if_pos rfl] at H; exact H
              clear H
              have H := H1
              clear H1
              obtain rfl := Option.some.inj H
              go_wp2
              go_ret
              exact ⟨by first | rfl | (simp [errW_none, errW_some] <;> rfl) | (simp [*, errW_none, errW_some] <;> rfl), by repeat (first | (with_reducible first | exact HB.out | apply below_alloc | apply pw_below_drewN | apply below_drew1) | exact HB.out)⟩
            · replace c39 := Bool.eq_false_iff.mpr c39
              subst c39
              have H1 : (if t267 < 0 then (if t268 < 0 then (if t269 ≥ 0 then (keelsonlaw2_VersionOrders.j2 kj13 a0 a1 true) else (if t267 > 0 then (if t268 > 0 then (keelsonlaw2_VersionOrders.j2 kj13 a0 a1 (decide (t269 ≤ 0))) else (keelsonlaw2_VersionOrders.j2 kj13 a0 a1 false)) else (keelsonlaw2_VersionOrders.j2 kj13 a0 a1 false))) else (if t267 > 0 then (if t268 > 0 then (keelsonlaw2_VersionOrders.j2 kj13 a0 a1 (decide (t269 ≤ 0))) else (keelsonlaw2_VersionOrders.j2 kj13 a0 a1 false)) else (keelsonlaw2_VersionOrders.j2 kj13 a0 a1 false))) else (if t267 > 0 then (if t268 > 0 then (keelsonlaw2_VersionOrders.j2 kj13 a0 a1 (decide (t269 ≤ 0))) else (keelsonlaw2_VersionOrders.j2 kj13 a0 a1 false)) else (keelsonlaw2_VersionOrders.j2 kj13 a0 a1 false))) = some r := by rw [if_neg (show ¬ (false = true) by decide)] at H; exact H
              clear H
              have H := H1
              clear H1
              have HC40 := Aside0.mk H
              clear H
              go_upto_region 9 with (fail)
              go_cut [91] (fun v91 wc => ∃ (kq : Nat) (x91_39 : Bool), v91 = .bool x91_39 ∧ Aside0 (keelsonlaw2_VersionOrders.j2 kq a0 a1 x91_39 = some r) ∧ Aside0 (kq ≤ kj13) ∧ Aside0 (Below w.heap.size w wc))
              case first =>
                have H := HC40.out
                clear HC40
                by_cases c41 : t267 < 0
                · rw [if_pos c41] at H
                  have c41b0 : decide (t267 < 0) = true := decide_eq_true c41
                  clear c41
                  (first | rw [c41b0] | (simp only [i64_w, i32_w]; rw [c41b0]) | skip)
                  by_cases c42 : t268 < 0
                  · rw [if_pos c42] at H
                    have c42b0 : decide (t268 < 0) = true := decide_eq_true c42
                    clear c42
                    by_cases c43 : t269 ≥ 0
                    · rw [if_pos c43] at H
                      have c43b0 : decide (0 ≤ t269) = true := decide_eq_true c43
                      clear c43
                      have H' := Aside0.mk H
                      clear H
                      go_wp2
                      go_meet
                      case rel => exact ⟨_, (true), (by first | rfl | (simp; done) | (simp [*]; done) | (simp [isEmpty_bne]; done)), H', ⟨by have := HJ4.out; have := HJ13.out; first | omega | exact Nat.le_refl _⟩, ⟨by repeat (first | (with_reducible first | exact HB.out | apply below_alloc | apply pw_below_drewN | apply below_drew1) | exact HB.out)⟩⟩
                    · rw [if_neg c43] at H
                      have c43b0 : decide (0 ≤ t269) = false := decide_eq_false c43
                      clear c43
                      by_cases c44 : t267 > 0
                      · rw [if_pos c44] at H
                        have c44b0 : decide (0 < t267) = true := decide_eq_true c44
                        clear c44
                        by_cases c45 : t268 > 0
                        · rw [if_pos c45] at H
                          have c45b0 : decide (0 < t268) = true := decide_eq_true c45
                          clear c45
                          have H' := Aside0.mk H
                          clear H
                          go_wp2
                          go_meet
                          case rel => exact ⟨_, (decide (t269 ≤ 0)), (by first | rfl | (simp; done) | (simp [*]; done) | (simp [isEmpty_bne]; done)), H', ⟨by have := HJ4.out; have := HJ13.out; first | omega | exact Nat.le_refl _⟩, ⟨by repeat (first | (with_reducible first | exact HB.out | apply below_alloc | apply pw_below_drewN | apply below_drew1) | exact HB.out)⟩⟩
                        · rw [if_neg c45] at H
                          have c45b0 : decide (0 < t268) = false := decide_eq_false c45
                          clear c45
                          have H' := Aside0.mk H
                          clear H
                          go_wp2
                          go_meet
                          case rel => exact ⟨_, (false), (by first | rfl | (simp; done) | (simp [*]; done) | (simp [isEmpty_bne]; done)), H', ⟨by have := HJ4.out; have := HJ13.out; first | omega | exact Nat.le_refl _⟩, ⟨by repeat (first | (with_reducible first | exact HB.out | apply below_alloc | apply pw_below_drewN | apply below_drew1) | exact HB.out)⟩⟩
                      · rw [if_neg c44] at H
                        have c44b0 : decide (0 < t267) = false := decide_eq_false c44
                        clear c44
                        have H' := Aside0.mk H
                        clear H
                        go_wp2
                        go_meet
                        case rel => exact ⟨_, (false), (by first | rfl | (simp; done) | (simp [*]; done) | (simp [isEmpty_bne]; done)), H', ⟨by have := HJ4.out; have := HJ13.out; first | omega | exact Nat.le_refl _⟩, ⟨by repeat (first | (with_reducible first | exact HB.out | apply below_alloc | apply pw_below_drewN | apply below_drew1) | exact HB.out)⟩⟩
                  · rw [if_neg c42] at H
                    have c42b0 : decide (t268 < 0) = false := decide_eq_false c42
                    clear c42
                    by_cases c46 : t267 > 0
                    · rw [if_pos c46] at H
                      have c46b0 : decide (0 < t267) = true := decide_eq_true c46
                      clear c46
                      by_cases c47 : t268 > 0
                      · rw [if_pos c47] at H
                        have c47b0 : decide (0 < t268) = true := decide_eq_true c47
                        clear c47
                        have H' := Aside0.mk H
                        clear H
                        go_wp2
                        go_meet
                        case rel => exact ⟨_, (decide (t269 ≤ 0)), (by first | rfl | (simp; done) | (simp [*]; done) | (simp [isEmpty_bne]; done)), H', ⟨by have := HJ4.out; have := HJ13.out; first | omega | exact Nat.le_refl _⟩, ⟨by repeat (first | (with_reducible first | exact HB.out | apply below_alloc | apply pw_below_drewN | apply below_drew1) | exact HB.out)⟩⟩
                      · rw [if_neg c47] at H
                        have c47b0 : decide (0 < t268) = false := decide_eq_false c47
                        clear c47
                        have H' := Aside0.mk H
                        clear H
                        go_wp2
                        go_meet
                        case rel => exact ⟨_, (false), (by first | rfl | (simp; done) | (simp [*]; done) | (simp [isEmpty_bne]; done)), H', ⟨by have := HJ4.out; have := HJ13.out; first | omega | exact Nat.le_refl _⟩, ⟨by repeat (first | (with_reducible first | exact HB.out | apply below_alloc | apply pw_below_drewN | apply below_drew1) | exact HB.out)⟩⟩
                    · rw [if_neg c46] at H
                      have c46b0 : decide (0 < t267) = false := decide_eq_false c46
                      clear c46
                      have H' := Aside0.mk H
                      clear H
                      go_wp2
                      go_meet
                      case rel => exact ⟨_, (false), (by first | rfl | (simp; done) | (simp [*]; done) | (simp [isEmpty_bne]; done)), H', ⟨by have := HJ4.out; have := HJ13.out; first | omega | exact Nat.le_refl _⟩, ⟨by repeat (first | (with_reducible first | exact HB.out | apply below_alloc | apply pw_below_drewN | apply below_drew1) | exact HB.out)⟩⟩
                · rw [if_neg c41] at H
                  have c41b0 : decide (t267 < 0) = false := decide_eq_false c41
                  clear c41
                  (first | rw [c41b0] | (simp only [i64_w, i32_w]; rw [c41b0]) | skip)
                  by_cases c48 : t267 > 0
                  · rw [if_pos c48] at H
                    have c48b0 : decide (0 < t267) = true := decide_eq_true c48
                    clear c48
                    by_cases c49 : t268 > 0
                    · rw [if_pos c49] at H
                      have c49b0 : decide (0 < t268) = true := decide_eq_true c49
                      clear c49
                      have H' := Aside0.mk H
                      clear H
                      go_wp2
                      go_meet
                      case rel => exact ⟨_, (decide (t269 ≤ 0)), (by first | rfl | (simp; done) | (simp [*]; done) | (simp [isEmpty_bne]; done)), H', ⟨by have := HJ4.out; have := HJ13.out; first | omega | exact Nat.le_refl _⟩, ⟨by repeat (first | (with_reducible first | exact HB.out | apply below_alloc | apply pw_below_drewN | apply below_drew1) | exact HB.out)⟩⟩
                    · rw [if_neg c49] at H
                      have c49b0 : decide (0 < t268) = false := decide_eq_false c49
                      clear c49
                      have H' := Aside0.mk H
                      clear H
                      go_wp2
                      go_meet
                      case rel => exact ⟨_, (false), (by first | rfl | (simp; done) | (simp [*]; done) | (simp [isEmpty_bne]; done)), H', ⟨by have := HJ4.out; have := HJ13.out; first | omega | exact Nat.le_refl _⟩, ⟨by repeat (first | (with_reducible first | exact HB.out | apply below_alloc | apply pw_below_drewN | apply below_drew1) | exact HB.out)⟩⟩
                  · rw [if_neg c48] at H
                    have c48b0 : decide (0 < t267) = false := decide_eq_false c48
                    clear c48
                    have H' := Aside0.mk H
                    clear H
                    go_wp2
                    go_meet
                    case rel => exact ⟨_, (false), (by first | rfl | (simp; done) | (simp [*]; done) | (simp [isEmpty_bne]; done)), H', ⟨by have := HJ4.out; have := HJ13.out; first | omega | exact Nat.le_refl _⟩, ⟨by repeat (first | (with_reducible first | exact HB.out | apply below_alloc | apply pw_below_drewN | apply below_drew1) | exact HB.out)⟩⟩
              case rest =>
                clear HC40
                try clear c1
                try clear c2
                try clear p2
                try clear c3
                try clear c4
                try clear c6
                try clear p6
                try clear c7
                try clear c8
                try clear c8b0
                try clear c8b1
                try clear c9
                try clear c9b0
                try clear c9b1
                try clear c10
                try clear c19
                try clear c19b0
                try clear c19b1
                try clear c21
                try clear c21b0
                try clear c21b1
                try clear c22
                try clear c22b0
                try clear c22b1
                try clear c23
                try clear c23b0
                try clear c23b1
                try clear c24
                try clear c24b0
                try clear c24b1
                try clear c31
                try clear c31b0
                try clear c31b1
                try clear c39
                try clear c41
                try clear c41b0
                try clear c42
                try clear c42b0
                try clear c43
                try clear c43b0
                try clear c44
                try clear c44b0
                try clear c45
                try clear c45b0
                try clear c46
                try clear c46b0
                try clear c47
                try clear c47b0
                try clear c48
                try clear c48b0
                try clear c49
                try clear c49b0
                try clear p2
                try clear p6
                obtain ⟨kq, x91_39, rfl, HA, HJ39, HB⟩ := hcut
                cases kq with
                | zero => exact absurd HA.out (by simp [keelsonlaw2_VersionOrders.j2])
                | succ kj39 =>
                  have H := HA.out
                  clear HA
                  simp only [keelsonlaw2_VersionOrders.j2] at H
                  by_cases c50 : x91_39 = true
                  · subst c50
                    have H1 : (some false) = some r := by rw [if_pos rfl] at H; exact H
                    clear H
                    have H := H1
                    clear H1
                    obtain rfl := Option.some.inj H
                    go_wp2
                    go_ret
                    exact ⟨by first | rfl | (simp [errW_none, errW_some] <;> rfl) | (simp [*, errW_none, errW_some] <;> rfl), by repeat (first | (with_reducible first | exact HB.out | apply below_alloc | apply pw_below_drewN | apply below_drew1) | exact HB.out)⟩
                  · replace c50 := Bool.eq_false_iff.mpr c50
                    subst c50
                    have H1 : ((version_Order.f kj39 a0 a1).bind fun t272 => ((version_Order.f kj39 a1 a0).bind fun t273 => (if t272 = (wrap64 (-t273)) then ((version_Order.f kj39 a0 a0).bind fun t274 => (some (t274 == 0))) else (some false)))) = some r := by rw [if_neg (show ¬ (false = true) by decide)] at H; exact H
                    clear H
                    have H := H1
                    clear H1
                    replace H := Option.bind_eq_some_iff.mp H
                    obtain ⟨t272, A510, H⟩ := H
                    replace H : ((version_Order.f kj39 a1 a0).bind fun t273 => (if t272 = (wrap64 (-t273)) then ((version_Order.f kj39 a0 a0).bind fun t274 => (some (t274 == 0))) else (some false))) = some r := H
                    have A51 := Aside0.mk A510
                    clear A510
                    replace H := Option.bind_eq_some_iff.mp H
                    obtain ⟨t273, A520, H⟩ := H
                    replace H : (if t272 = (wrap64 (-t273)) then ((version_Order.f kj39 a0 a0).bind fun t274 => (some (t274 == 0))) else (some false)) = some r := H
                    have A52 := Aside0.mk A520
                    clear A520
                    by_cases c53 : t272 = (wrap64 (-t273))
                    · rw [if_pos c53] at H
                      have c53b0 : (t272 == (wrap64 (-t273))) = true := beq_iff_eq.mpr c53
                      have c53b1 : (t272 != (wrap64 (-t273))) = false := bne_eq_false_iff_eq.mpr c53
                      clear c53
                      replace H := Option.bind_eq_some_iff.mp H
                      obtain ⟨t274, A540, H⟩ := H
                      replace H : (some (t274 == 0)) = some r := H
                      have A54 := Aside0.mk A540
                      clear A540
                      obtain rfl := Option.some.inj H
                      go_wp2_with (first | ((with_reducible refine gate_callee (f := 17) rfl ?_); refine goesL_ (some 94) rfl rfl Tryd.func17 (by kernel_rfl) rfl #[.string a0, .string a1] rfl (by (try simp only [List.map_toArray, List.map_cons, List.map_nil]); first | done | rfl | (simp only [List.length_drop, List.length_take]; rfl)) ?_; (with_reducible refine (version_Order.calls kj39 a0 a1 t272 _ (by first | exact hG | exact GL.below hG (by repeat (first | (with_reducible first | exact HB.out | apply below_alloc | apply pw_below_drewN | apply below_drew1) | exact HB.out)))  A51.out).mono ?_); rintro e w55 ⟨rfl, hb⟩; refine ⟨_, rfl, ?_⟩; have n0_ := Aside0.mk (below_step (by repeat (first | (with_reducible first | exact HB.out | apply below_alloc | apply pw_below_drewN | apply below_drew1) | exact HB.out)) hb); clear HB; have HB := n0_; clear n0_; (try clear hb); (try clear hb2); (try clear hk); (try clear hi)) | ((with_reducible refine gate_callee (f := 17) rfl ?_); refine goesL_ (some 98) rfl rfl Tryd.func17 (by kernel_rfl) rfl #[.string a1, .string a0] rfl (by (try simp only [List.map_toArray, List.map_cons, List.map_nil]); first | done | rfl | (simp only [List.length_drop, List.length_take]; rfl)) ?_; (with_reducible refine (version_Order.calls kj39 a1 a0 t273 _ (by first | exact hG | exact GL.below hG (by repeat (first | (with_reducible first | exact HB.out | apply below_alloc | apply pw_below_drewN | apply below_drew1) | exact HB.out)))  A52.out).mono ?_); rintro e w56 ⟨rfl, hb⟩; refine ⟨_, rfl, ?_⟩; have n0_ := Aside0.mk (below_step (by repeat (first | (with_reducible first | exact HB.out | apply below_alloc | apply pw_below_drewN | apply below_drew1) | exact HB.out)) hb); clear HB; have HB := n0_; clear n0_; (try clear hb); (try clear hb2); (try clear hk); (try clear hi)) | (go_at_call 17; (with_reducible refine (version_Order.calls kj39 a0 a0 t274 _ (by first | exact hG | exact GL.below hG (by repeat (first | (with_reducible first | exact HB.out | apply below_alloc | apply pw_below_drewN | apply below_drew1) | exact HB.out)))  A54.out).mono ?_); rintro e w57 ⟨rfl, hb⟩; have n0_ := Aside0.mk (below_step (by repeat (first | (with_reducible first | exact HB.out | apply below_alloc | apply pw_below_drewN | apply below_drew1) | exact HB.out)) hb); clear HB; have HB := n0_; clear n0_; (try clear hb); (try clear hb2); (try clear hk); (try clear hi)))
                      go_ret
                      exact ⟨by first | rfl | (simp [errW_none, errW_some] <;> rfl) | (simp [*, errW_none, errW_some] <;> rfl), by repeat (first | (with_reducible first | exact HB.out | apply below_alloc | apply pw_below_drewN | apply below_drew1) | exact HB.out)⟩
                    · rw [if_neg c53] at H
                      have c53b0 : (t272 == (wrap64 (-t273))) = false := beq_eq_false_iff_ne.mpr c53
                      have c53b1 : (t272 != (wrap64 (-t273))) = true := bne_iff_ne.mpr c53
                      obtain rfl := Option.some.inj H
                      go_wp2_with (first | ((with_reducible refine gate_callee (f := 17) rfl ?_); refine goesL_ (some 94) rfl rfl Tryd.func17 (by kernel_rfl) rfl #[.string a0, .string a1] rfl (by (try simp only [List.map_toArray, List.map_cons, List.map_nil]); first | done | rfl | (simp only [List.length_drop, List.length_take]; rfl)) ?_; (with_reducible refine (version_Order.calls kj39 a0 a1 t272 _ (by first | exact hG | exact GL.below hG (by repeat (first | (with_reducible first | exact HB.out | apply below_alloc | apply pw_below_drewN | apply below_drew1) | exact HB.out)))  A51.out).mono ?_); rintro e w58 ⟨rfl, hb⟩; refine ⟨_, rfl, ?_⟩; have n0_ := Aside0.mk (below_step (by repeat (first | (with_reducible first | exact HB.out | apply below_alloc | apply pw_below_drewN | apply below_drew1) | exact HB.out)) hb); clear HB; have HB := n0_; clear n0_; (try clear hb); (try clear hb2); (try clear hk); (try clear hi)) | ((with_reducible refine gate_callee (f := 17) rfl ?_); refine goesL_ (some 98) rfl rfl Tryd.func17 (by kernel_rfl) rfl #[.string a1, .string a0] rfl (by (try simp only [List.map_toArray, List.map_cons, List.map_nil]); first | done | rfl | (simp only [List.length_drop, List.length_take]; rfl)) ?_; (with_reducible refine (version_Order.calls kj39 a1 a0 t273 _ (by first | exact hG | exact GL.below hG (by repeat (first | (with_reducible first | exact HB.out | apply below_alloc | apply pw_below_drewN | apply below_drew1) | exact HB.out)))  A52.out).mono ?_); rintro e w59 ⟨rfl, hb⟩; refine ⟨_, rfl, ?_⟩; have n0_ := Aside0.mk (below_step (by repeat (first | (with_reducible first | exact HB.out | apply below_alloc | apply pw_below_drewN | apply below_drew1) | exact HB.out)) hb); clear HB; have HB := n0_; clear n0_; (try clear hb); (try clear hb2); (try clear hk); (try clear hi)))
                      go_ret
                      exact ⟨by first | rfl | (simp [errW_none, errW_some] <;> rfl) | (simp [*, errW_none, errW_some] <;> rfl), by repeat (first | (with_reducible first | exact HB.out | apply below_alloc | apply pw_below_drewN | apply below_drew1) | exact HB.out)⟩

/-- THE ONE PURE STATEMENT of keelsonlaw2_VersionOrders: yours. -/
def keelsonlaw2_VersionOrders.Pure : Prop := ∀ (a0 : ByteArray) (a1 : ByteArray) (a2 : ByteArray), a0.size ≤ 140737488351232 → a1.size ≤ 140737488351232 → a2.size ≤ 140737488351232 → ∃ k, keelsonlaw2_VersionOrders.f k a0 a1 a2 = some true
theorem keelsonlaw2_VersionOrders.walk (P : keelsonlaw2_VersionOrders.Pure) (a0 : ByteArray) (a1 : ByteArray) (a2 : ByteArray) (w : World) (hG : GL w) (w0 : a0.size ≤ 140737488351232) (w1 : a1.size ≤ 140737488351232) (w2 : a2.size ≤ 140737488351232) :
    Calls Tryd.prog 6 #[.string a0, .string a1, .string a2] w fun e w' => e = .returned (.bool true) ∧ Below w.heap.size w w' := by
  obtain ⟨k, h⟩ := P a0 a1 a2 w0 w1 w2
  refine (keelsonlaw2_VersionOrders.calls k a0 a1 a2 true w hG h).mono ?_
  rintro e w' ⟨rfl, hd⟩
  exact ⟨rfl, hd⟩

end Go.Proofs.YtpjhaaifgiicoaaDoor.PA
