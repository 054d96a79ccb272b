
import Derived.Test.YtpjhaaifgiicoaaDoorPAx0
import Derived.Test.YtpjhaaifgiicoaaDoorPAx3
import Derived.Test.YtpjhaaifgiicoaaDoorPAx5
import Derived.Test.YtpjhaaifgiicoaaDoorPAx6
import Derived.Test.YtpjhaaifgiicoaaDoorPAx12
namespace Go.Proofs.YtpjhaaifgiicoaaDoor.PA
open Go.RowKit Go.Proofs.YtpjhaaifgiicoaaDoorW.PrintWords Go.Proofs.YtpjhaaifgiicoaaDoorW.PrintLast Go.Proofs.YtpjhaaifgiicoaaDoorW.PrintMore
attribute [local go_sem] max2_int min2_int max_two min_two max_three min_three max_four min_four
set_option linter.unusedVariables false
set_option linter.unusedSimpArgs false
def version_Order.j0 : Nat → Int → Int → Bool → Int → ByteArray → ByteArray → Int → ByteArray → ByteArray → Option (Int)
  | 0, _, _, _, _, _, _, _, _, _ => none
  | k + 1, x6, x8, x19, x260000, x260001, x260002, x265000, x265001, x265002 => if x19 = true then (some 0) else (if x6 = 0 then (if x8 = 0 then ((version_Compare.f k x260000 x260001 x260002 x265000 x265001 x265002).bind fun t265 => (some t265)) else (some 1)) else (some (-1)))
def version_Order.f (k : Nat) (a0 : ByteArray) (a1 : ByteArray) : Option (Int) := (version_Parse.f k a0).bind fun bt255 => ((version_Parse.f k a1).bind fun bt260 => (if bt255.2.2.2 = 0 then (version_Order.j0 k bt255.2.2.2 bt260.2.2.2 false bt255.1 bt255.2.1 bt255.2.2.1 bt260.1 bt260.2.1 bt260.2.2.1) else (version_Order.j0 k bt255.2.2.2 bt260.2.2.2 (bt260.2.2.2 != 0) bt255.1 bt255.2.1 bt255.2.2.1 bt260.1 bt260.2.1 bt260.2.2.1)))
theorem version_Order.mono_l : ∀ k, (∀ y0 y1 y2 y3 y4 y5 y6 y7 y8, LeO (version_Order.j0 k y0 y1 y2 y3 y4 y5 y6 y7 y8) (version_Order.j0 (k + 1) y0 y1 y2 y3 y4 y5 y6 y7 y8))
  | 0 => fun _ _ _ _ _ _ _ _ _ r h => by simp [version_Order.j0] at h
  | k + 1 => by
    have ih0 := version_Order.mono_l k
    · intro y0 y1 y2 y3 y4 y5 y6 y7 y8
      unfold version_Order.j0
      repeat' first
      | (with_reducible exact ih0 _ _ _ _ _ _ _ _ _)
      | (with_reducible exact version_Compare.mono _ _ _ _ _ _ _)
      | (with_reducible exact version_Parse.mono _ _)
      | (with_reducible exact LeO.refl _)
      | (with_reducible exact LeO.none _)
      | (with_reducible refine LeO.ite ?_ ?_)
      | (with_reducible refine LeO.bind ?_ (fun _ => ?_))
      | exact ih0 _ _ _ _ _ _ _ _ _
      | exact version_Compare.mono _ _ _ _ _ _ _
      | exact version_Parse.mono _ _
      | exact LeO.none _
      | refine LeO.ite ?_ ?_
      | refine LeO.bind ?_ (fun _ => ?_)
theorem version_Order.mono : ∀ a0 a1 k, LeO (version_Order.f k a0 a1) (version_Order.f (k + 1) a0 a1) := by
  intro a0 a1 k
  have ih0 := version_Order.mono_l k
  unfold version_Order.f
  repeat' first
      | (with_reducible exact ih0 _ _ _ _ _ _ _ _ _)
      | (with_reducible exact version_Compare.mono _ _ _ _ _ _ _)
      | (with_reducible exact version_Parse.mono _ _)
      | (with_reducible exact LeO.refl _)
      | (with_reducible exact LeO.none _)
      | (with_reducible refine LeO.ite ?_ ?_)
      | (with_reducible refine LeO.bind ?_ (fun _ => ?_))
      | exact ih0 _ _ _ _ _ _ _ _ _
      | exact version_Compare.mono _ _ _ _ _ _ _
      | exact version_Parse.mono _ _
      | exact LeO.none _
      | refine LeO.ite ?_ ?_
      | refine LeO.bind ?_ (fun _ => ?_)
set_option maxHeartbeats 8000000 in
set_option maxRecDepth 100000 in
theorem version_Order.calls (k : Nat) (a0 : ByteArray) (a1 : ByteArray) (r : Int) (w : World) (hG : GL w) (h : version_Order.f k a0 a1 = some r) :
    Calls Tryd.prog 17 #[.string a0, .string a1] w fun e w' => e = .returned (.int .i64 r) ∧ Below w.heap.size w w' := by
  have hu27 := Tryd.underlying27
  have HB := Aside0.mk (Below.refl w.heap.size w)
  have H : ((version_Parse.f k a0).bind fun bt255 => ((version_Parse.f k a1).bind fun bt260 => (if bt255.2.2.2 = 0 then (version_Order.j0 k bt255.2.2.2 bt260.2.2.2 false bt255.1 bt255.2.1 bt255.2.2.1 bt260.1 bt260.2.1 bt260.2.2.1) else (version_Order.j0 k bt255.2.2.2 bt260.2.2.2 (bt260.2.2.2 != 0) bt255.1 bt255.2.1 bt255.2.2.1 bt260.1 bt260.2.1 bt260.2.2.1)))) = some r := h
  clear h
  replace H := Option.bind_eq_some_iff.mp H
  obtain ⟨⟨t255, t256, t257, t258⟩, A30, H⟩ := H
  replace H : ((version_Parse.f k a1).bind fun bt260 => (if t258 = 0 then (version_Order.j0 k t258 bt260.2.2.2 false t255 t256 t257 bt260.1 bt260.2.1 bt260.2.2.1) else (version_Order.j0 k t258 bt260.2.2.2 (bt260.2.2.2 != 0) t255 t256 t257 bt260.1 bt260.2.1 bt260.2.2.1))) = some r := H
  have A3 := Aside0.mk A30
  clear A30
  replace H := Option.bind_eq_some_iff.mp H
  obtain ⟨⟨t260, t261, t262, t263⟩, A40, H⟩ := H
  replace H : (if t258 = 0 then (version_Order.j0 k t258 t263 false t255 t256 t257 t260 t261 t262) else (version_Order.j0 k t258 t263 (t263 != 0) t255 t256 t257 t260 t261 t262)) = some r := H
  have A4 := Aside0.mk A40
  clear A40
  have HC5 := Aside0.mk H
  clear H
  go_enter Tryd.func17, Tryd.ntmps17
  go_upto_region 3 with (first | ((with_reducible refine gate_callee (f := 11) rfl ?_); refine goesL_ (some 11) rfl rfl Tryd.func11 (by kernel_rfl) rfl #[.string a0] rfl (by (try simp only [List.map_toArray, List.map_cons, List.map_nil]); first | done | rfl | (simp only [List.length_drop, List.length_take]; rfl)) ?_; (with_reducible refine (version_Parse.calls k a0 t255 t256 t257 t258 _ (by first | exact hG | exact GL.below hG (by repeat (first | (with_reducible first | exact HB.out | apply below_alloc | apply pw_below_drewN | apply below_drew1) | exact HB.out)))  A3.out).mono ?_); rintro e w6 ⟨rfl, hb⟩; refine ⟨_, rfl, ?_⟩; have n0_ := Aside0.mk (below_step (by repeat (first | (with_reducible first | exact HB.out | apply below_alloc | apply pw_below_drewN | apply below_drew1) | exact HB.out)) hb); clear HB; have HB := n0_; clear n0_; (try clear hb); (try clear hb2); (try clear hk); (try clear hi)) | ((with_reducible refine gate_dst (N := 5) rfl ?_); refine box_event ?hg (N := 5) ?hd (cs := #[.int .i64 0, .string (⟨#[]⟩ : ByteArray), .string (⟨#[]⟩ : ByteArray)]) (t := 27) ?hr ?_; (case hd => rfl); (case hg => rfl); (case hr => first | (go_simp; done) | (go_simp; rfl)); intro gb259 hg w7 hbox hb; have n0_ := Aside0.mk (below_step (by repeat (first | (with_reducible first | exact HB.out | apply below_alloc | apply pw_below_drewN | apply below_drew1) | exact HB.out)) hb); have n1_ := Aside0.mk (hbox); have n2_ := Aside0.mk ((by rw [hg]; exact (below_size (by repeat (first | (with_reducible first | exact HB.out | apply below_alloc | apply pw_below_drewN | apply below_drew1) | exact HB.out))) : w.heap.size ≤ gb259)); have n3_ := Aside0.mk ((by rw [hg]; exact (below_size (by repeat (first | (with_reducible first | exact HB.out | apply below_alloc | apply pw_below_drewN | apply below_drew1) | exact HB.out))) : w.heap.size ≤ gb259)); clear HB; have HB := n0_; have BK259 := n1_; have GW259 := n2_; have GE259 := n3_; clear n0_ n1_ n2_ n3_; clear hb hbox hg; have hcz8_0 : w7.cell? ⟨gb259, 0, none⟩ = some (.int .i64 0) := (blk_cell BK259.out 0).trans rfl; have hcz8_1 : w7.cell? ⟨gb259, 1, none⟩ = some (.string (⟨#[]⟩ : ByteArray)) := (blk_cell BK259.out 1).trans rfl; have hcz8_2 : w7.cell? ⟨gb259, 2, none⟩ = some (.string (⟨#[]⟩ : ByteArray)) := (blk_cell BK259.out 2).trans rfl; have hfz8_0 := blk_frozen BK259.out 0; have hfz8_1 := blk_frozen BK259.out 1; have hfz8_2 := blk_frozen BK259.out 2) | ((with_reducible refine gate_callee (f := 11) rfl ?_); refine goesL_ (some 16) rfl rfl Tryd.func11 (by kernel_rfl) rfl #[.string a1] rfl (by (try simp only [List.map_toArray, List.map_cons, List.map_nil]); first | done | rfl | (simp only [List.length_drop, List.length_take]; rfl)) ?_; (with_reducible refine (version_Parse.calls k a1 t260 t261 t262 t263 _ (by first | exact hG | exact GL.below hG (by repeat (first | (with_reducible first | exact HB.out | apply below_alloc | apply pw_below_drewN | apply below_drew1 | refine below_set ?_ GE259.out) | exact HB.out)))  A4.out).mono ?_); rintro e w9 ⟨rfl, hb⟩; refine ⟨_, rfl, ?_⟩; have n0_ := Aside0.mk (blk_below (g := gb259) (o := .cells #[.int .i64 t255, .string t256, .string t257] 27 (0, 0)) (by (with_reducible repeat (first | refine blk_drewN ?_ _ | refine blk_drew ?_ | refine blk_alloc ?_ _)); refine blk_put (cs := #[.int .i64 t255, .string t256, .string (⟨#[]⟩ : ByteArray)]) ?_ 2 _ rfl; (with_reducible repeat (first | refine blk_drewN ?_ _ | refine blk_drew ?_ | refine blk_alloc ?_ _)); refine blk_put (cs := #[.int .i64 t255, .string (⟨#[]⟩ : ByteArray), .string (⟨#[]⟩ : ByteArray)]) ?_ 1 _ rfl; (with_reducible repeat (first | refine blk_drewN ?_ _ | refine blk_drew ?_ | refine blk_alloc ?_ _)); refine blk_put (cs := #[.int .i64 0, .string (⟨#[]⟩ : ByteArray), .string (⟨#[]⟩ : ByteArray)]) ?_ 0 _ rfl; (with_reducible repeat (first | refine blk_drewN ?_ _ | refine blk_drew ?_ | refine blk_alloc ?_ _)); exact BK259.out) hb); have n1_ := Aside0.mk (below_step (by repeat (first | (with_reducible first | exact HB.out | apply below_alloc | apply pw_below_drewN | apply below_drew1 | refine below_set ?_ GE259.out) | exact HB.out)) hb); clear BK259; clear HB; have BK259 := n0_; have HB := n1_; clear n0_ n1_; (try clear hb); (try clear hb2); (try clear hk); (try clear hi)) | ((with_reducible refine gate_dst (N := 7) rfl ?_); refine box_event ?hg (N := 7) ?hd (cs := #[.int .i64 0, .string (⟨#[]⟩ : ByteArray), .string (⟨#[]⟩ : ByteArray)]) (t := 27) ?hr ?_; (case hd => rfl); (case hg => rfl); (case hr => first | (go_simp; done) | (go_simp; rfl)); intro gb264 hg w10 hbox hb; have n0_ := Aside0.mk (blk_below (g := gb259) (o := .cells #[.int .i64 t255, .string t256, .string t257] 27 (0, 0)) (by (with_reducible repeat (first | refine blk_drewN ?_ _ | refine blk_drew ?_ | refine blk_alloc ?_ _)); exact BK259.out) hb); have n1_ := Aside0.mk (below_step (by repeat (first | (with_reducible first | exact HB.out | apply below_alloc | apply pw_below_drewN | apply below_drew1 | refine below_set ?_ GE259.out) | exact HB.out)) hb); have n2_ := Aside0.mk (hbox); have n3_ := Aside0.mk ((by rw [hg]; exact (below_size (by repeat (first | (with_reducible first | exact HB.out | apply below_alloc | apply pw_below_drewN | apply below_drew1 | refine below_set ?_ GE259.out) | exact HB.out))) : w.heap.size ≤ gb264)); have n4_ := Aside0.mk ((by rw [hg]; exact (below_size (by repeat (first | (with_reducible first | exact HB.out | apply below_alloc | apply pw_below_drewN | apply below_drew1 | refine below_set ?_ GE259.out) | exact HB.out))) : w.heap.size ≤ gb264)); have n5_ := Aside0.mk ((by rw [hg]; exact Nat.ne_of_lt (blk_lt (g := gb259) (o := .cells #[.int .i64 t255, .string t256, .string t257] 27 (0, 0)) (by (with_reducible repeat (first | refine blk_drewN ?_ _ | refine blk_drew ?_ | refine blk_alloc ?_ _)); exact BK259.out)) : gb259 ≠ gb264)); have n6_ := Aside0.mk ((by rw [hg]; exact Nat.ne_of_gt (blk_lt (g := gb259) (o := .cells #[.int .i64 t255, .string t256, .string t257] 27 (0, 0)) (by (with_reducible repeat (first | refine blk_drewN ?_ _ | refine blk_drew ?_ | refine blk_alloc ?_ _)); exact BK259.out)) : gb264 ≠ gb259)); clear BK259; clear HB; have BK259 := n0_; have HB := n1_; have BK264 := n2_; have GW264 := n3_; have GE264 := n4_; have NB259_264 := n5_; have NB264_259 := n6_; clear n0_ n1_ n2_ n3_ n4_ n5_ n6_; clear hb hbox hg; have hnb11 := NB264_259.out; have hnc11 := NB259_264.out; have hcz12_0 : w10.cell? ⟨gb264, 0, none⟩ = some (.int .i64 0) := (blk_cell BK264.out 0).trans rfl; have hcz12_1 : w10.cell? ⟨gb264, 1, none⟩ = some (.string (⟨#[]⟩ : ByteArray)) := (blk_cell BK264.out 1).trans rfl; have hcz12_2 : w10.cell? ⟨gb264, 2, none⟩ = some (.string (⟨#[]⟩ : ByteArray)) := (blk_cell BK264.out 2).trans rfl; have hfz12_0 := blk_frozen BK264.out 0; have hfz12_1 := blk_frozen BK264.out 1; have hfz12_2 := blk_frozen BK264.out 2))
  (try simp only [Act.put, List.setIfInBounds_toArray, List.set_cons_zero, List.set_cons_succ])
  go_cut [19] (fun v19 wc => ∃ (kq : Nat) (x19_4 : Bool), v19 = .bool x19_4 ∧ Aside0 (version_Order.j0 kq t258 t263 x19_4 t255 t256 t257 t260 t261 t262 = some r) ∧ Aside0 (kq ≤ k) ∧ Aside0 (wc.heap[gb259]? = some (.cells #[.int .i64 t255, .string t256, .string t257] 27 (0, 0))) ∧ Aside0 (wc.heap[gb264]? = some (.cells #[.int .i64 t260, .string t261, .string t262] 27 (0, 0))) ∧ Aside0 (Below w.heap.size w wc))
  case first =>
    have H := HC5.out
    clear HC5
    by_cases c13 : t258 = 0
    · rw [if_pos c13] at H
      have c13b0 : (t258 == 0) = true := beq_iff_eq.mpr c13
      have c13b1 : (t258 != 0) = false := bne_eq_false_iff_eq.mpr c13
      clear c13
      (first | rw [c13b0] | (simp only [i64_w, i32_w]; rw [c13b0]) | skip)
      have H' := Aside0.mk H
      clear H
      go_wp2
      go_meet
      case rel => exact ⟨_, (false), (by first | rfl | (simp; done) | (simp [*]; done) | (simp [isEmpty_bne]; done)), H', ⟨by first | omega | exact Nat.le_refl _⟩, ⟨by (with_reducible repeat (first | refine blk_drewN ?_ _ | refine blk_drew ?_ | refine blk_alloc ?_ _)); refine blk_far ?_ NB259_264.out _; (with_reducible repeat (first | refine blk_drewN ?_ _ | refine blk_drew ?_ | refine blk_alloc ?_ _)); refine blk_far ?_ NB259_264.out _; (with_reducible repeat (first | refine blk_drewN ?_ _ | refine blk_drew ?_ | refine blk_alloc ?_ _)); refine blk_far ?_ NB259_264.out _; (with_reducible repeat (first | refine blk_drewN ?_ _ | refine blk_drew ?_ | refine blk_alloc ?_ _)); exact BK259.out⟩, ⟨by (with_reducible repeat (first | refine blk_drewN ?_ _ | refine blk_drew ?_ | refine blk_alloc ?_ _)); refine blk_put (cs := #[.int .i64 t260, .string t261, .string (⟨#[]⟩ : ByteArray)]) ?_ 2 _ rfl; (with_reducible repeat (first | refine blk_drewN ?_ _ | refine blk_drew ?_ | refine blk_alloc ?_ _)); refine blk_put (cs := #[.int .i64 t260, .string (⟨#[]⟩ : ByteArray), .string (⟨#[]⟩ : ByteArray)]) ?_ 1 _ rfl; (with_reducible repeat (first | refine blk_drewN ?_ _ | refine blk_drew ?_ | refine blk_alloc ?_ _)); refine blk_put (cs := #[.int .i64 0, .string (⟨#[]⟩ : ByteArray), .string (⟨#[]⟩ : ByteArray)]) ?_ 0 _ rfl; (with_reducible repeat (first | refine blk_drewN ?_ _ | refine blk_drew ?_ | refine blk_alloc ?_ _)); exact BK264.out⟩, ⟨by repeat (first | (with_reducible first | exact HB.out | apply below_alloc | apply pw_below_drewN | apply below_drew1 | refine below_set ?_ GE259.out | refine below_set ?_ GE264.out) | exact HB.out)⟩⟩
    · rw [if_neg c13] at H
      have c13b0 : (t258 == 0) = false := beq_eq_false_iff_ne.mpr c13
      have c13b1 : (t258 != 0) = true := bne_iff_ne.mpr c13
      (first | rw [c13b0] | (simp only [i64_w, i32_w]; rw [c13b0]) | skip)
      have H' := Aside0.mk H
      clear H
      go_wp2
      go_meet
      case rel => exact ⟨_, ((t263 != 0)), (by first | rfl | (simp; done) | (simp [*]; done) | (simp [isEmpty_bne]; done)), H', ⟨by first | omega | exact Nat.le_refl _⟩, ⟨by (with_reducible repeat (first | refine blk_drewN ?_ _ | refine blk_drew ?_ | refine blk_alloc ?_ _)); refine blk_far ?_ NB259_264.out _; (with_reducible repeat (first | refine blk_drewN ?_ _ | refine blk_drew ?_ | refine blk_alloc ?_ _)); refine blk_far ?_ NB259_264.out _; (with_reducible repeat (first | refine blk_drewN ?_ _ | refine blk_drew ?_ | refine blk_alloc ?_ _)); refine blk_far ?_ NB259_264.out _; (with_reducible repeat (first | refine blk_drewN ?_ _ | refine blk_drew ?_ | refine blk_alloc ?_ _)); exact BK259.out⟩, ⟨by (with_reducible repeat (first | refine blk_drewN ?_ _ | refine blk_drew ?_ | refine blk_alloc ?_ _)); refine blk_put (cs := #[.int .i64 t260, .string t261, .string (⟨#[]⟩ : ByteArray)]) ?_ 2 _ rfl; (with_reducible repeat (first | refine blk_drewN ?_ _ | refine blk_drew ?_ | refine blk_alloc ?_ _)); refine blk_put (cs := #[.int .i64 t260, .string (⟨#[]⟩ : ByteArray), .string (⟨#[]⟩ : ByteArray)]) ?_ 1 _ rfl; (with_reducible repeat (first | refine blk_drewN ?_ _ | refine blk_drew ?_ | refine blk_alloc ?_ _)); refine blk_put (cs := #[.int .i64 0, .string (⟨#[]⟩ : ByteArray), .string (⟨#[]⟩ : ByteArray)]) ?_ 0 _ rfl; (with_reducible repeat (first | refine blk_drewN ?_ _ | refine blk_drew ?_ | refine blk_alloc ?_ _)); exact BK264.out⟩, ⟨by repeat (first | (with_reducible first | exact HB.out | apply below_alloc | apply pw_below_drewN | apply below_drew1 | refine below_set ?_ GE259.out | refine below_set ?_ GE264.out) | exact HB.out)⟩⟩
  case rest =>
    clear HC5
    try clear c1
    try clear p2
    try clear c11
    try clear c13
    try clear c13b0
    try clear c13b1
    try clear hcz12_0
    try clear hcz12_1
    try clear hcz12_2
    try clear hcz8_0
    try clear hcz8_1
    try clear hcz8_2
    try clear hfz12_0
    try clear hfz12_1
    try clear hfz12_2
    try clear hfz8_0
    try clear hfz8_1
    try clear hfz8_2
    obtain ⟨kq, x19_4, rfl, HA, HJ4, BK259, BK264, HB⟩ := hcut
    cases kq with
    | zero => exact absurd HA.out (by simp [version_Order.j0])
    | succ kj4 =>
      have H := HA.out
      clear HA
      simp only [version_Order.j0] at H
      by_cases c14 : x19_4 = true
      · subst c14
        have H1 : (some 0) = some r := by rw [if_pos rfl] at H; exact H
        clear H
        have H := H1
        clear H1
        obtain rfl := Option.some.inj H
        go_wp2
        go_ret
        exact ⟨by first | rfl | (simp [errW_none, errW_some] <;> rfl) | (simp [*, errW_none, errW_some] <;> rfl), by repeat (first | (with_reducible first | exact HB.out | apply below_alloc | apply pw_below_drewN | apply below_drew1 | refine below_set ?_ GE259.out | refine below_set ?_ GE264.out) | exact HB.out)⟩
      · replace c14 := Bool.eq_false_iff.mpr c14
        subst c14
        have H1 : (if t258 = 0 then (if t263 = 0 then ((version_Compare.f kj4 t255 t256 t257 t260 t261 t262).bind fun t265 => (some t265)) else (some 1)) else (some (-1))) = some r := by rw [if_neg (show ¬ (false = true) by decide)] at H; exact H
        clear H
        have H := H1
        clear H1
        by_cases c15 : t258 = 0
        · rw [if_pos c15] at H
          have c15b0 : (t258 == 0) = true := beq_iff_eq.mpr c15
          have c15b1 : (t258 != 0) = false := bne_eq_false_iff_eq.mpr c15
          clear c15
          by_cases c16 : t263 = 0
          · rw [if_pos c16] at H
            have c16b0 : (t263 == 0) = true := beq_iff_eq.mpr c16
            have c16b1 : (t263 != 0) = false := bne_eq_false_iff_eq.mpr c16
            clear c16
            replace H := Option.bind_eq_some_iff.mp H
            obtain ⟨t265, A170, H⟩ := H
            replace H : (some t265) = some r := H
            have A17 := Aside0.mk A170
            clear A170
            obtain rfl := Option.some.inj H
            have hnb18 := NB259_264.out
            have hnc18 := NB264_259.out
            have hcz19_0 : wc.cell? ⟨gb259, 0, none⟩ = some (.int .i64 t255) := (blk_cell BK259.out 0).trans rfl
            have hcz19_1 : wc.cell? ⟨gb259, 1, none⟩ = some (.string t256) := (blk_cell BK259.out 1).trans rfl
            have hcz19_2 : wc.cell? ⟨gb259, 2, none⟩ = some (.string t257) := (blk_cell BK259.out 2).trans rfl
            have hfz19_0 := blk_frozen BK259.out 0
            have hfz19_1 := blk_frozen BK259.out 1
            have hfz19_2 := blk_frozen BK259.out 2
            have hcz20_0 : wc.cell? ⟨gb264, 0, none⟩ = some (.int .i64 t260) := (blk_cell BK264.out 0).trans rfl
            have hcz20_1 : wc.cell? ⟨gb264, 1, none⟩ = some (.string t261) := (blk_cell BK264.out 1).trans rfl
            have hcz20_2 : wc.cell? ⟨gb264, 2, none⟩ = some (.string t262) := (blk_cell BK264.out 2).trans rfl
            have hfz20_0 := blk_frozen BK264.out 0
            have hfz20_1 := blk_frozen BK264.out 1
            have hfz20_2 := blk_frozen BK264.out 2
            go_wp2_with (first | ((with_reducible refine gate_callee (f := 38) rfl ?_); refine goesL_ (some 34) rfl rfl Tryd.func38 (by kernel_rfl) rfl #[.agg #[.int .i64 t255, .string t256, .string t257], .agg #[.int .i64 t260, .string t261, .string t262]] rfl (by (try simp only [List.map_toArray, List.map_cons, List.map_nil]); first | done | rfl | (simp only [List.length_drop, List.length_take]; rfl)) ?_; (with_reducible refine (version_Compare.calls kj4 t255 t256 t257 t260 t261 t262 t265 _ (by first | exact hG | exact GL.below hG (by repeat (first | (with_reducible first | exact HB.out | apply below_alloc | apply pw_below_drewN | apply below_drew1 | refine below_set ?_ GE259.out | refine below_set ?_ GE264.out) | exact HB.out)))  A17.out).mono ?_); rintro e w21 ⟨rfl, hb⟩; refine ⟨_, rfl, ?_⟩; have n0_ := Aside0.mk (blk_below (g := gb259) (o := .cells #[.int .i64 t255, .string t256, .string t257] 27 (0, 0)) (by (with_reducible repeat (first | refine blk_drewN ?_ _ | refine blk_drew ?_ | refine blk_alloc ?_ _)); exact BK259.out) hb); have n1_ := Aside0.mk (blk_below (g := gb264) (o := .cells #[.int .i64 t260, .string t261, .string t262] 27 (0, 0)) (by (with_reducible repeat (first | refine blk_drewN ?_ _ | refine blk_drew ?_ | refine blk_alloc ?_ _)); exact BK264.out) hb); have n2_ := Aside0.mk (below_step (by repeat (first | (with_reducible first | exact HB.out | apply below_alloc | apply pw_below_drewN | apply below_drew1 | refine below_set ?_ GE259.out | refine below_set ?_ GE264.out) | exact HB.out)) hb); clear BK259; clear BK264; clear HB; have BK259 := n0_; have BK264 := n1_; have HB := n2_; clear n0_ n1_ n2_; (try clear hb); (try clear hb2); (try clear hk); (try clear hi)))
            go_ret
            exact ⟨by first | rfl | (simp [errW_none, errW_some] <;> rfl) | (simp [*, errW_none, errW_some] <;> rfl), by repeat (first | (with_reducible first | exact HB.out | apply below_alloc | apply pw_below_drewN | apply below_drew1 | refine below_set ?_ GE259.out | refine below_set ?_ GE264.out) | exact HB.out)⟩
          · rw [if_neg c16] at H
            have c16b0 : (t263 == 0) = false := beq_eq_false_iff_ne.mpr c16
            have c16b1 : (t263 != 0) = true := bne_iff_ne.mpr c16
            obtain rfl := Option.some.inj H
            go_wp2
            go_ret
            exact ⟨by first | rfl | (simp [errW_none, errW_some] <;> rfl) | (simp [*, errW_none, errW_some] <;> rfl), by repeat (first | (with_reducible first | exact HB.out | apply below_alloc | apply pw_below_drewN | apply below_drew1 | refine below_set ?_ GE259.out | refine below_set ?_ GE264.out) | exact HB.out)⟩
        · rw [if_neg c15] at H
          have c15b0 : (t258 == 0) = false := beq_eq_false_iff_ne.mpr c15
          have c15b1 : (t258 != 0) = true := bne_iff_ne.mpr c15
          obtain rfl := Option.some.inj H
          go_wp2
          go_ret
          exact ⟨by first | rfl | (simp [errW_none, errW_some] <;> rfl) | (simp [*, errW_none, errW_some] <;> rfl), by repeat (first | (with_reducible first | exact HB.out | apply below_alloc | apply pw_below_drewN | apply below_drew1 | refine below_set ?_ GE259.out | refine below_set ?_ GE264.out) | exact HB.out)⟩
end Go.Proofs.YtpjhaaifgiicoaaDoor.PA
