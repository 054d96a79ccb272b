
import Derived.Test.YtohijjobmmibcaaDoorPAx0
import Derived.Test.YtohijjobmmibcaaDoorPAx6
namespace Go.Proofs.YtohijjobmmibcaaDoor.PA
open Go.RowKit Go.Proofs.YtohijjobmmibcaaDoorW.PrintWords Go.Proofs.YtohijjobmmibcaaDoorW.PrintLast Go.Proofs.YtohijjobmmibcaaDoorW.PrintMore
attribute [local go_sem] max2_int min2_int max_two min_two max_three min_three max_four min_four
set_option linter.unusedVariables false
set_option linter.unusedSimpArgs false
def relation_Right.j0 : Nat → Bool → ByteArray → Int → ByteArray → Option (Bool)
  | 0, _, _, _, _ => none
  | k + 1, x3, x279000, x279001, x279002 => if x3 = true then (some false) else (if x279001 = 0 then (some (x279002.toList == ([] : List UInt8))) else ((relation_plain.f k x279002).bind fun t280 => (some t280)))
def relation_Right.f (k : Nat) (a0_0 : ByteArray) (a0_1 : Int) (a0_2 : ByteArray) : Option (Bool) := (relation_Name.f k a0_0).bind fun t279 => (if t279 = true then (if a0_1 < 0 then (relation_Right.j0 k true a0_0 a0_1 a0_2) else (relation_Right.j0 k (decide (a0_1 > 5)) a0_0 a0_1 a0_2)) else (relation_Right.j0 k true a0_0 a0_1 a0_2))
theorem relation_Right.mono_l : ∀ k, (∀ y0 y1 y2 y3, LeO (relation_Right.j0 k y0 y1 y2 y3) (relation_Right.j0 (k + 1) y0 y1 y2 y3))
  | 0 => fun _ _ _ _ r h => by simp [relation_Right.j0] at h
  | k + 1 => by
    have ih0 := relation_Right.mono_l k
    · intro y0 y1 y2 y3
      unfold relation_Right.j0
      repeat' first
      | (with_reducible exact ih0 _ _ _ _)
      | (with_reducible exact relation_Name.mono _ _)
      | (with_reducible exact relation_plain.mono _ _)
      | (with_reducible exact LeO.refl _)
      | (with_reducible exact LeO.none _)
      | (with_reducible refine LeO.ite ?_ ?_)
      | (with_reducible refine LeO.bind ?_ (fun _ => ?_))
      | exact ih0 _ _ _ _
      | exact relation_Name.mono _ _
      | exact relation_plain.mono _ _
      | exact LeO.none _
      | refine LeO.ite ?_ ?_
      | refine LeO.bind ?_ (fun _ => ?_)
theorem relation_Right.mono : ∀ a0 a1 a2 k, LeO (relation_Right.f k a0 a1 a2) (relation_Right.f (k + 1) a0 a1 a2) := by
  intro a0 a1 a2 k
  have ih0 := relation_Right.mono_l k
  unfold relation_Right.f
  repeat' first
      | (with_reducible exact ih0 _ _ _ _)
      | (with_reducible exact relation_Name.mono _ _)
      | (with_reducible exact relation_plain.mono _ _)
      | (with_reducible exact LeO.refl _)
      | (with_reducible exact LeO.none _)
      | (with_reducible refine LeO.ite ?_ ?_)
      | (with_reducible refine LeO.bind ?_ (fun _ => ?_))
      | exact ih0 _ _ _ _
      | exact relation_Name.mono _ _
      | exact relation_plain.mono _ _
      | exact LeO.none _
      | refine LeO.ite ?_ ?_
      | refine LeO.bind ?_ (fun _ => ?_)
set_option maxHeartbeats 8000000 in
set_option maxRecDepth 100000 in
theorem relation_Right.calls (k : Nat) (a0_0 : ByteArray) (a0_1 : Int) (a0_2 : ByteArray) (r : Bool) (w : World) (hG : GL w) (h : relation_Right.f k a0_0 a0_1 a0_2 = some r) :
    Calls Tryd.prog 20 #[.agg #[.string a0_0, .int .i64 a0_1, .string a0_2]] w fun e w' => e = .returned (.bool r) ∧ Below w.heap.size w w' := by
  have hu26 := Tryd.underlying26
  have HB := Aside0.mk (Below.refl w.heap.size w)
  have H : ((relation_Name.f k a0_0).bind fun t279 => (if t279 = true then (if a0_1 < 0 then (relation_Right.j0 k true a0_0 a0_1 a0_2) else (relation_Right.j0 k (decide (a0_1 > 5)) a0_0 a0_1 a0_2)) else (relation_Right.j0 k true a0_0 a0_1 a0_2))) = some r := h
  clear h
  have HC2 := Aside0.mk H
  clear H
  go_enter Tryd.func20, Tryd.ntmps20
  go_upto_region 1 with (first | ((with_reducible refine gate_dst (N := 1) rfl ?_); refine box_event ?hg (N := 1) ?hd (cs := #[.string a0_0, .int .i64 a0_1, .string a0_2]) (t := 26) ?hr ?_; (case hd => rfl); (case hg => rfl); (case hr => first | (go_simp; done) | (go_simp; rfl)); intro gb278 hg w3 hbox hb; have n0_ := Aside0.mk (qal (by repeat (first | (with_reducible first | exact HB.out | apply qaf | apply qaa | apply qag) | exact HB.out)) hb); have n1_ := Aside0.mk (hbox); have n2_ := Aside0.mk ((by rw [hg]; exact (qao (by repeat (first | (with_reducible first | exact HB.out | apply qaf | apply qaa | apply qag) | exact HB.out))) : w.heap.size ≤ gb278)); have n3_ := Aside0.mk ((by rw [hg]; exact (qao (by repeat (first | (with_reducible first | exact HB.out | apply qaf | apply qaa | apply qag) | exact HB.out))) : w.heap.size ≤ gb278)); clear HB; have HB := n0_; have BK278 := n1_; have GW278 := n2_; have GE278 := n3_; clear n0_ n1_ n2_ n3_; clear hb hbox hg))
  (try simp only [Act.put, List.setIfInBounds_toArray, List.set_cons_zero, List.set_cons_succ])
  go_cut [3] (fun v3 wc => ∃ (kq : Nat) (x3_1 : Bool), v3 = .bool x3_1 ∧ Aside0 (relation_Right.j0 kq x3_1 a0_0 a0_1 a0_2 = some r) ∧ Aside0 (kq ≤ k) ∧ Aside0 (wc.heap[gb278]? = some (.cells #[.string a0_0, .int .i64 a0_1, .string a0_2] 26 (0, 0))) ∧ Aside0 (Below w.heap.size w wc))
  case first =>
    have H := HC2.out
    clear HC2
    replace H := Option.bind_eq_some_iff.mp H
    obtain ⟨t279, A40, H⟩ := H
    replace H : (if t279 = true then (if a0_1 < 0 then (relation_Right.j0 k true a0_0 a0_1 a0_2) else (relation_Right.j0 k (decide (a0_1 > 5)) a0_0 a0_1 a0_2)) else (relation_Right.j0 k true a0_0 a0_1 a0_2)) = some r := H
    have A4 := Aside0.mk A40
    clear A40
    by_cases c5 : t279 = true
    · subst c5
      have H1 : (if a0_1 < 0 then (relation_Right.j0 k true a0_0 a0_1 a0_2) else (relation_Right.j0 k (decide (a0_1 > 5)) a0_0 a0_1 a0_2)) = some r := by rw [if_pos rfl] at H; exact H
      clear H
      have H := H1
      clear H1
      by_cases c6 : a0_1 < 0
      · rw [if_pos c6] at H
        have c6b0 : decide (a0_1 < 0) = true := decide_eq_true c6
        clear c6
        (first | rw [c6b0] | (simp only [i64_w, i32_w]; rw [c6b0]) | skip)
        have H' := Aside0.mk H
        clear H
        have hcz7_0 : w3.cell? ⟨gb278, 0, none⟩ = some (.string a0_0) := (qai BK278.out 0).trans rfl
        have hcz7_1 : w3.cell? ⟨gb278, 1, none⟩ = some (.int .i64 a0_1) := (qai BK278.out 1).trans rfl
        have hcz7_2 : w3.cell? ⟨gb278, 2, none⟩ = some (.string a0_2) := (qai BK278.out 2).trans rfl
        have hfz7_0 := qah BK278.out 0
        have hfz7_1 := qah BK278.out 1
        have hfz7_2 := qah BK278.out 2
        go_wp2_with (first | ((with_reducible refine qak (f := 14) rfl ?_); refine goesL_ (some 6) rfl rfl Tryd.func14 (by kernel_rfl) rfl #[.string a0_0] rfl (by (try simp only [List.map_toArray, List.map_cons, List.map_nil]); first | done | rfl | (simp only [List.length_drop, List.length_take]; rfl)) ?_; (with_reducible refine (relation_Name.calls k a0_0 true _ (by first | exact hG | exact GL.below hG (by repeat (first | (with_reducible first | exact HB.out | apply qaf | apply qaa | apply qag | refine qad ?_ GE278.out) | exact HB.out)))  A4.out).mono ?_); rintro e w8 ⟨rfl, hb⟩; refine ⟨_, rfl, ?_⟩; have n0_ := Aside0.mk (qaj (g := gb278) (o := .cells #[.string a0_0, .int .i64 a0_1, .string a0_2] 26 (0, 0)) (by (with_reducible repeat (first | refine qac ?_ _ | refine qae ?_ | refine qab ?_ _)); exact BK278.out) hb); have n1_ := Aside0.mk (qal (by repeat (first | (with_reducible first | exact HB.out | apply qaf | apply qaa | apply qag | refine qad ?_ GE278.out) | exact HB.out)) hb); clear BK278; clear HB; have BK278 := n0_; have HB := n1_; clear n0_ n1_; (try clear hb); (try clear hb2); (try clear hk); (try clear hi); have hcz9_0 : w8.cell? ⟨gb278, 0, none⟩ = some (.string a0_0) := (qai BK278.out 0).trans rfl; have hcz9_1 : w8.cell? ⟨gb278, 1, none⟩ = some (.int .i64 a0_1) := (qai BK278.out 1).trans rfl; have hcz9_2 : w8.cell? ⟨gb278, 2, none⟩ = some (.string a0_2) := (qai BK278.out 2).trans rfl; have hfz9_0 := qah BK278.out 0; have hfz9_1 := qah BK278.out 1; have hfz9_2 := qah BK278.out 2))
        go_meet
        case rel => exact ⟨_, (true), (by first | rfl | (simp; done) | (simp [*]; done) | (simp [qap]; done)), H', ⟨by first | omega | exact Nat.le_refl _⟩, ⟨by (with_reducible repeat (first | refine qac ?_ _ | refine qae ?_ | refine qab ?_ _)); exact BK278.out⟩, ⟨by repeat (first | (with_reducible first | exact HB.out | apply qaf | apply qaa | apply qag | refine qad ?_ GE278.out) | exact HB.out)⟩⟩
      · rw [if_neg c6] at H
        have c6b0 : decide (a0_1 < 0) = false := decide_eq_false c6
        clear c6
        (first | rw [c6b0] | (simp only [i64_w, i32_w]; rw [c6b0]) | skip)
        have H' := Aside0.mk H
        clear H
        have hcz10_0 : w3.cell? ⟨gb278, 0, none⟩ = some (.string a0_0) := (qai BK278.out 0).trans rfl
        have hcz10_1 : w3.cell? ⟨gb278, 1, none⟩ = some (.int .i64 a0_1) := (qai BK278.out 1).trans rfl
        have hcz10_2 : w3.cell? ⟨gb278, 2, none⟩ = some (.string a0_2) := (qai BK278.out 2).trans rfl
        have hfz10_0 := qah BK278.out 0
        have hfz10_1 := qah BK278.out 1
        have hfz10_2 := qah BK278.out 2
        go_wp2_with (first | ((with_reducible refine qak (f := 14) rfl ?_); refine goesL_ (some 6) rfl rfl Tryd.func14 (by kernel_rfl) rfl #[.string a0_0] rfl (by (try simp only [List.map_toArray, List.map_cons, List.map_nil]); first | done | rfl | (simp only [List.length_drop, List.length_take]; rfl)) ?_; (with_reducible refine (relation_Name.calls k a0_0 true _ (by first | exact hG | exact GL.below hG (by repeat (first | (with_reducible first | exact HB.out | apply qaf | apply qaa | apply qag | refine qad ?_ GE278.out) | exact HB.out)))  A4.out).mono ?_); rintro e w11 ⟨rfl, hb⟩; refine ⟨_, rfl, ?_⟩; have n0_ := Aside0.mk (qaj (g := gb278) (o := .cells #[.string a0_0, .int .i64 a0_1, .string a0_2] 26 (0, 0)) (by (with_reducible repeat (first | refine qac ?_ _ | refine qae ?_ | refine qab ?_ _)); exact BK278.out) hb); have n1_ := Aside0.mk (qal (by repeat (first | (with_reducible first | exact HB.out | apply qaf | apply qaa | apply qag | refine qad ?_ GE278.out) | exact HB.out)) hb); clear BK278; clear HB; have BK278 := n0_; have HB := n1_; clear n0_ n1_; (try clear hb); (try clear hb2); (try clear hk); (try clear hi); have hcz12_0 : w11.cell? ⟨gb278, 0, none⟩ = some (.string a0_0) := (qai BK278.out 0).trans rfl; have hcz12_1 : w11.cell? ⟨gb278, 1, none⟩ = some (.int .i64 a0_1) := (qai BK278.out 1).trans rfl; have hcz12_2 : w11.cell? ⟨gb278, 2, none⟩ = some (.string a0_2) := (qai BK278.out 2).trans rfl; have hfz12_0 := qah BK278.out 0; have hfz12_1 := qah BK278.out 1; have hfz12_2 := qah BK278.out 2))
        go_meet
        case rel => exact ⟨_, (decide (a0_1 > 5)), (by first | rfl | (simp; done) | (simp [*]; done) | (simp [qap]; done)), H', ⟨by first | omega | exact Nat.le_refl _⟩, ⟨by (with_reducible repeat (first | refine qac ?_ _ | refine qae ?_ | refine qab ?_ _)); exact BK278.out⟩, ⟨by repeat (first | (with_reducible first | exact HB.out | apply qaf | apply qaa | apply qag | refine qad ?_ GE278.out) | exact HB.out)⟩⟩
    · replace c5 := Bool.eq_false_iff.mpr c5
      subst c5
      have H1 : (relation_Right.j0 k true a0_0 a0_1 a0_2) = some r := by rw [if_neg (show ¬ (false = true) by decide)] at H; exact H
      clear H
      have H := H1
      clear H1
      have H' := Aside0.mk H
      clear H
      have hcz13_0 : w3.cell? ⟨gb278, 0, none⟩ = some (.string a0_0) := (qai BK278.out 0).trans rfl
      have hcz13_1 : w3.cell? ⟨gb278, 1, none⟩ = some (.int .i64 a0_1) := (qai BK278.out 1).trans rfl
      have hcz13_2 : w3.cell? ⟨gb278, 2, none⟩ = some (.string a0_2) := (qai BK278.out 2).trans rfl
      have hfz13_0 := qah BK278.out 0
      have hfz13_1 := qah BK278.out 1
      have hfz13_2 := qah BK278.out 2
      go_wp2_with (first | ((with_reducible refine qak (f := 14) rfl ?_); refine goesL_ (some 6) rfl rfl Tryd.func14 (by kernel_rfl) rfl #[.string a0_0] rfl (by (try simp only [List.map_toArray, List.map_cons, List.map_nil]); first | done | rfl | (simp only [List.length_drop, List.length_take]; rfl)) ?_; (with_reducible refine (relation_Name.calls k a0_0 false _ (by first | exact hG | exact GL.below hG (by repeat (first | (with_reducible first | exact HB.out | apply qaf | apply qaa | apply qag | refine qad ?_ GE278.out) | exact HB.out)))  A4.out).mono ?_); rintro e w14 ⟨rfl, hb⟩; refine ⟨_, rfl, ?_⟩; have n0_ := Aside0.mk (qaj (g := gb278) (o := .cells #[.string a0_0, .int .i64 a0_1, .string a0_2] 26 (0, 0)) (by (with_reducible repeat (first | refine qac ?_ _ | refine qae ?_ | refine qab ?_ _)); exact BK278.out) hb); have n1_ := Aside0.mk (qal (by repeat (first | (with_reducible first | exact HB.out | apply qaf | apply qaa | apply qag | refine qad ?_ GE278.out) | exact HB.out)) hb); clear BK278; clear HB; have BK278 := n0_; have HB := n1_; clear n0_ n1_; (try clear hb); (try clear hb2); (try clear hk); (try clear hi)))
      go_meet
      case rel => exact ⟨_, (true), (by first | rfl | (simp; done) | (simp [*]; done) | (simp [qap]; done)), H', ⟨by first | omega | exact Nat.le_refl _⟩, ⟨by (with_reducible repeat (first | refine qac ?_ _ | refine qae ?_ | refine qab ?_ _)); exact BK278.out⟩, ⟨by repeat (first | (with_reducible first | exact HB.out | apply qaf | apply qaa | apply qag | refine qad ?_ GE278.out) | exact HB.out)⟩⟩
  case rest =>
    clear HC2
    try clear c1
    try clear c2
    try clear p2
    try clear c5
    try clear c6
    try clear c6b0
    try clear c14
    try clear hcz10_0
    try clear hcz10_1
    try clear hcz10_2
    try clear hcz12_0
    try clear hcz12_1
    try clear hcz12_2
    try clear hcz13_0
    try clear hcz13_1
    try clear hcz13_2
    try clear hcz7_0
    try clear hcz7_1
    try clear hcz7_2
    try clear hcz9_0
    try clear hcz9_1
    try clear hcz9_2
    try clear hfz10_0
    try clear hfz10_1
    try clear hfz10_2
    try clear hfz12_0
    try clear hfz12_1
    try clear hfz12_2
    try clear hfz13_0
    try clear hfz13_1
    try clear hfz13_2
    try clear hfz7_0
    try clear hfz7_1
    try clear hfz7_2
    try clear hfz9_0
    try clear hfz9_1
    try clear hfz9_2
    obtain ⟨kq, x3_1, rfl, HA, HJ1, BK278, HB⟩ := hcut
    cases kq with
    | zero => exact absurd HA.out (by simp [relation_Right.j0])
    | succ kj1 =>
      have H := HA.out
      clear HA
      simp only [relation_Right.j0] at H
      by_cases c15 : x3_1 = true
      · subst c15
        have H1 : (some false) = some r := by rw [if_pos rfl] at H; exact H
        clear H
        have H := H1
        clear H1
        obtain rfl := Option.some.inj H
        go_wp2
        go_ret
        exact ⟨by first | rfl | (simp [qam, qan] <;> rfl) | (simp [*, qam, qan] <;> rfl), by repeat (first | (with_reducible first | exact HB.out | apply qaf | apply qaa | apply qag | refine qad ?_ GE278.out) | exact HB.out)⟩
      · replace c15 := Bool.eq_false_iff.mpr c15
        subst c15
        have H1 : (if a0_1 = 0 then (some (a0_2.toList == ([] : List UInt8))) else ((relation_plain.f kj1 a0_2).bind fun t280 => (some t280))) = some r := by rw [if_neg (show ¬ (false = true) by decide)] at H; exact H
        clear H
        have H := H1
        clear H1
        by_cases c16 : a0_1 = 0
        · rw [if_pos c16] at H
          have c16b0 : (a0_1 == 0) = true := beq_iff_eq.mpr c16
          have c16b1 : (a0_1 != 0) = false := bne_eq_false_iff_eq.mpr c16
          clear c16
          obtain rfl := Option.some.inj H
          have hcz17_0 : wc.cell? ⟨gb278, 0, none⟩ = some (.string a0_0) := (qai BK278.out 0).trans rfl
          have hcz17_1 : wc.cell? ⟨gb278, 1, none⟩ = some (.int .i64 a0_1) := (qai BK278.out 1).trans rfl
          have hcz17_2 : wc.cell? ⟨gb278, 2, none⟩ = some (.string a0_2) := (qai BK278.out 2).trans rfl
          have hfz17_0 := qah BK278.out 0
          have hfz17_1 := qah BK278.out 1
          have hfz17_2 := qah BK278.out 2
          go_wp2
          go_ret
          exact ⟨by first | rfl | (simp [qam, qan] <;> rfl) | (simp [*, qam, qan] <;> rfl), by repeat (first | (with_reducible first | exact HB.out | apply qaf | apply qaa | apply qag | refine qad ?_ GE278.out) | exact HB.out)⟩
        · rw [if_neg c16] at H
          have c16b0 : (a0_1 == 0) = false := beq_eq_false_iff_ne.mpr c16
          have c16b1 : (a0_1 != 0) = true := bne_iff_ne.mpr c16
          replace H := Option.bind_eq_some_iff.mp H
          obtain ⟨t280, A180, H⟩ := H
          replace H : (some t280) = some r := H
          have A18 := Aside0.mk A180
          clear A180
          obtain rfl := Option.some.inj H
          have hcz19_0 : wc.cell? ⟨gb278, 0, none⟩ = some (.string a0_0) := (qai BK278.out 0).trans rfl
          have hcz19_1 : wc.cell? ⟨gb278, 1, none⟩ = some (.int .i64 a0_1) := (qai BK278.out 1).trans rfl
          have hcz19_2 : wc.cell? ⟨gb278, 2, none⟩ = some (.string a0_2) := (qai BK278.out 2).trans rfl
          have hfz19_0 := qah BK278.out 0
          have hfz19_1 := qah BK278.out 1
          have hfz19_2 := qah BK278.out 2
          go_wp2_with (first | ((with_reducible refine qak (f := 31) rfl ?_); refine goesL_ (some 27) rfl rfl Tryd.func31 (by kernel_rfl) rfl #[.string a0_2] rfl (by (try simp only [List.map_toArray, List.map_cons, List.map_nil]); first | done | rfl | (simp only [List.length_drop, List.length_take]; rfl)) ?_; (with_reducible refine (relation_plain.calls kj1 a0_2 t280 _ (by first | exact hG | exact GL.below hG (by repeat (first | (with_reducible first | exact HB.out | apply qaf | apply qaa | apply qag | refine qad ?_ GE278.out) | exact HB.out)))  A18.out).mono ?_); rintro e w20 ⟨rfl, hb⟩; refine ⟨_, rfl, ?_⟩; have n0_ := Aside0.mk (qaj (g := gb278) (o := .cells #[.string a0_0, .int .i64 a0_1, .string a0_2] 26 (0, 0)) (by (with_reducible repeat (first | refine qac ?_ _ | refine qae ?_ | refine qab ?_ _)); exact BK278.out) hb); have n1_ := Aside0.mk (qal (by repeat (first | (with_reducible first | exact HB.out | apply qaf | apply qaa | apply qag | refine qad ?_ GE278.out) | exact HB.out)) hb); clear BK278; clear HB; have BK278 := n0_; have HB := n1_; clear n0_ n1_; (try clear hb); (try clear hb2); (try clear hk); (try clear hi)))
          go_ret
          exact ⟨by first | rfl | (simp [qam, qan] <;> rfl) | (simp [*, qam, qan] <;> rfl), by repeat (first | (with_reducible first | exact HB.out | apply qaf | apply qaa | apply qag | refine qad ?_ GE278.out) | exact HB.out)⟩
def relation_Print.f (k : Nat) (a0_0 : ByteArray) (a0_1 : Int) (a0_2 : ByteArray) : Option (ByteArray) := (relation_Right.f k a0_0 a0_1 a0_2).bind fun t282 => (if t282 = true then (if a0_1 = 0 then (some a0_0) else (if a0_0.size + 2 ≤ 9223372036854775807 then ((relation_Sign.f a0_1).bind fun t283 => (if (a0_0 ++ (⟨#[32, 40]⟩ : ByteArray)).size + t283.size ≤ 9223372036854775807 then (if ((a0_0 ++ (⟨#[32, 40]⟩ : ByteArray)) ++ t283).size + 1 ≤ 9223372036854775807 then (if (((a0_0 ++ (⟨#[32, 40]⟩ : ByteArray)) ++ t283) ++ (⟨#[32]⟩ : ByteArray)).size + a0_2.size ≤ 9223372036854775807 then (if ((((a0_0 ++ (⟨#[32, 40]⟩ : ByteArray)) ++ t283) ++ (⟨#[32]⟩ : ByteArray)) ++ a0_2).size + 1 ≤ 9223372036854775807 then (some (((((a0_0 ++ (⟨#[32, 40]⟩ : ByteArray)) ++ t283) ++ (⟨#[32]⟩ : ByteArray)) ++ a0_2) ++ (⟨#[41]⟩ : ByteArray))) else (none)) else (none)) else (none)) else (none))) else (none))) else (some (⟨#[]⟩ : ByteArray)))
theorem relation_Print.mono : ∀ a0 a1 a2 k, LeO (relation_Print.f k a0 a1 a2) (relation_Print.f (k + 1) a0 a1 a2) := by
  intro a0 a1 a2 k
  unfold relation_Print.f
  repeat' first
      | (with_reducible exact relation_Right.mono _ _ _ _)
      | (with_reducible exact LeO.refl _)
      | (with_reducible exact LeO.none _)
      | (with_reducible refine LeO.ite ?_ ?_)
      | (with_reducible refine LeO.bind ?_ (fun _ => ?_))
      | exact relation_Right.mono _ _ _ _
      | exact LeO.none _
      | refine LeO.ite ?_ ?_
      | refine LeO.bind ?_ (fun _ => ?_)
def relation_Print.T5 : Bool × List (List Nat × List Nat) := (true, [([], []), ([0], [0]), ([1], [1]), ([], []), ([3], [3]), ([4], [4]), ([2, 5], [2, 5]), ([6], [6]), ([], []), ([8], [8]), ([7, 9], [7, 9]), ([10], [10]), ([11, 5, 0, 1, 2, 3, 4, 5, 6, 7, 8, 9, 10, 11], [11])])
def relation_Print.B5 : List Nat := [0, 1, 3, 0, 8, 24, 63, 127, 0, 256, 1023, 2047, 4095]
theorem relation_Print.tab5 : rtab .any (opsOf Tryd.f19 5) = relation_Print.T5 := by kernel_rfl
theorem relation_Print.bits5 : waitsOk relation_Print.T5.2 relation_Print.B5 = true := by kernel_rfl
set_option maxHeartbeats 8000000 in
set_option maxRecDepth 100000 in
theorem relation_Print.calls (k : Nat) (a0_0 : ByteArray) (a0_1 : Int) (a0_2 : ByteArray) (r : ByteArray) (w : World) (hG : GL w) (h : relation_Print.f k a0_0 a0_1 a0_2 = some r) :
    Calls Tryd.prog 19 #[.agg #[.string a0_0, .int .i64 a0_1, .string a0_2]] w fun e w' => e = .returned (.string r) ∧ Below w.heap.size w w' := by
  have hu26 := Tryd.underlying26
  have HB := Aside0.mk (Below.refl w.heap.size w)
  have H : ((relation_Right.f k a0_0 a0_1 a0_2).bind fun t282 => (if t282 = true then (if a0_1 = 0 then (some a0_0) else (if a0_0.size + 2 ≤ 9223372036854775807 then ((relation_Sign.f a0_1).bind fun t283 => (if (a0_0 ++ (⟨#[32, 40]⟩ : ByteArray)).size + t283.size ≤ 9223372036854775807 then (if ((a0_0 ++ (⟨#[32, 40]⟩ : ByteArray)) ++ t283).size + 1 ≤ 9223372036854775807 then (if (((a0_0 ++ (⟨#[32, 40]⟩ : ByteArray)) ++ t283) ++ (⟨#[32]⟩ : ByteArray)).size + a0_2.size ≤ 9223372036854775807 then (if ((((a0_0 ++ (⟨#[32, 40]⟩ : ByteArray)) ++ t283) ++ (⟨#[32]⟩ : ByteArray)) ++ a0_2).size + 1 ≤ 9223372036854775807 then (some (((((a0_0 ++ (⟨#[32, 40]⟩ : ByteArray)) ++ t283) ++ (⟨#[32]⟩ : ByteArray)) ++ a0_2) ++ (⟨#[41]⟩ : ByteArray))) else (none)) else (none)) else (none)) else (none))) else (none))) else (some (⟨#[]⟩ : ByteArray)))) = some r := h
  clear h
  replace H := Option.bind_eq_some_iff.mp H
  obtain ⟨t282, A20, H⟩ := H
  replace H : (if t282 = true then (if a0_1 = 0 then (some a0_0) else (if a0_0.size + 2 ≤ 9223372036854775807 then ((relation_Sign.f a0_1).bind fun t283 => (if (a0_0 ++ (⟨#[32, 40]⟩ : ByteArray)).size + t283.size ≤ 9223372036854775807 then (if ((a0_0 ++ (⟨#[32, 40]⟩ : ByteArray)) ++ t283).size + 1 ≤ 9223372036854775807 then (if (((a0_0 ++ (⟨#[32, 40]⟩ : ByteArray)) ++ t283) ++ (⟨#[32]⟩ : ByteArray)).size + a0_2.size ≤ 9223372036854775807 then (if ((((a0_0 ++ (⟨#[32, 40]⟩ : ByteArray)) ++ t283) ++ (⟨#[32]⟩ : ByteArray)) ++ a0_2).size + 1 ≤ 9223372036854775807 then (some (((((a0_0 ++ (⟨#[32, 40]⟩ : ByteArray)) ++ t283) ++ (⟨#[32]⟩ : ByteArray)) ++ a0_2) ++ (⟨#[41]⟩ : ByteArray))) else (none)) else (none)) else (none)) else (none))) else (none))) else (some (⟨#[]⟩ : ByteArray))) = some r := H
  have A2 := Aside0.mk A20
  clear A20
  by_cases c3 : t282 = true
  · subst c3
    have H1 : (if a0_1 = 0 then (some a0_0) else (if a0_0.size + 2 ≤ 9223372036854775807 then ((relation_Sign.f a0_1).bind fun t283 => (if (a0_0 ++ (⟨#[32, 40]⟩ : ByteArray)).size + t283.size ≤ 9223372036854775807 then (if ((a0_0 ++ (⟨#[32, 40]⟩ : ByteArray)) ++ t283).size + 1 ≤ 9223372036854775807 then (if (((a0_0 ++ (⟨#[32, 40]⟩ : ByteArray)) ++ t283) ++ (⟨#[32]⟩ : ByteArray)).size + a0_2.size ≤ 9223372036854775807 then (if ((((a0_0 ++ (⟨#[32, 40]⟩ : ByteArray)) ++ t283) ++ (⟨#[32]⟩ : ByteArray)) ++ a0_2).size + 1 ≤ 9223372036854775807 then (some (((((a0_0 ++ (⟨#[32, 40]⟩ : ByteArray)) ++ t283) ++ (⟨#[32]⟩ : ByteArray)) ++ a0_2) ++ (⟨#[41]⟩ : ByteArray))) else (none)) else (none)) else (none)) else (none))) else (none))) = some r := by rw [if_pos rfl] at H; exact H
    clear H
    have H := H1
    clear H1
    by_cases c4 : a0_1 = 0
    · rw [if_pos c4] at H
      have c4b0 : (a0_1 == 0) = true := beq_iff_eq.mpr c4
      have c4b1 : (a0_1 != 0) = false := bne_eq_false_iff_eq.mpr c4
      clear c4
      obtain rfl := Option.some.inj H
      go_enter Tryd.func19, Tryd.ntmps19
      go_wp2_with (first | ((with_reducible refine gate_dst (N := 1) rfl ?_); refine box_event ?hg (N := 1) ?hd (cs := #[.string a0_0, .int .i64 a0_1, .string a0_2]) (t := 26) ?hr ?_; (case hd => rfl); (case hg => rfl); (case hr => first | (go_simp; done) | (go_simp; rfl)); intro gb281 hg w5 hbox hb; have n0_ := Aside0.mk (qal (by repeat (first | (with_reducible first | exact HB.out | apply qaf | apply qaa | apply qag) | exact HB.out)) hb); have n1_ := Aside0.mk (hbox); have n2_ := Aside0.mk ((by rw [hg]; exact (qao (by repeat (first | (with_reducible first | exact HB.out | apply qaf | apply qaa | apply qag) | exact HB.out))) : w.heap.size ≤ gb281)); have n3_ := Aside0.mk ((by rw [hg]; exact (qao (by repeat (first | (with_reducible first | exact HB.out | apply qaf | apply qaa | apply qag) | exact HB.out))) : w.heap.size ≤ gb281)); clear HB; have HB := n0_; have BK281 := n1_; have GW281 := n2_; have GE281 := n3_; clear n0_ n1_ n2_ n3_; clear hb hbox hg; have hcz6_0 : w5.cell? ⟨gb281, 0, none⟩ = some (.string a0_0) := (qai BK281.out 0).trans rfl; have hcz6_1 : w5.cell? ⟨gb281, 1, none⟩ = some (.int .i64 a0_1) := (qai BK281.out 1).trans rfl; have hcz6_2 : w5.cell? ⟨gb281, 2, none⟩ = some (.string a0_2) := (qai BK281.out 2).trans rfl; have hfz6_0 := qah BK281.out 0; have hfz6_1 := qah BK281.out 1; have hfz6_2 := qah BK281.out 2) | ((with_reducible refine qak (f := 20) rfl ?_); refine goesL_ (some 5) rfl rfl Tryd.func20 (by kernel_rfl) rfl #[.agg #[.string a0_0, .int .i64 a0_1, .string a0_2]] rfl (by (try simp only [List.map_toArray, List.map_cons, List.map_nil]); first | done | rfl | (simp only [List.length_drop, List.length_take]; rfl)) ?_; (with_reducible refine (relation_Right.calls k a0_0 a0_1 a0_2 true _ (by first | exact hG | exact GL.below hG (by repeat (first | (with_reducible first | exact HB.out | apply qaf | apply qaa | apply qag | refine qad ?_ GE281.out) | exact HB.out)))  A2.out).mono ?_); rintro e w7 ⟨rfl, hb⟩; refine ⟨_, rfl, ?_⟩; have n0_ := Aside0.mk (qaj (g := gb281) (o := .cells #[.string a0_0, .int .i64 a0_1, .string a0_2] 26 (0, 0)) (by (with_reducible repeat (first | refine qac ?_ _ | refine qae ?_ | refine qab ?_ _)); exact BK281.out) hb); have n1_ := Aside0.mk (qal (by repeat (first | (with_reducible first | exact HB.out | apply qaf | apply qaa | apply qag | refine qad ?_ GE281.out) | exact HB.out)) hb); clear BK281; clear HB; have BK281 := n0_; have HB := n1_; clear n0_ n1_; (try clear hb); (try clear hb2); (try clear hk); (try clear hi); have hcz8_0 : w7.cell? ⟨gb281, 0, none⟩ = some (.string a0_0) := (qai BK281.out 0).trans rfl; have hcz8_1 : w7.cell? ⟨gb281, 1, none⟩ = some (.int .i64 a0_1) := (qai BK281.out 1).trans rfl; have hcz8_2 : w7.cell? ⟨gb281, 2, none⟩ = some (.string a0_2) := (qai BK281.out 2).trans rfl; have hfz8_0 := qah BK281.out 0; have hfz8_1 := qah BK281.out 1; have hfz8_2 := qah BK281.out 2))
      go_ret
      exact ⟨by first | rfl | (simp [qam, qan] <;> rfl) | (simp [*, qam, qan] <;> rfl), by repeat (first | (with_reducible first | exact HB.out | apply qaf | apply qaa | apply qag | refine qad ?_ GE281.out) | exact HB.out)⟩
    · rw [if_neg c4] at H
      have c4b0 : (a0_1 == 0) = false := beq_eq_false_iff_ne.mpr c4
      have c4b1 : (a0_1 != 0) = true := bne_iff_ne.mpr c4
      by_cases c9 : a0_0.size + 2 ≤ 9223372036854775807
      · rw [if_pos c9] at H
        have c9b0 := eq_true c9
        have c9b1 : decide (a0_0.size + 2 ≤ 9223372036854775807) = true := decide_eq_true c9
        try have c9b2 : (9223372036854775807 < a0_0.size + 2) = False := eq_false (Nat.not_lt.2 c9)
        replace H := Option.bind_eq_some_iff.mp H
        obtain ⟨t283, A100, H⟩ := H
        replace H : (if (a0_0 ++ (⟨#[32, 40]⟩ : ByteArray)).size + t283.size ≤ 9223372036854775807 then (if ((a0_0 ++ (⟨#[32, 40]⟩ : ByteArray)) ++ t283).size + 1 ≤ 9223372036854775807 then (if (((a0_0 ++ (⟨#[32, 40]⟩ : ByteArray)) ++ t283) ++ (⟨#[32]⟩ : ByteArray)).size + a0_2.size ≤ 9223372036854775807 then (if ((((a0_0 ++ (⟨#[32, 40]⟩ : ByteArray)) ++ t283) ++ (⟨#[32]⟩ : ByteArray)) ++ a0_2).size + 1 ≤ 9223372036854775807 then (some (((((a0_0 ++ (⟨#[32, 40]⟩ : ByteArray)) ++ t283) ++ (⟨#[32]⟩ : ByteArray)) ++ a0_2) ++ (⟨#[41]⟩ : ByteArray))) else (none)) else (none)) else (none)) else (none)) = some r := H
        have A10 := Aside0.mk A100
        clear A100
        by_cases c11 : (a0_0 ++ (⟨#[32, 40]⟩ : ByteArray)).size + t283.size ≤ 9223372036854775807
        · rw [if_pos c11] at H
          have c11b0 := eq_true c11
          have c11b1 : decide ((a0_0 ++ (⟨#[32, 40]⟩ : ByteArray)).size + t283.size ≤ 9223372036854775807) = true := decide_eq_true c11
          try have c11b2 : (9223372036854775807 < (a0_0 ++ (⟨#[32, 40]⟩ : ByteArray)).size + t283.size) = False := eq_false (Nat.not_lt.2 c11)
          (try (have c11n := c11; simp only [ByteArray.size_append, size_of_lit, List.size_toArray, List.length_cons, List.length_nil, Nat.zero_add, Nat.reduceAdd] at c11n; have c11n1 := eq_false (Nat.not_lt.2 c11n)))
          by_cases c12 : ((a0_0 ++ (⟨#[32, 40]⟩ : ByteArray)) ++ t283).size + 1 ≤ 9223372036854775807
          · rw [if_pos c12] at H
            have c12b0 := eq_true c12
            have c12b1 : decide (((a0_0 ++ (⟨#[32, 40]⟩ : ByteArray)) ++ t283).size + 1 ≤ 9223372036854775807) = true := decide_eq_true c12
            try have c12b2 : (9223372036854775807 < ((a0_0 ++ (⟨#[32, 40]⟩ : ByteArray)) ++ t283).size + 1) = False := eq_false (Nat.not_lt.2 c12)
            (try (have c12n := c12; simp only [ByteArray.size_append, size_of_lit, List.size_toArray, List.length_cons, List.length_nil, Nat.zero_add, Nat.reduceAdd] at c12n; have c12n1 := eq_false (Nat.not_lt.2 c12n)))
            by_cases c13 : (((a0_0 ++ (⟨#[32, 40]⟩ : ByteArray)) ++ t283) ++ (⟨#[32]⟩ : ByteArray)).size + a0_2.size ≤ 9223372036854775807
            · rw [if_pos c13] at H
              have c13b0 := eq_true c13
              have c13b1 : decide ((((a0_0 ++ (⟨#[32, 40]⟩ : ByteArray)) ++ t283) ++ (⟨#[32]⟩ : ByteArray)).size + a0_2.size ≤ 9223372036854775807) = true := decide_eq_true c13
              try have c13b2 : (9223372036854775807 < (((a0_0 ++ (⟨#[32, 40]⟩ : ByteArray)) ++ t283) ++ (⟨#[32]⟩ : ByteArray)).size + a0_2.size) = False := eq_false (Nat.not_lt.2 c13)
              (try (have c13n := c13; simp only [ByteArray.size_append, size_of_lit, List.size_toArray, List.length_cons, List.length_nil, Nat.zero_add, Nat.reduceAdd] at c13n; have c13n1 := eq_false (Nat.not_lt.2 c13n)))
              by_cases c14 : ((((a0_0 ++ (⟨#[32, 40]⟩ : ByteArray)) ++ t283) ++ (⟨#[32]⟩ : ByteArray)) ++ a0_2).size + 1 ≤ 9223372036854775807
              · rw [if_pos c14] at H
                have c14b0 := eq_true c14
                have c14b1 : decide (((((a0_0 ++ (⟨#[32, 40]⟩ : ByteArray)) ++ t283) ++ (⟨#[32]⟩ : ByteArray)) ++ a0_2).size + 1 ≤ 9223372036854775807) = true := decide_eq_true c14
                try have c14b2 : (9223372036854775807 < ((((a0_0 ++ (⟨#[32, 40]⟩ : ByteArray)) ++ t283) ++ (⟨#[32]⟩ : ByteArray)) ++ a0_2).size + 1) = False := eq_false (Nat.not_lt.2 c14)
                (try (have c14n := c14; simp only [ByteArray.size_append, size_of_lit, List.size_toArray, List.length_cons, List.length_nil, Nat.zero_add, Nat.reduceAdd] at c14n; have c14n1 := eq_false (Nat.not_lt.2 c14n)))
                obtain rfl := Option.some.inj H
                go_enter Tryd.func19, Tryd.ntmps19
                try go_wp2_with (first | ((with_reducible refine gate_dst (N := 1) rfl ?_); refine box_event ?hg (N := 1) ?hd (cs := #[.string a0_0, .int .i64 a0_1, .string a0_2]) (t := 26) ?hr ?_; (case hd => rfl); (case hg => rfl); (case hr => first | (go_simp; done) | (go_simp; rfl)); intro gb281 hg w15 hbox hb; have n0_ := Aside0.mk (qal (by repeat (first | (with_reducible first | exact HB.out | apply qaf | apply qaa | apply qag) | exact HB.out)) hb); have n1_ := Aside0.mk (hbox); have n2_ := Aside0.mk ((by rw [hg]; exact (qao (by repeat (first | (with_reducible first | exact HB.out | apply qaf | apply qaa | apply qag) | exact HB.out))) : w.heap.size ≤ gb281)); have n3_ := Aside0.mk ((by rw [hg]; exact (qao (by repeat (first | (with_reducible first | exact HB.out | apply qaf | apply qaa | apply qag) | exact HB.out))) : w.heap.size ≤ gb281)); clear HB; have HB := n0_; have BK281 := n1_; have GW281 := n2_; have GE281 := n3_; clear n0_ n1_ n2_ n3_; clear hb hbox hg; have hcz16_0 : w15.cell? ⟨gb281, 0, none⟩ = some (.string a0_0) := (qai BK281.out 0).trans rfl; have hcz16_1 : w15.cell? ⟨gb281, 1, none⟩ = some (.int .i64 a0_1) := (qai BK281.out 1).trans rfl; have hcz16_2 : w15.cell? ⟨gb281, 2, none⟩ = some (.string a0_2) := (qai BK281.out 2).trans rfl; have hfz16_0 := qah BK281.out 0; have hfz16_1 := qah BK281.out 1; have hfz16_2 := qah BK281.out 2) | ((with_reducible refine qak (f := 20) rfl ?_); refine goesL_ (some 5) rfl rfl Tryd.func20 (by kernel_rfl) rfl #[.agg #[.string a0_0, .int .i64 a0_1, .string a0_2]] rfl (by (try simp only [List.map_toArray, List.map_cons, List.map_nil]); first | done | rfl | (simp only [List.length_drop, List.length_take]; rfl)) ?_; (with_reducible refine (relation_Right.calls k a0_0 a0_1 a0_2 true _ (by first | exact hG | exact GL.below hG (by repeat (first | (with_reducible first | exact HB.out | apply qaf | apply qaa | apply qag | refine qad ?_ GE281.out) | exact HB.out)))  A2.out).mono ?_); rintro e w17 ⟨rfl, hb⟩; refine ⟨_, rfl, ?_⟩; have n0_ := Aside0.mk (qaj (g := gb281) (o := .cells #[.string a0_0, .int .i64 a0_1, .string a0_2] 26 (0, 0)) (by (with_reducible repeat (first | refine qac ?_ _ | refine qae ?_ | refine qab ?_ _)); exact BK281.out) hb); have n1_ := Aside0.mk (qal (by repeat (first | (with_reducible first | exact HB.out | apply qaf | apply qaa | apply qag | refine qad ?_ GE281.out) | exact HB.out)) hb); clear BK281; clear HB; have BK281 := n0_; have HB := n1_; clear n0_ n1_; (try clear hb); (try clear hb2); (try clear hk); (try clear hi); have hcz18_0 : w17.cell? ⟨gb281, 0, none⟩ = some (.string a0_0) := (qai BK281.out 0).trans rfl; have hcz18_1 : w17.cell? ⟨gb281, 1, none⟩ = some (.int .i64 a0_1) := (qai BK281.out 1).trans rfl; have hcz18_2 : w17.cell? ⟨gb281, 2, none⟩ = some (.string a0_2) := (qai BK281.out 2).trans rfl; have hfz18_0 := qah BK281.out 0; have hfz18_1 := qah BK281.out 1; have hfz18_2 := qah BK281.out 2))
                have n0_ := Aside0.mk (qae BK281.out)
                have n1_ := Aside0.mk (qag HB.out)
                clear BK281
                clear HB
                have BK281 := n0_
                have HB := n1_
                clear n0_ n1_
                refine start_ (n := 13) (S := fun w' => w'.cell? ⟨gb281, 0, none⟩ = some (.string a0_0) ∧ w'.cell? ⟨gb281, 1, none⟩ = some (.int .i64 a0_1) ∧ w'.cell? ⟨gb281, 2, none⟩ = some (.string a0_2)) (ds := []) #[false, false, false, false, false, false, false, false, false, false, false, false, false] (by kernel_rfl) rfl rfl ⟨(qai BK281.out 0).trans rfl, (qai BK281.out 1).trans rfl, (qai BK281.out 2).trans rfl⟩ (fun hHeld => ?_); refine with_tabW relation_Print.tab5 relation_Print.bits5 (fun HT_ HW_ => ?_)
                generalize w17.drew = w19 at BK281 HB hHeld ⊢
                refine pure_ (i := 0) (N := some 13) (v := ?_) (a' := ?_) #[true, false, false, false, false, false, false, false, false, false, false, false, false] rfl rfl (any_of HT_.out (by kernel_rfl)) (fun _ _ _ h => h) (Or.inl ⟨by rfl, ?_⟩) ?_ ?_
                rotate_left
                · intro w'
                  go_simp
                  with_reducible rfl
                rotate_left
                · simp only [Act.put, List.setIfInBounds_toArray, List.set_cons_zero, List.set_cons_succ, i64_w, i32_w]
                  rfl
                refine pure_ (i := 3) (N := some 16) (v := ?_) (a' := ?_) #[true, false, false, true, false, false, false, false, false, false, false, false, false] rfl rfl (any_of HT_.out (by kernel_rfl)) (fun _ _ _ h => h) (Or.inl ⟨by rfl, ?_⟩) ?_ ?_
                rotate_left
                · intro w'
                  go_simp
                  with_reducible rfl
                rotate_left
                · simp only [Act.put, List.setIfInBounds_toArray, List.set_cons_zero, List.set_cons_succ, i64_w, i32_w]
                  rfl
                refine pure_ (i := 8) (N := some 21) (v := ?_) (a' := ?_) #[true, false, false, true, false, false, false, false, true, false, false, false, false] rfl rfl (any_of HT_.out (by kernel_rfl)) (fun _ _ _ h => h) (Or.inl ⟨by rfl, ?_⟩) ?_ ?_
                rotate_left
                · intro w'
                  go_simp
                  with_reducible rfl
                rotate_left
                · simp only [Act.put, List.setIfInBounds_toArray, List.set_cons_zero, List.set_cons_succ, i64_w, i32_w]
                  rfl
                refine take_ (i := 1) (N := some 14) (v := ?_) (a' := ?_) #[true, true, false, true, false, false, false, false, true, false, false, false, false] rfl rfl (take_ofW HT_.out HW_.out (by kernel_rfl)) (fun _ _ _ h => h) (Or.inl ⟨by rfl, ?_⟩) hHeld ?_ ?_
                rotate_left
                · rintro w' ⟨s0, s1, s2⟩
                  go_simp
                  with_reducible rfl
                rotate_left
                · simp only [Act.put, List.setIfInBounds_toArray, List.set_cons_zero, List.set_cons_succ, i64_w, i32_w]
                  rfl
                refine pure_ (i := 2) (N := some 15) (v := ?_) (a' := ?_) #[true, true, true, true, false, false, false, false, true, false, false, false, false] rfl rfl (any_of HT_.out (by kernel_rfl)) (fun _ _ _ h => h) (Or.inl ⟨by rfl, ?_⟩) ?_ ?_
                rotate_left
                · intro w'
                  go_simp
                  with_reducible rfl
                rotate_left
                · simp only [Act.put, List.setIfInBounds_toArray, List.set_cons_zero, List.set_cons_succ, i64_w, i32_w]
                  rfl
                refine take_ (i := 4) (N := some 17) (v := ?_) (a' := ?_) #[true, true, true, true, true, false, false, false, true, false, false, false, false] rfl rfl (take_ofW HT_.out HW_.out (by kernel_rfl)) (fun _ _ _ h => h) (Or.inl ⟨by rfl, ?_⟩) hHeld ?_ ?_
                rotate_left
                · rintro w' ⟨s0, s1, s2⟩
                  go_simp
                  with_reducible rfl
                rotate_left
                · simp only [Act.put, List.setIfInBounds_toArray, List.set_cons_zero, List.set_cons_succ, i64_w, i32_w]
                  rfl
                refine take_ (i := 9) (N := some 22) (v := ?_) (a' := ?_) #[true, true, true, true, true, false, false, false, true, true, false, false, false] rfl rfl (take_ofW HT_.out HW_.out (by kernel_rfl)) (fun _ _ _ h => h) (Or.inl ⟨by rfl, ?_⟩) hHeld ?_ ?_
                rotate_left
                · rintro w' ⟨s0, s1, s2⟩
                  go_simp
                  with_reducible rfl
                rotate_left
                · simp only [Act.put, List.setIfInBounds_toArray, List.set_cons_zero, List.set_cons_succ, i64_w, i32_w]
                  rfl
                refine one_ (i := 5) (N := some 18) #[true, true, true, true, true, true, false, false, true, true, false, false, false] rfl rfl (one_of HT_.out (by kernel_rfl)) (by decide) (fun K hK => ?_)
                refine goes_ Tryd.func16 (by kernel_rfl) rfl #[.int .i64 a0_1] (by rfl) rfl rfl (by (try simp only [List.map_toArray, List.map_cons, List.map_nil]); first | done | rfl | (simp only [List.length_drop, List.length_take]; rfl)) ?_
                with_reducible refine (relation_Sign.calls a0_1 t283 _ (by first | exact hG | exact GL.below hG (by repeat (first | (with_reducible first | exact HB.out | apply qaf | apply qaa | apply qag | refine qad ?_ GE281.out) | exact HB.out)))  A10.out).mono ?_
                rintro e w20 ⟨rfl, hb⟩
                refine ⟨_, rfl, ?_⟩
                have n0_ := Aside0.mk (qaj (g := gb281) (o := .cells #[.string a0_0, .int .i64 a0_1, .string a0_2] 26 (0, 0)) (by (with_reducible repeat (first | refine qac ?_ _ | refine qae ?_ | refine qab ?_ _)); exact BK281.out) hb)
                have n1_ := Aside0.mk (qal (by repeat (first | (with_reducible first | exact HB.out | apply qaf | apply qaa | apply qag | refine qad ?_ GE281.out) | exact HB.out)) hb)
                clear BK281
                clear HB
                have BK281 := n0_
                have HB := n1_
                clear n0_ n1_
                (try clear hb)
                (try clear hb2)
                (try clear hk)
                (try clear hi)
                refine hK.out _ _ ⟨(qai BK281.out 0).trans rfl, (qai BK281.out 1).trans rfl, (qai BK281.out 2).trans rfl⟩ (fun hHeld => ?_)
                clear hK K
                refine norm_ (a' := ?_) ?_ ?_
                rotate_left
                · show Act.put _ (some 18) _ = _
                  simp only [Act.put, List.setIfInBounds_toArray, List.set_cons_zero, List.set_cons_succ, i64_w, i32_w]
                  rfl
                refine pure_ (i := 6) (N := some 19) (v := ?_) (a' := ?_) #[true, true, true, true, true, true, true, false, true, true, false, false, false] rfl rfl (any_of HT_.out (by kernel_rfl)) (fun _ _ _ h => h) (Or.inl ⟨by rfl, ?_⟩) ?_ ?_
                rotate_left
                · intro w'
                  go_simp
                  with_reducible rfl
                rotate_left
                · simp only [Act.put, List.setIfInBounds_toArray, List.set_cons_zero, List.set_cons_succ, i64_w, i32_w]
                  rfl
                refine pure_ (i := 7) (N := some 20) (v := ?_) (a' := ?_) #[true, true, true, true, true, true, true, true, true, true, false, false, false] rfl rfl (any_of HT_.out (by kernel_rfl)) (fun _ _ _ h => h) (Or.inl ⟨by rfl, ?_⟩) ?_ ?_
                rotate_left
                · intro w'
                  go_simp
                  with_reducible rfl
                rotate_left
                · simp only [Act.put, List.setIfInBounds_toArray, List.set_cons_zero, List.set_cons_succ, i64_w, i32_w]
                  rfl
                refine pure_ (i := 10) (N := some 23) (v := ?_) (a' := ?_) #[true, true, true, true, true, true, true, true, true, true, true, false, false] rfl rfl (any_of HT_.out (by kernel_rfl)) (fun _ _ _ h => h) (Or.inl ⟨by rfl, ?_⟩) ?_ ?_
                rotate_left
                · intro w'
                  go_simp
                  with_reducible rfl
                rotate_left
                · simp only [Act.put, List.setIfInBounds_toArray, List.set_cons_zero, List.set_cons_succ, i64_w, i32_w]
                  rfl
                refine pure_ (i := 11) (N := some 24) (v := ?_) (a' := ?_) #[true, true, true, true, true, true, true, true, true, true, true, true, false] rfl rfl (any_of HT_.out (by kernel_rfl)) (fun _ _ _ h => h) (Or.inl ⟨by rfl, ?_⟩) ?_ ?_
                rotate_left
                · intro w'
                  go_simp
                  with_reducible rfl
                rotate_left
                · simp only [Act.put, List.setIfInBounds_toArray, List.set_cons_zero, List.set_cons_succ, i64_w, i32_w]
                  rfl
                refine pure_ (i := 12) (N := some 2) (v := ?_) (a' := ?_) #[true, true, true, true, true, true, true, true, true, true, true, true, true] rfl rfl (any_of HT_.out (by kernel_rfl)) (fun _ _ _ h => h) (Or.inl ⟨by rfl, ?_⟩) ?_ ?_
                rotate_left
                · intro w'
                  go_simp
                  with_reducible rfl
                rotate_left
                · simp only [Act.put, List.setIfInBounds_toArray, List.set_cons_zero, List.set_cons_succ, i64_w, i32_w]
                  rfl
                refine done_ (done_of HT_.out (by kernel_rfl)) ?_
                try go_wp2
                go_ret
                exact ⟨by first | rfl | (simp [qam, qan] <;> rfl) | (simp [*, qam, qan] <;> rfl), by repeat (first | (with_reducible first | exact HB.out | apply qaf | apply qaa | apply qag | refine qad ?_ GE281.out) | exact HB.out)⟩
              · rw [if_neg c14] at H
                exact absurd H (by simp)
            · rw [if_neg c13] at H
              exact absurd H (by simp)
          · rw [if_neg c12] at H
            exact absurd H (by simp)
        · rw [if_neg c11] at H
          exact absurd H (by simp)
      · rw [if_neg c9] at H
        exact absurd H (by simp)
  · replace c3 := Bool.eq_false_iff.mpr c3
    subst c3
    have H1 : (some (⟨#[]⟩ : ByteArray)) = some r := by rw [if_neg (show ¬ (false = true) by decide)] at H; exact H
    clear H
    have H := H1
    clear H1
    obtain rfl := Option.some.inj H
    go_enter Tryd.func19, Tryd.ntmps19
    go_wp2_with (first | ((with_reducible refine gate_dst (N := 1) rfl ?_); refine box_event ?hg (N := 1) ?hd (cs := #[.string a0_0, .int .i64 a0_1, .string a0_2]) (t := 26) ?hr ?_; (case hd => rfl); (case hg => rfl); (case hr => first | (go_simp; done) | (go_simp; rfl)); intro gb281 hg w21 hbox hb; have n0_ := Aside0.mk (qal (by repeat (first | (with_reducible first | exact HB.out | apply qaf | apply qaa | apply qag) | exact HB.out)) hb); have n1_ := Aside0.mk (hbox); have n2_ := Aside0.mk ((by rw [hg]; exact (qao (by repeat (first | (with_reducible first | exact HB.out | apply qaf | apply qaa | apply qag) | exact HB.out))) : w.heap.size ≤ gb281)); have n3_ := Aside0.mk ((by rw [hg]; exact (qao (by repeat (first | (with_reducible first | exact HB.out | apply qaf | apply qaa | apply qag) | exact HB.out))) : w.heap.size ≤ gb281)); clear HB; have HB := n0_; have BK281 := n1_; have GW281 := n2_; have GE281 := n3_; clear n0_ n1_ n2_ n3_; clear hb hbox hg; have hcz22_0 : w21.cell? ⟨gb281, 0, none⟩ = some (.string a0_0) := (qai BK281.out 0).trans rfl; have hcz22_1 : w21.cell? ⟨gb281, 1, none⟩ = some (.int .i64 a0_1) := (qai BK281.out 1).trans rfl; have hcz22_2 : w21.cell? ⟨gb281, 2, none⟩ = some (.string a0_2) := (qai BK281.out 2).trans rfl; have hfz22_0 := qah BK281.out 0; have hfz22_1 := qah BK281.out 1; have hfz22_2 := qah BK281.out 2) | ((with_reducible refine qak (f := 20) rfl ?_); refine goesL_ (some 5) rfl rfl Tryd.func20 (by kernel_rfl) rfl #[.agg #[.string a0_0, .int .i64 a0_1, .string a0_2]] rfl (by (try simp only [List.map_toArray, List.map_cons, List.map_nil]); first | done | rfl | (simp only [List.length_drop, List.length_take]; rfl)) ?_; (with_reducible refine (relation_Right.calls k a0_0 a0_1 a0_2 false _ (by first | exact hG | exact GL.below hG (by repeat (first | (with_reducible first | exact HB.out | apply qaf | apply qaa | apply qag | refine qad ?_ GE281.out) | exact HB.out)))  A2.out).mono ?_); rintro e w23 ⟨rfl, hb⟩; refine ⟨_, rfl, ?_⟩; have n0_ := Aside0.mk (qaj (g := gb281) (o := .cells #[.string a0_0, .int .i64 a0_1, .string a0_2] 26 (0, 0)) (by (with_reducible repeat (first | refine qac ?_ _ | refine qae ?_ | refine qab ?_ _)); exact BK281.out) hb); have n1_ := Aside0.mk (qal (by repeat (first | (with_reducible first | exact HB.out | apply qaf | apply qaa | apply qag | refine qad ?_ GE281.out) | exact HB.out)) hb); clear BK281; clear HB; have BK281 := n0_; have HB := n1_; clear n0_ n1_; (try clear hb); (try clear hb2); (try clear hk); (try clear hi)))
    go_ret
    exact ⟨by first | rfl | (simp [qam, qan] <;> rfl) | (simp [*, qam, qan] <;> rfl), by repeat (first | (with_reducible first | exact HB.out | apply qaf | apply qaa | apply qag | refine qad ?_ GE281.out) | exact HB.out)⟩
end Go.Proofs.YtohijjobmmibcaaDoor.PA
