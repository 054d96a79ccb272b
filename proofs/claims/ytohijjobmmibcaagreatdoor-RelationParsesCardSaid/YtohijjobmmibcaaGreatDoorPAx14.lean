
import Derived.Test.YtohijjobmmibcaaGreatDoorPAx0
import Derived.Test.YtohijjobmmibcaaGreatDoorPAx9
import Derived.Test.YtohijjobmmibcaaGreatDoorPAx13
namespace Go.Proofs.YtohijjobmmibcaaGreatDoor.PA
open Go.RowKit Go.Proofs.YtohijjobmmibcaaGreatDoorW.PrintWords Go.Proofs.YtohijjobmmibcaaGreatDoorW.PrintLast Go.Proofs.YtohijjobmmibcaaGreatDoorW.PrintMore
attribute [local go_sem] max2_int min2_int max_two min_two max_three min_three max_four min_four
set_option linter.unusedVariables false
set_option linter.unusedSimpArgs false
def relation_Print.f (k : Nat) (a0_0 : ByteArray) (a0_1 : Int) (a0_2 : ByteArray) : Option (ByteArray) := (relation_Right.f k a0_0 a0_1 a0_2).bind fun t290 => (if t290 = true then (if a0_1 = 0 then (some a0_0) else (if a0_0.size + 2 ≤ 9223372036854775807 then ((relation_Sign.f a0_1).bind fun t291 => (if (a0_0 ++ (⟨#[32, 40]⟩ : ByteArray)).size + t291.size ≤ 9223372036854775807 then (if ((a0_0 ++ (⟨#[32, 40]⟩ : ByteArray)) ++ t291).size + 1 ≤ 9223372036854775807 then (if (((a0_0 ++ (⟨#[32, 40]⟩ : ByteArray)) ++ t291) ++ (⟨#[32]⟩ : ByteArray)).size + a0_2.size ≤ 9223372036854775807 then (if ((((a0_0 ++ (⟨#[32, 40]⟩ : ByteArray)) ++ t291) ++ (⟨#[32]⟩ : ByteArray)) ++ a0_2).size + 1 ≤ 9223372036854775807 then (some (((((a0_0 ++ (⟨#[32, 40]⟩ : ByteArray)) ++ t291) ++ (⟨#[32]⟩ : ByteArray)) ++ a0_2) ++ (⟨#[41]⟩ : ByteArray))) else (none)) else (none)) else (none)) else (none))) else (none))) else (some (⟨#[]⟩ : ByteArray)))
theorem relation_Print.mono : ∀ a0 a1 a2 k, LeO (relation_Print.f k a0 a1 a2) (relation_Print.f (k + 1) a0 a1 a2) := by
  intro a0 a1 a2 k
  unfold relation_Print.f
  repeat' first
      | (with_reducible exact relation_Right.mono _ _ _ _)
      | (with_reducible exact LeO.refl _)
      | (with_reducible exact LeO.none _)
      | (with_reducible refine LeO.ite ?_ ?_)
      | (with_reducible refine LeO.bind ?_ (fun _ => ?_))
      | exact relation_Right.mono _ _ _ _
      | exact LeO.none _
      | refine LeO.ite ?_ ?_
      | refine LeO.bind ?_ (fun _ => ?_)
def relation_Print.T5 : Bool × List (List Nat × List Nat) := (true, [([], []), ([0], [0]), ([1], [1]), ([], []), ([3], [3]), ([4], [4]), ([2, 5], [2, 5]), ([6], [6]), ([], []), ([8], [8]), ([7, 9], [7, 9]), ([10], [10]), ([11, 5, 0, 1, 2, 3, 4, 5, 6, 7, 8, 9, 10, 11], [11])])
def relation_Print.B5 : List Nat := [0, 1, 3, 0, 8, 24, 63, 127, 0, 256, 1023, 2047, 4095]
theorem relation_Print.tab5 : rtab .any (opsOf Tryz.f10 5) = relation_Print.T5 := by kernel_rfl
theorem relation_Print.bits5 : waitsOk relation_Print.T5.2 relation_Print.B5 = true := by kernel_rfl
set_option maxHeartbeats 8000000 in
set_option maxRecDepth 100000 in
theorem relation_Print.calls (k : Nat) (a0_0 : ByteArray) (a0_1 : Int) (a0_2 : ByteArray) (r : ByteArray) (w : World) (hG : GL w) (h : relation_Print.f k a0_0 a0_1 a0_2 = some r) :
    Calls Tryz.prog 10 #[.agg #[.string a0_0, .int .i64 a0_1, .string a0_2]] w fun e w' => e = .returned (.string r) ∧ Below w.heap.size w w' := by
  have hu23 := Tryz.underlying23
  have HB := Aside0.mk (Below.refl w.heap.size w)
  have H : ((relation_Right.f k a0_0 a0_1 a0_2).bind fun t290 => (if t290 = true then (if a0_1 = 0 then (some a0_0) else (if a0_0.size + 2 ≤ 9223372036854775807 then ((relation_Sign.f a0_1).bind fun t291 => (if (a0_0 ++ (⟨#[32, 40]⟩ : ByteArray)).size + t291.size ≤ 9223372036854775807 then (if ((a0_0 ++ (⟨#[32, 40]⟩ : ByteArray)) ++ t291).size + 1 ≤ 9223372036854775807 then (if (((a0_0 ++ (⟨#[32, 40]⟩ : ByteArray)) ++ t291) ++ (⟨#[32]⟩ : ByteArray)).size + a0_2.size ≤ 9223372036854775807 then (if ((((a0_0 ++ (⟨#[32, 40]⟩ : ByteArray)) ++ t291) ++ (⟨#[32]⟩ : ByteArray)) ++ a0_2).size + 1 ≤ 9223372036854775807 then (some (((((a0_0 ++ (⟨#[32, 40]⟩ : ByteArray)) ++ t291) ++ (⟨#[32]⟩ : ByteArray)) ++ a0_2) ++ (⟨#[41]⟩ : ByteArray))) else (none)) else (none)) else (none)) else (none))) else (none))) else (some (⟨#[]⟩ : ByteArray)))) = some r := h
  clear h
  replace H := Option.bind_eq_some_iff.mp H
  obtain ⟨t290, A20, H⟩ := H
  replace H : (if t290 = true then (if a0_1 = 0 then (some a0_0) else (if a0_0.size + 2 ≤ 9223372036854775807 then ((relation_Sign.f a0_1).bind fun t291 => (if (a0_0 ++ (⟨#[32, 40]⟩ : ByteArray)).size + t291.size ≤ 9223372036854775807 then (if ((a0_0 ++ (⟨#[32, 40]⟩ : ByteArray)) ++ t291).size + 1 ≤ 9223372036854775807 then (if (((a0_0 ++ (⟨#[32, 40]⟩ : ByteArray)) ++ t291) ++ (⟨#[32]⟩ : ByteArray)).size + a0_2.size ≤ 9223372036854775807 then (if ((((a0_0 ++ (⟨#[32, 40]⟩ : ByteArray)) ++ t291) ++ (⟨#[32]⟩ : ByteArray)) ++ a0_2).size + 1 ≤ 9223372036854775807 then (some (((((a0_0 ++ (⟨#[32, 40]⟩ : ByteArray)) ++ t291) ++ (⟨#[32]⟩ : ByteArray)) ++ a0_2) ++ (⟨#[41]⟩ : ByteArray))) else (none)) else (none)) else (none)) else (none))) else (none))) else (some (⟨#[]⟩ : ByteArray))) = some r := H
  have A2 := Aside0.mk A20
  clear A20
  by_cases c3 : t290 = true
  · subst c3
    have H1 : (if a0_1 = 0 then (some a0_0) else (if a0_0.size + 2 ≤ 9223372036854775807 then ((relation_Sign.f a0_1).bind fun t291 => (if (a0_0 ++ (⟨#[32, 40]⟩ : ByteArray)).size + t291.size ≤ 9223372036854775807 then (if ((a0_0 ++ (⟨#[32, 40]⟩ : ByteArray)) ++ t291).size + 1 ≤ 9223372036854775807 then (if (((a0_0 ++ (⟨#[32, 40]⟩ : ByteArray)) ++ t291) ++ (⟨#[32]⟩ : ByteArray)).size + a0_2.size ≤ 9223372036854775807 then (if ((((a0_0 ++ (⟨#[32, 40]⟩ : ByteArray)) ++ t291) ++ (⟨#[32]⟩ : ByteArray)) ++ a0_2).size + 1 ≤ 9223372036854775807 then (some (((((a0_0 ++ (⟨#[32, 40]⟩ : ByteArray)) ++ t291) ++ (⟨#[32]⟩ : ByteArray)) ++ a0_2) ++ (⟨#[41]⟩ : ByteArray))) else (none)) else (none)) else (none)) else (none))) else (none))) = some r := by rw [if_pos rfl] at H; exact H
    clear H
    have H := H1
    clear H1
    by_cases c4 : a0_1 = 0
    · rw [if_pos c4] at H
      have c4b0 : (a0_1 == 0) = true := beq_iff_eq.mpr c4
      have c4b1 : (a0_1 != 0) = false := bne_eq_false_iff_eq.mpr c4
      clear c4
      obtain rfl := Option.some.inj H
      go_enter Tryz.func10, Tryz.ntmps10
      go_wp2_with (first | ((with_reducible refine qar (N := 1) rfl ?_); refine qaq ?hg (N := 1) ?hd (cs := #[.string a0_0, .int .i64 a0_1, .string a0_2]) (t := 23) ?hr ?_; (case hd => rfl); (case hg => rfl); (case hr => first | (go_simp; done) | (go_simp; rfl)); intro gb289 hg w5 hbox hb; have n0_ := Aside0.mk (qak (by repeat (first | (with_reducible first | exact HB.out | apply qaf | apply qaa | apply qae) | exact HB.out)) hb); have n1_ := Aside0.mk (hbox); have n2_ := Aside0.mk ((by rw [hg]; exact (qap (by repeat (first | (with_reducible first | exact HB.out | apply qaf | apply qaa | apply qae) | exact HB.out))) : w.heap.size ≤ gb289)); have n3_ := Aside0.mk ((by rw [hg]; exact (qap (by repeat (first | (with_reducible first | exact HB.out | apply qaf | apply qaa | apply qae) | exact HB.out))) : w.heap.size ≤ gb289)); clear HB; have HB := n0_; have BK289 := n1_; have GW289 := n2_; have GE289 := n3_; clear n0_ n1_ n2_ n3_; clear hb hbox hg; have hcz6_0 : w5.cell? ⟨gb289, 0, none⟩ = some (.string a0_0) := (qai BK289.out 0).trans rfl; have hcz6_1 : w5.cell? ⟨gb289, 1, none⟩ = some (.int .i64 a0_1) := (qai BK289.out 1).trans rfl; have hcz6_2 : w5.cell? ⟨gb289, 2, none⟩ = some (.string a0_2) := (qai BK289.out 2).trans rfl; have hfz6_0 := qah BK289.out 0; have hfz6_1 := qah BK289.out 1; have hfz6_2 := qah BK289.out 2) | ((with_reducible refine qam (f := 8) rfl ?_); refine goesL_ (some 5) rfl rfl Tryz.func8 (by kernel_rfl) rfl #[.agg #[.string a0_0, .int .i64 a0_1, .string a0_2]] rfl (by (try simp only [List.map_toArray, List.map_cons, List.map_nil]); first | done | rfl | (simp only [List.length_drop, List.length_take]; rfl)) ?_; (with_reducible refine (relation_Right.calls k a0_0 a0_1 a0_2 true _ (by first | exact hG | exact GL.below hG (by repeat (first | (with_reducible first | exact HB.out | apply qaf | apply qaa | apply qae | refine qad ?_ GE289.out) | exact HB.out)))  A2.out).mono ?_); rintro e w7 ⟨rfl, hb⟩; refine ⟨_, rfl, ?_⟩; have n0_ := Aside0.mk (qaj (g := gb289) (o := .cells #[.string a0_0, .int .i64 a0_1, .string a0_2] 23 (0, 0)) (by (with_reducible repeat (first | refine qac ?_ _ | refine qag ?_ | refine qab ?_ _)); exact BK289.out) hb); have n1_ := Aside0.mk (qak (by repeat (first | (with_reducible first | exact HB.out | apply qaf | apply qaa | apply qae | refine qad ?_ GE289.out) | exact HB.out)) hb); clear BK289; clear HB; have BK289 := n0_; have HB := n1_; clear n0_ n1_; (try clear hb); (try clear hb2); (try clear hk); (try clear hi); have hcz8_0 : w7.cell? ⟨gb289, 0, none⟩ = some (.string a0_0) := (qai BK289.out 0).trans rfl; have hcz8_1 : w7.cell? ⟨gb289, 1, none⟩ = some (.int .i64 a0_1) := (qai BK289.out 1).trans rfl; have hcz8_2 : w7.cell? ⟨gb289, 2, none⟩ = some (.string a0_2) := (qai BK289.out 2).trans rfl; have hfz8_0 := qah BK289.out 0; have hfz8_1 := qah BK289.out 1; have hfz8_2 := qah BK289.out 2))
      go_ret
      exact ⟨by first | rfl | (simp [qan, qao] <;> rfl) | (simp [*, qan, qao] <;> rfl), by repeat (first | (with_reducible first | exact HB.out | apply qaf | apply qaa | apply qae | refine qad ?_ GE289.out) | exact HB.out)⟩
    · rw [if_neg c4] at H
      have c4b0 : (a0_1 == 0) = false := beq_eq_false_iff_ne.mpr c4
      have c4b1 : (a0_1 != 0) = true := bne_iff_ne.mpr c4
      by_cases c9 : a0_0.size + 2 ≤ 9223372036854775807
      · rw [if_pos c9] at H
        have c9b0 := eq_true c9
        have c9b1 : decide (a0_0.size + 2 ≤ 9223372036854775807) = true := decide_eq_true c9
        try have c9b2 : (9223372036854775807 < a0_0.size + 2) = False := eq_false (Nat.not_lt.2 c9)
        replace H := Option.bind_eq_some_iff.mp H
        obtain ⟨t291, A100, H⟩ := H
        replace H : (if (a0_0 ++ (⟨#[32, 40]⟩ : ByteArray)).size + t291.size ≤ 9223372036854775807 then (if ((a0_0 ++ (⟨#[32, 40]⟩ : ByteArray)) ++ t291).size + 1 ≤ 9223372036854775807 then (if (((a0_0 ++ (⟨#[32, 40]⟩ : ByteArray)) ++ t291) ++ (⟨#[32]⟩ : ByteArray)).size + a0_2.size ≤ 9223372036854775807 then (if ((((a0_0 ++ (⟨#[32, 40]⟩ : ByteArray)) ++ t291) ++ (⟨#[32]⟩ : ByteArray)) ++ a0_2).size + 1 ≤ 9223372036854775807 then (some (((((a0_0 ++ (⟨#[32, 40]⟩ : ByteArray)) ++ t291) ++ (⟨#[32]⟩ : ByteArray)) ++ a0_2) ++ (⟨#[41]⟩ : ByteArray))) else (none)) else (none)) else (none)) else (none)) = some r := H
        have A10 := Aside0.mk A100
        clear A100
        by_cases c11 : (a0_0 ++ (⟨#[32, 40]⟩ : ByteArray)).size + t291.size ≤ 9223372036854775807
        · rw [if_pos c11] at H
          have c11b0 := eq_true c11
          have c11b1 : decide ((a0_0 ++ (⟨#[32, 40]⟩ : ByteArray)).size + t291.size ≤ 9223372036854775807) = true := decide_eq_true c11
          try have c11b2 : (9223372036854775807 < (a0_0 ++ (⟨#[32, 40]⟩ : ByteArray)).size + t291.size) = False := eq_false (Nat.not_lt.2 c11)
          (try (have c11n := c11; simp only [ByteArray.size_append, size_of_lit, List.size_toArray, List.length_cons, List.length_nil, Nat.zero_add, Nat.reduceAdd] at c11n; have c11n1 := eq_false (Nat.not_lt.2 c11n)))
          by_cases c12 : ((a0_0 ++ (⟨#[32, 40]⟩ : ByteArray)) ++ t291).size + 1 ≤ 9223372036854775807
          · rw [if_pos c12] at H
            have c12b0 := eq_true c12
            have c12b1 : decide (((a0_0 ++ (⟨#[32, 40]⟩ : ByteArray)) ++ t291).size + 1 ≤ 9223372036854775807) = true := decide_eq_true c12
            try have c12b2 : (9223372036854775807 < ((a0_0 ++ (⟨#[32, 40]⟩ : ByteArray)) ++ t291).size + 1) = False := eq_false (Nat.not_lt.2 c12)
            (try (have c12n := c12; simp only [ByteArray.size_append, size_of_lit, List.size_toArray, List.length_cons, List.length_nil, Nat.zero_add, Nat.reduceAdd] at c12n; have c12n1 := eq_false (Nat.not_lt.2 c12n)))
            by_cases c13 : (((a0_0 ++ (⟨#[32, 40]⟩ : ByteArray)) ++ t291) ++ (⟨#[32]⟩ : ByteArray)).size + a0_2.size ≤ 9223372036854775807
            · rw [if_pos c13] at H
              have c13b0 := eq_true c13
              have c13b1 : decide ((((a0_0 ++ (⟨#[32, 40]⟩ : ByteArray)) ++ t291) ++ (⟨#[32]⟩ : ByteArray)).size + a0_2.size ≤ 9223372036854775807) = true := decide_eq_true c13
              try have c13b2 : (9223372036854775807 < (((a0_0 ++ (⟨#[32, 40]⟩ : ByteArray)) ++ t291) ++ (⟨#[32]⟩ : ByteArray)).size + a0_2.size) = False := eq_false (Nat.not_lt.2 c13)
              (try (have c13n := c13; simp only [ByteArray.size_append, size_of_lit, List.size_toArray, List.length_cons, List.length_nil, Nat.zero_add, Nat.reduceAdd] at c13n; have c13n1 := eq_false (Nat.not_lt.2 c13n)))
              by_cases c14 : ((((a0_0 ++ (⟨#[32, 40]⟩ : ByteArray)) ++ t291) ++ (⟨#[32]⟩ : ByteArray)) ++ a0_2).size + 1 ≤ 9223372036854775807
              · rw [if_pos c14] at H
                have c14b0 := eq_true c14
                have c14b1 : decide (((((a0_0 ++ (⟨#[32, 40]⟩ : ByteArray)) ++ t291) ++ (⟨#[32]⟩ : ByteArray)) ++ a0_2).size + 1 ≤ 9223372036854775807) = true := decide_eq_true c14
                try have c14b2 : (9223372036854775807 < ((((a0_0 ++ (⟨#[32, 40]⟩ : ByteArray)) ++ t291) ++ (⟨#[32]⟩ : ByteArray)) ++ a0_2).size + 1) = False := eq_false (Nat.not_lt.2 c14)
                (try (have c14n := c14; simp only [ByteArray.size_append, size_of_lit, List.size_toArray, List.length_cons, List.length_nil, Nat.zero_add, Nat.reduceAdd] at c14n; have c14n1 := eq_false (Nat.not_lt.2 c14n)))
                obtain rfl := Option.some.inj H
                go_enter Tryz.func10, Tryz.ntmps10
                try go_wp2_with (first | ((with_reducible refine qar (N := 1) rfl ?_); refine qaq ?hg (N := 1) ?hd (cs := #[.string a0_0, .int .i64 a0_1, .string a0_2]) (t := 23) ?hr ?_; (case hd => rfl); (case hg => rfl); (case hr => first | (go_simp; done) | (go_simp; rfl)); intro gb289 hg w15 hbox hb; have n0_ := Aside0.mk (qak (by repeat (first | (with_reducible first | exact HB.out | apply qaf | apply qaa | apply qae) | exact HB.out)) hb); have n1_ := Aside0.mk (hbox); have n2_ := Aside0.mk ((by rw [hg]; exact (qap (by repeat (first | (with_reducible first | exact HB.out | apply qaf | apply qaa | apply qae) | exact HB.out))) : w.heap.size ≤ gb289)); have n3_ := Aside0.mk ((by rw [hg]; exact (qap (by repeat (first | (with_reducible first | exact HB.out | apply qaf | apply qaa | apply qae) | exact HB.out))) : w.heap.size ≤ gb289)); clear HB; have HB := n0_; have BK289 := n1_; have GW289 := n2_; have GE289 := n3_; clear n0_ n1_ n2_ n3_; clear hb hbox hg; have hcz16_0 : w15.cell? ⟨gb289, 0, none⟩ = some (.string a0_0) := (qai BK289.out 0).trans rfl; have hcz16_1 : w15.cell? ⟨gb289, 1, none⟩ = some (.int .i64 a0_1) := (qai BK289.out 1).trans rfl; have hcz16_2 : w15.cell? ⟨gb289, 2, none⟩ = some (.string a0_2) := (qai BK289.out 2).trans rfl; have hfz16_0 := qah BK289.out 0; have hfz16_1 := qah BK289.out 1; have hfz16_2 := qah BK289.out 2) | ((with_reducible refine qam (f := 8) rfl ?_); refine goesL_ (some 5) rfl rfl Tryz.func8 (by kernel_rfl) rfl #[.agg #[.string a0_0, .int .i64 a0_1, .string a0_2]] rfl (by (try simp only [List.map_toArray, List.map_cons, List.map_nil]); first | done | rfl | (simp only [List.length_drop, List.length_take]; rfl)) ?_; (with_reducible refine (relation_Right.calls k a0_0 a0_1 a0_2 true _ (by first | exact hG | exact GL.below hG (by repeat (first | (with_reducible first | exact HB.out | apply qaf | apply qaa | apply qae | refine qad ?_ GE289.out) | exact HB.out)))  A2.out).mono ?_); rintro e w17 ⟨rfl, hb⟩; refine ⟨_, rfl, ?_⟩; have n0_ := Aside0.mk (qaj (g := gb289) (o := .cells #[.string a0_0, .int .i64 a0_1, .string a0_2] 23 (0, 0)) (by (with_reducible repeat (first | refine qac ?_ _ | refine qag ?_ | refine qab ?_ _)); exact BK289.out) hb); have n1_ := Aside0.mk (qak (by repeat (first | (with_reducible first | exact HB.out | apply qaf | apply qaa | apply qae | refine qad ?_ GE289.out) | exact HB.out)) hb); clear BK289; clear HB; have BK289 := n0_; have HB := n1_; clear n0_ n1_; (try clear hb); (try clear hb2); (try clear hk); (try clear hi); have hcz18_0 : w17.cell? ⟨gb289, 0, none⟩ = some (.string a0_0) := (qai BK289.out 0).trans rfl; have hcz18_1 : w17.cell? ⟨gb289, 1, none⟩ = some (.int .i64 a0_1) := (qai BK289.out 1).trans rfl; have hcz18_2 : w17.cell? ⟨gb289, 2, none⟩ = some (.string a0_2) := (qai BK289.out 2).trans rfl; have hfz18_0 := qah BK289.out 0; have hfz18_1 := qah BK289.out 1; have hfz18_2 := qah BK289.out 2))
                have n0_ := Aside0.mk (qag BK289.out)
                have n1_ := Aside0.mk (qae HB.out)
                clear BK289
                clear HB
                have BK289 := n0_
                have HB := n1_
                clear n0_ n1_
                refine start_ (n := 13) (S := fun w' => w'.cell? ⟨gb289, 0, none⟩ = some (.string a0_0) ∧ w'.cell? ⟨gb289, 1, none⟩ = some (.int .i64 a0_1) ∧ w'.cell? ⟨gb289, 2, none⟩ = some (.string a0_2)) (ds := []) #[false, false, false, false, false, false, false, false, false, false, false, false, false] (by kernel_rfl) rfl rfl ⟨(qai BK289.out 0).trans rfl, (qai BK289.out 1).trans rfl, (qai BK289.out 2).trans rfl⟩ (fun hHeld => ?_); refine with_tabW relation_Print.tab5 relation_Print.bits5 (fun HT_ HW_ => ?_)
                generalize w17.drew = w19 at BK289 HB hHeld ⊢
                refine pure_ (i := 0) (N := some 13) (v := ?_) (a' := ?_) #[true, false, false, false, false, false, false, false, false, false, false, false, false] rfl rfl (any_of HT_.out (by kernel_rfl)) (fun _ _ _ h => h) (Or.inl ⟨by rfl, ?_⟩) ?_ ?_
                rotate_left
                · intro w'
                  go_simp
                  with_reducible rfl
                rotate_left
                · simp only [Act.put, List.setIfInBounds_toArray, List.set_cons_zero, List.set_cons_succ, i64_w, i32_w]
                  rfl
                refine pure_ (i := 3) (N := some 16) (v := ?_) (a' := ?_) #[true, false, false, true, false, false, false, false, false, false, false, false, false] rfl rfl (any_of HT_.out (by kernel_rfl)) (fun _ _ _ h => h) (Or.inl ⟨by rfl, ?_⟩) ?_ ?_
                rotate_left
                · intro w'
                  go_simp
                  with_reducible rfl
                rotate_left
                · simp only [Act.put, List.setIfInBounds_toArray, List.set_cons_zero, List.set_cons_succ, i64_w, i32_w]
                  rfl
                refine pure_ (i := 8) (N := some 21) (v := ?_) (a' := ?_) #[true, false, false, true, false, false, false, false, true, false, false, false, false] rfl rfl (any_of HT_.out (by kernel_rfl)) (fun _ _ _ h => h) (Or.inl ⟨by rfl, ?_⟩) ?_ ?_
                rotate_left
                · intro w'
                  go_simp
                  with_reducible rfl
                rotate_left
                · simp only [Act.put, List.setIfInBounds_toArray, List.set_cons_zero, List.set_cons_succ, i64_w, i32_w]
                  rfl
                refine take_ (i := 1) (N := some 14) (v := ?_) (a' := ?_) #[true, true, false, true, false, false, false, false, true, false, false, false, false] rfl rfl (take_ofW HT_.out HW_.out (by kernel_rfl)) (fun _ _ _ h => h) (Or.inl ⟨by rfl, ?_⟩) hHeld ?_ ?_
                rotate_left
                · rintro w' ⟨s0, s1, s2⟩
                  go_simp
                  with_reducible rfl
                rotate_left
                · simp only [Act.put, List.setIfInBounds_toArray, List.set_cons_zero, List.set_cons_succ, i64_w, i32_w]
                  rfl
                refine pure_ (i := 2) (N := some 15) (v := ?_) (a' := ?_) #[true, true, true, true, false, false, false, false, true, false, false, false, false] rfl rfl (any_of HT_.out (by kernel_rfl)) (fun _ _ _ h => h) (Or.inl ⟨by rfl, ?_⟩) ?_ ?_
                rotate_left
                · intro w'
                  go_simp
                  with_reducible rfl
                rotate_left
                · simp only [Act.put, List.setIfInBounds_toArray, List.set_cons_zero, List.set_cons_succ, i64_w, i32_w]
                  rfl
                refine take_ (i := 4) (N := some 17) (v := ?_) (a' := ?_) #[true, true, true, true, true, false, false, false, true, false, false, false, false] rfl rfl (take_ofW HT_.out HW_.out (by kernel_rfl)) (fun _ _ _ h => h) (Or.inl ⟨by rfl, ?_⟩) hHeld ?_ ?_
                rotate_left
                · rintro w' ⟨s0, s1, s2⟩
                  go_simp
                  with_reducible rfl
                rotate_left
                · simp only [Act.put, List.setIfInBounds_toArray, List.set_cons_zero, List.set_cons_succ, i64_w, i32_w]
                  rfl
                refine take_ (i := 9) (N := some 22) (v := ?_) (a' := ?_) #[true, true, true, true, true, false, false, false, true, true, false, false, false] rfl rfl (take_ofW HT_.out HW_.out (by kernel_rfl)) (fun _ _ _ h => h) (Or.inl ⟨by rfl, ?_⟩) hHeld ?_ ?_
                rotate_left
                · rintro w' ⟨s0, s1, s2⟩
                  go_simp
                  with_reducible rfl
                rotate_left
                · simp only [Act.put, List.setIfInBounds_toArray, List.set_cons_zero, List.set_cons_succ, i64_w, i32_w]
                  rfl
                refine one_ (i := 5) (N := some 18) #[true, true, true, true, true, true, false, false, true, true, false, false, false] rfl rfl (one_of HT_.out (by kernel_rfl)) (by decide) (fun K hK => ?_)
                refine goes_ Tryz.func24 (by kernel_rfl) rfl #[.int .i64 a0_1] (by rfl) rfl rfl (by (try simp only [List.map_toArray, List.map_cons, List.map_nil]); first | done | rfl | (simp only [List.length_drop, List.length_take]; rfl)) ?_
                with_reducible refine (relation_Sign.calls a0_1 t291 _ (by first | exact hG | exact GL.below hG (by repeat (first | (with_reducible first | exact HB.out | apply qaf | apply qaa | apply qae | refine qad ?_ GE289.out) | exact HB.out)))  A10.out).mono ?_
                rintro e w20 ⟨rfl, hb⟩
                refine ⟨_, rfl, ?_⟩
                have n0_ := Aside0.mk (qaj (g := gb289) (o := .cells #[.string a0_0, .int .i64 a0_1, .string a0_2] 23 (0, 0)) (by (with_reducible repeat (first | refine qac ?_ _ | refine qag ?_ | refine qab ?_ _)); exact BK289.out) hb)
                have n1_ := Aside0.mk (qak (by repeat (first | (with_reducible first | exact HB.out | apply qaf | apply qaa | apply qae | refine qad ?_ GE289.out) | exact HB.out)) hb)
                clear BK289
                clear HB
                have BK289 := n0_
                have HB := n1_
                clear n0_ n1_
                (try clear hb)
                (try clear hb2)
                (try clear hk)
                (try clear hi)
                refine hK.out _ _ ⟨(qai BK289.out 0).trans rfl, (qai BK289.out 1).trans rfl, (qai BK289.out 2).trans rfl⟩ (fun hHeld => ?_)
                clear hK K
                refine norm_ (a' := ?_) ?_ ?_
                rotate_left
                · show Act.put _ (some 18) _ = _
                  simp only [Act.put, List.setIfInBounds_toArray, List.set_cons_zero, List.set_cons_succ, i64_w, i32_w]
                  rfl
                refine pure_ (i := 6) (N := some 19) (v := ?_) (a' := ?_) #[true, true, true, true, true, true, true, false, true, true, false, false, false] rfl rfl (any_of HT_.out (by kernel_rfl)) (fun _ _ _ h => h) (Or.inl ⟨by rfl, ?_⟩) ?_ ?_
                rotate_left
                · intro w'
                  go_simp
                  with_reducible rfl
                rotate_left
                · simp only [Act.put, List.setIfInBounds_toArray, List.set_cons_zero, List.set_cons_succ, i64_w, i32_w]
                  rfl
                refine pure_ (i := 7) (N := some 20) (v := ?_) (a' := ?_) #[true, true, true, true, true, true, true, true, true, true, false, false, false] rfl rfl (any_of HT_.out (by kernel_rfl)) (fun _ _ _ h => h) (Or.inl ⟨by rfl, ?_⟩) ?_ ?_
                rotate_left
                · intro w'
                  go_simp
                  with_reducible rfl
                rotate_left
                · simp only [Act.put, List.setIfInBounds_toArray, List.set_cons_zero, List.set_cons_succ, i64_w, i32_w]
                  rfl
                refine pure_ (i := 10) (N := some 23) (v := ?_) (a' := ?_) #[true, true, true, true, true, true, true, true, true, true, true, false, false] rfl rfl (any_of HT_.out (by kernel_rfl)) (fun _ _ _ h => h) (Or.inl ⟨by rfl, ?_⟩) ?_ ?_
                rotate_left
                · intro w'
                  go_simp
                  with_reducible rfl
                rotate_left
                · simp only [Act.put, List.setIfInBounds_toArray, List.set_cons_zero, List.set_cons_succ, i64_w, i32_w]
                  rfl
                refine pure_ (i := 11) (N := some 24) (v := ?_) (a' := ?_) #[true, true, true, true, true, true, true, true, true, true, true, true, false] rfl rfl (any_of HT_.out (by kernel_rfl)) (fun _ _ _ h => h) (Or.inl ⟨by rfl, ?_⟩) ?_ ?_
                rotate_left
                · intro w'
                  go_simp
                  with_reducible rfl
                rotate_left
                · simp only [Act.put, List.setIfInBounds_toArray, List.set_cons_zero, List.set_cons_succ, i64_w, i32_w]
                  rfl
                refine pure_ (i := 12) (N := some 2) (v := ?_) (a' := ?_) #[true, true, true, true, true, true, true, true, true, true, true, true, true] rfl rfl (any_of HT_.out (by kernel_rfl)) (fun _ _ _ h => h) (Or.inl ⟨by rfl, ?_⟩) ?_ ?_
                rotate_left
                · intro w'
                  go_simp
                  with_reducible rfl
                rotate_left
                · simp only [Act.put, List.setIfInBounds_toArray, List.set_cons_zero, List.set_cons_succ, i64_w, i32_w]
                  rfl
                refine done_ (done_of HT_.out (by kernel_rfl)) ?_
                try go_wp2
                go_ret
                exact ⟨by first | rfl | (simp [qan, qao] <;> rfl) | (simp [*, qan, qao] <;> rfl), by repeat (first | (with_reducible first | exact HB.out | apply qaf | apply qaa | apply qae | refine qad ?_ GE289.out) | exact HB.out)⟩
              · rw [if_neg c14] at H
                exact absurd H (by simp)
            · rw [if_neg c13] at H
              exact absurd H (by simp)
          · rw [if_neg c12] at H
            exact absurd H (by simp)
        · rw [if_neg c11] at H
          exact absurd H (by simp)
      · rw [if_neg c9] at H
        exact absurd H (by simp)
  · replace c3 := Bool.eq_false_iff.mpr c3
    subst c3
    have H1 : (some (⟨#[]⟩ : ByteArray)) = some r := by rw [if_neg (show ¬ (false = true) by decide)] at H; exact H
    clear H
    have H := H1
    clear H1
    obtain rfl := Option.some.inj H
    go_enter Tryz.func10, Tryz.ntmps10
    go_wp2_with (first | ((with_reducible refine qar (N := 1) rfl ?_); refine qaq ?hg (N := 1) ?hd (cs := #[.string a0_0, .int .i64 a0_1, .string a0_2]) (t := 23) ?hr ?_; (case hd => rfl); (case hg => rfl); (case hr => first | (go_simp; done) | (go_simp; rfl)); intro gb289 hg w21 hbox hb; have n0_ := Aside0.mk (qak (by repeat (first | (with_reducible first | exact HB.out | apply qaf | apply qaa | apply qae) | exact HB.out)) hb); have n1_ := Aside0.mk (hbox); have n2_ := Aside0.mk ((by rw [hg]; exact (qap (by repeat (first | (with_reducible first | exact HB.out | apply qaf | apply qaa | apply qae) | exact HB.out))) : w.heap.size ≤ gb289)); have n3_ := Aside0.mk ((by rw [hg]; exact (qap (by repeat (first | (with_reducible first | exact HB.out | apply qaf | apply qaa | apply qae) | exact HB.out))) : w.heap.size ≤ gb289)); clear HB; have HB := n0_; have BK289 := n1_; have GW289 := n2_; have GE289 := n3_; clear n0_ n1_ n2_ n3_; clear hb hbox hg; have hcz22_0 : w21.cell? ⟨gb289, 0, none⟩ = some (.string a0_0) := (qai BK289.out 0).trans rfl; have hcz22_1 : w21.cell? ⟨gb289, 1, none⟩ = some (.int .i64 a0_1) := (qai BK289.out 1).trans rfl; have hcz22_2 : w21.cell? ⟨gb289, 2, none⟩ = some (.string a0_2) := (qai BK289.out 2).trans rfl; have hfz22_0 := qah BK289.out 0; have hfz22_1 := qah BK289.out 1; have hfz22_2 := qah BK289.out 2) | ((with_reducible refine qam (f := 8) rfl ?_); refine goesL_ (some 5) rfl rfl Tryz.func8 (by kernel_rfl) rfl #[.agg #[.string a0_0, .int .i64 a0_1, .string a0_2]] rfl (by (try simp only [List.map_toArray, List.map_cons, List.map_nil]); first | done | rfl | (simp only [List.length_drop, List.length_take]; rfl)) ?_; (with_reducible refine (relation_Right.calls k a0_0 a0_1 a0_2 false _ (by first | exact hG | exact GL.below hG (by repeat (first | (with_reducible first | exact HB.out | apply qaf | apply qaa | apply qae | refine qad ?_ GE289.out) | exact HB.out)))  A2.out).mono ?_); rintro e w23 ⟨rfl, hb⟩; refine ⟨_, rfl, ?_⟩; have n0_ := Aside0.mk (qaj (g := gb289) (o := .cells #[.string a0_0, .int .i64 a0_1, .string a0_2] 23 (0, 0)) (by (with_reducible repeat (first | refine qac ?_ _ | refine qag ?_ | refine qab ?_ _)); exact BK289.out) hb); have n1_ := Aside0.mk (qak (by repeat (first | (with_reducible first | exact HB.out | apply qaf | apply qaa | apply qae | refine qad ?_ GE289.out) | exact HB.out)) hb); clear BK289; clear HB; have BK289 := n0_; have HB := n1_; clear n0_ n1_; (try clear hb); (try clear hb2); (try clear hk); (try clear hi)))
    go_ret
    exact ⟨by first | rfl | (simp [qan, qao] <;> rfl) | (simp [*, qan, qao] <;> rfl), by repeat (first | (with_reducible first | exact HB.out | apply qaf | apply qaa | apply qae | refine qad ?_ GE289.out) | exact HB.out)⟩
def keelsonref3_Print.f (k : Nat) (a0_0 : ByteArray) (a0_1 : Int) (a0_2 : ByteArray) : Option (ByteArray) := (keelsonref3_Right.f k a0_0 a0_1 a0_2).bind fun t293 => (if t293 = true then (if a0_1 = 0 then (some a0_0) else (if a0_0.size + 2 ≤ 9223372036854775807 then ((keelsonref3_Sign.f a0_1).bind fun t294 => (if (a0_0 ++ (⟨#[32, 40]⟩ : ByteArray)).size + t294.size ≤ 9223372036854775807 then (if ((a0_0 ++ (⟨#[32, 40]⟩ : ByteArray)) ++ t294).size + 1 ≤ 9223372036854775807 then (if (((a0_0 ++ (⟨#[32, 40]⟩ : ByteArray)) ++ t294) ++ (⟨#[32]⟩ : ByteArray)).size + a0_2.size ≤ 9223372036854775807 then (if ((((a0_0 ++ (⟨#[32, 40]⟩ : ByteArray)) ++ t294) ++ (⟨#[32]⟩ : ByteArray)) ++ a0_2).size + 1 ≤ 9223372036854775807 then (some (((((a0_0 ++ (⟨#[32, 40]⟩ : ByteArray)) ++ t294) ++ (⟨#[32]⟩ : ByteArray)) ++ a0_2) ++ (⟨#[41]⟩ : ByteArray))) else (none)) else (none)) else (none)) else (none))) else (none))) else (some (⟨#[]⟩ : ByteArray)))
theorem keelsonref3_Print.mono : ∀ a0 a1 a2 k, LeO (keelsonref3_Print.f k a0 a1 a2) (keelsonref3_Print.f (k + 1) a0 a1 a2) := by
  intro a0 a1 a2 k
  unfold keelsonref3_Print.f
  repeat' first
      | (with_reducible exact keelsonref3_Right.mono _ _ _ _)
      | (with_reducible exact LeO.refl _)
      | (with_reducible exact LeO.none _)
      | (with_reducible refine LeO.ite ?_ ?_)
      | (with_reducible refine LeO.bind ?_ (fun _ => ?_))
      | exact keelsonref3_Right.mono _ _ _ _
      | exact LeO.none _
      | refine LeO.ite ?_ ?_
      | refine LeO.bind ?_ (fun _ => ?_)
set_option maxHeartbeats 8000000 in
set_option maxRecDepth 100000 in
theorem keelsonref3_Print.calls (k : Nat) (a0_0 : ByteArray) (a0_1 : Int) (a0_2 : ByteArray) (r : ByteArray) (w : World) (hG : GL w) (h : keelsonref3_Print.f k a0_0 a0_1 a0_2 = some r) :
    Calls Tryz.prog 11 #[.agg #[.string a0_0, .int .i64 a0_1, .string a0_2]] w fun e w' => e = .returned (.string r) ∧ Below w.heap.size w w' := by
  have hu23 := Tryz.underlying23
  have HB := Aside0.mk (Below.refl w.heap.size w)
  have H : ((keelsonref3_Right.f k a0_0 a0_1 a0_2).bind fun t293 => (if t293 = true then (if a0_1 = 0 then (some a0_0) else (if a0_0.size + 2 ≤ 9223372036854775807 then ((keelsonref3_Sign.f a0_1).bind fun t294 => (if (a0_0 ++ (⟨#[32, 40]⟩ : ByteArray)).size + t294.size ≤ 9223372036854775807 then (if ((a0_0 ++ (⟨#[32, 40]⟩ : ByteArray)) ++ t294).size + 1 ≤ 9223372036854775807 then (if (((a0_0 ++ (⟨#[32, 40]⟩ : ByteArray)) ++ t294) ++ (⟨#[32]⟩ : ByteArray)).size + a0_2.size ≤ 9223372036854775807 then (if ((((a0_0 ++ (⟨#[32, 40]⟩ : ByteArray)) ++ t294) ++ (⟨#[32]⟩ : ByteArray)) ++ a0_2).size + 1 ≤ 9223372036854775807 then (some (((((a0_0 ++ (⟨#[32, 40]⟩ : ByteArray)) ++ t294) ++ (⟨#[32]⟩ : ByteArray)) ++ a0_2) ++ (⟨#[41]⟩ : ByteArray))) else (none)) else (none)) else (none)) else (none))) else (none))) else (some (⟨#[]⟩ : ByteArray)))) = some r := h
  clear h
  replace H := Option.bind_eq_some_iff.mp H
  obtain ⟨t293, A20, H⟩ := H
  replace H : (if t293 = true then (if a0_1 = 0 then (some a0_0) else (if a0_0.size + 2 ≤ 9223372036854775807 then ((keelsonref3_Sign.f a0_1).bind fun t294 => (if (a0_0 ++ (⟨#[32, 40]⟩ : ByteArray)).size + t294.size ≤ 9223372036854775807 then (if ((a0_0 ++ (⟨#[32, 40]⟩ : ByteArray)) ++ t294).size + 1 ≤ 9223372036854775807 then (if (((a0_0 ++ (⟨#[32, 40]⟩ : ByteArray)) ++ t294) ++ (⟨#[32]⟩ : ByteArray)).size + a0_2.size ≤ 9223372036854775807 then (if ((((a0_0 ++ (⟨#[32, 40]⟩ : ByteArray)) ++ t294) ++ (⟨#[32]⟩ : ByteArray)) ++ a0_2).size + 1 ≤ 9223372036854775807 then (some (((((a0_0 ++ (⟨#[32, 40]⟩ : ByteArray)) ++ t294) ++ (⟨#[32]⟩ : ByteArray)) ++ a0_2) ++ (⟨#[41]⟩ : ByteArray))) else (none)) else (none)) else (none)) else (none))) else (none))) else (some (⟨#[]⟩ : ByteArray))) = some r := H
  have A2 := Aside0.mk A20
  clear A20
  by_cases c3 : t293 = true
  · subst c3
    have H1 : (if a0_1 = 0 then (some a0_0) else (if a0_0.size + 2 ≤ 9223372036854775807 then ((keelsonref3_Sign.f a0_1).bind fun t294 => (if (a0_0 ++ (⟨#[32, 40]⟩ : ByteArray)).size + t294.size ≤ 9223372036854775807 then (if ((a0_0 ++ (⟨#[32, 40]⟩ : ByteArray)) ++ t294).size + 1 ≤ 9223372036854775807 then (if (((a0_0 ++ (⟨#[32, 40]⟩ : ByteArray)) ++ t294) ++ (⟨#[32]⟩ : ByteArray)).size + a0_2.size ≤ 9223372036854775807 then (if ((((a0_0 ++ (⟨#[32, 40]⟩ : ByteArray)) ++ t294) ++ (⟨#[32]⟩ : ByteArray)) ++ a0_2).size + 1 ≤ 9223372036854775807 then (some (((((a0_0 ++ (⟨#[32, 40]⟩ : ByteArray)) ++ t294) ++ (⟨#[32]⟩ : ByteArray)) ++ a0_2) ++ (⟨#[41]⟩ : ByteArray))) else (none)) else (none)) else (none)) else (none))) else (none))) = some r := by rw [if_pos rfl] at H; exact H
    clear H
    have H := H1
    clear H1
    by_cases c4 : a0_1 = 0
    · rw [if_pos c4] at H
      have c4b0 : (a0_1 == 0) = true := beq_iff_eq.mpr c4
      have c4b1 : (a0_1 != 0) = false := bne_eq_false_iff_eq.mpr c4
      clear c4
      obtain rfl := Option.some.inj H
      go_enter Tryz.func11, Tryz.ntmps11
      go_wp2_with (first | ((with_reducible refine qar (N := 1) rfl ?_); refine qaq ?hg (N := 1) ?hd (cs := #[.string a0_0, .int .i64 a0_1, .string a0_2]) (t := 23) ?hr ?_; (case hd => rfl); (case hg => rfl); (case hr => first | (go_simp; done) | (go_simp; rfl)); intro gb292 hg w5 hbox hb; have n0_ := Aside0.mk (qak (by repeat (first | (with_reducible first | exact HB.out | apply qaf | apply qaa | apply qae) | exact HB.out)) hb); have n1_ := Aside0.mk (hbox); have n2_ := Aside0.mk ((by rw [hg]; exact (qap (by repeat (first | (with_reducible first | exact HB.out | apply qaf | apply qaa | apply qae) | exact HB.out))) : w.heap.size ≤ gb292)); have n3_ := Aside0.mk ((by rw [hg]; exact (qap (by repeat (first | (with_reducible first | exact HB.out | apply qaf | apply qaa | apply qae) | exact HB.out))) : w.heap.size ≤ gb292)); clear HB; have HB := n0_; have BK292 := n1_; have GW292 := n2_; have GE292 := n3_; clear n0_ n1_ n2_ n3_; clear hb hbox hg; have hcz6_0 : w5.cell? ⟨gb292, 0, none⟩ = some (.string a0_0) := (qai BK292.out 0).trans rfl; have hcz6_1 : w5.cell? ⟨gb292, 1, none⟩ = some (.int .i64 a0_1) := (qai BK292.out 1).trans rfl; have hcz6_2 : w5.cell? ⟨gb292, 2, none⟩ = some (.string a0_2) := (qai BK292.out 2).trans rfl; have hfz6_0 := qah BK292.out 0; have hfz6_1 := qah BK292.out 1; have hfz6_2 := qah BK292.out 2) | (go_at_call 9; (with_reducible refine (keelsonref3_Right.calls k a0_0 a0_1 a0_2 true _ (by first | exact hG | exact GL.below hG (by repeat (first | (with_reducible first | exact HB.out | apply qaf | apply qaa | apply qae | refine qad ?_ GE292.out) | exact HB.out)))  A2.out).mono ?_); rintro e w7 ⟨rfl, hb⟩; have n0_ := Aside0.mk (qaj (g := gb292) (o := .cells #[.string a0_0, .int .i64 a0_1, .string a0_2] 23 (0, 0)) (by (with_reducible repeat (first | refine qac ?_ _ | refine qag ?_ | refine qab ?_ _)); exact BK292.out) hb); have n1_ := Aside0.mk (qak (by repeat (first | (with_reducible first | exact HB.out | apply qaf | apply qaa | apply qae | refine qad ?_ GE292.out) | exact HB.out)) hb); clear BK292; clear HB; have BK292 := n0_; have HB := n1_; clear n0_ n1_; (try clear hb); (try clear hb2); (try clear hk); (try clear hi); have hcz8_0 : w7.cell? ⟨gb292, 0, none⟩ = some (.string a0_0) := (qai BK292.out 0).trans rfl; have hcz8_1 : w7.cell? ⟨gb292, 1, none⟩ = some (.int .i64 a0_1) := (qai BK292.out 1).trans rfl; have hcz8_2 : w7.cell? ⟨gb292, 2, none⟩ = some (.string a0_2) := (qai BK292.out 2).trans rfl; have hfz8_0 := qah BK292.out 0; have hfz8_1 := qah BK292.out 1; have hfz8_2 := qah BK292.out 2))
      repeat (go_quiet (first | ((with_reducible refine qar (N := 1) rfl ?_); refine qaq ?hg (N := 1) ?hd (cs := #[.string a0_0, .int .i64 a0_1, .string a0_2]) (t := 23) ?hr ?_; (case hd => rfl); (case hg => rfl); (case hr => first | (go_simp; done) | (go_simp; rfl)); intro gb292 hg w5 hbox hb; have n0_ := Aside0.mk (qak (by repeat (first | (with_reducible first | exact HB.out | apply qaf | apply qaa | apply qae) | exact HB.out)) hb); have n1_ := Aside0.mk (hbox); have n2_ := Aside0.mk ((by rw [hg]; exact (qap (by repeat (first | (with_reducible first | exact HB.out | apply qaf | apply qaa | apply qae) | exact HB.out))) : w.heap.size ≤ gb292)); have n3_ := Aside0.mk ((by rw [hg]; exact (qap (by repeat (first | (with_reducible first | exact HB.out | apply qaf | apply qaa | apply qae) | exact HB.out))) : w.heap.size ≤ gb292)); clear HB; have HB := n0_; have BK292 := n1_; have GW292 := n2_; have GE292 := n3_; clear n0_ n1_ n2_ n3_; clear hb hbox hg; have hcz6_0 : w5.cell? ⟨gb292, 0, none⟩ = some (.string a0_0) := (qai BK292.out 0).trans rfl; have hcz6_1 : w5.cell? ⟨gb292, 1, none⟩ = some (.int .i64 a0_1) := (qai BK292.out 1).trans rfl; have hcz6_2 : w5.cell? ⟨gb292, 2, none⟩ = some (.string a0_2) := (qai BK292.out 2).trans rfl; have hfz6_0 := qah BK292.out 0; have hfz6_1 := qah BK292.out 1; have hfz6_2 := qah BK292.out 2) | (go_at_call 9; (with_reducible refine (keelsonref3_Right.calls k a0_0 a0_1 a0_2 true _ (by first | exact hG | exact GL.below hG (by repeat (first | (with_reducible first | exact HB.out | apply qaf | apply qaa | apply qae | refine qad ?_ GE292.out) | exact HB.out)))  A2.out).mono ?_); rintro e w7 ⟨rfl, hb⟩; have n0_ := Aside0.mk (qaj (g := gb292) (o := .cells #[.string a0_0, .int .i64 a0_1, .string a0_2] 23 (0, 0)) (by (with_reducible repeat (first | refine qac ?_ _ | refine qag ?_ | refine qab ?_ _)); exact BK292.out) hb); have n1_ := Aside0.mk (qak (by repeat (first | (with_reducible first | exact HB.out | apply qaf | apply qaa | apply qae | refine qad ?_ GE292.out) | exact HB.out)) hb); clear BK292; clear HB; have BK292 := n0_; have HB := n1_; clear n0_ n1_; (try clear hb); (try clear hb2); (try clear hk); (try clear hi); have hcz8_0 : w7.cell? ⟨gb292, 0, none⟩ = some (.string a0_0) := (qai BK292.out 0).trans rfl; have hcz8_1 : w7.cell? ⟨gb292, 1, none⟩ = some (.int .i64 a0_1) := (qai BK292.out 1).trans rfl; have hcz8_2 : w7.cell? ⟨gb292, 2, none⟩ = some (.string a0_2) := (qai BK292.out 2).trans rfl; have hfz8_0 := qah BK292.out 0; have hfz8_1 := qah BK292.out 1; have hfz8_2 := qah BK292.out 2)); try go_wp2_with (first | ((with_reducible refine qar (N := 1) rfl ?_); refine qaq ?hg (N := 1) ?hd (cs := #[.string a0_0, .int .i64 a0_1, .string a0_2]) (t := 23) ?hr ?_; (case hd => rfl); (case hg => rfl); (case hr => first | (go_simp; done) | (go_simp; rfl)); intro gb292 hg w5 hbox hb; have n0_ := Aside0.mk (qak (by repeat (first | (with_reducible first | exact HB.out | apply qaf | apply qaa | apply qae) | exact HB.out)) hb); have n1_ := Aside0.mk (hbox); have n2_ := Aside0.mk ((by rw [hg]; exact (qap (by repeat (first | (with_reducible first | exact HB.out | apply qaf | apply qaa | apply qae) | exact HB.out))) : w.heap.size ≤ gb292)); have n3_ := Aside0.mk ((by rw [hg]; exact (qap (by repeat (first | (with_reducible first | exact HB.out | apply qaf | apply qaa | apply qae) | exact HB.out))) : w.heap.size ≤ gb292)); clear HB; have HB := n0_; have BK292 := n1_; have GW292 := n2_; have GE292 := n3_; clear n0_ n1_ n2_ n3_; clear hb hbox hg; have hcz6_0 : w5.cell? ⟨gb292, 0, none⟩ = some (.string a0_0) := (qai BK292.out 0).trans rfl; have hcz6_1 : w5.cell? ⟨gb292, 1, none⟩ = some (.int .i64 a0_1) := (qai BK292.out 1).trans rfl; have hcz6_2 : w5.cell? ⟨gb292, 2, none⟩ = some (.string a0_2) := (qai BK292.out 2).trans rfl; have hfz6_0 := qah BK292.out 0; have hfz6_1 := qah BK292.out 1; have hfz6_2 := qah BK292.out 2) | (go_at_call 9; (with_reducible refine (keelsonref3_Right.calls k a0_0 a0_1 a0_2 true _ (by first | exact hG | exact GL.below hG (by repeat (first | (with_reducible first | exact HB.out | apply qaf | apply qaa | apply qae | refine qad ?_ GE292.out) | exact HB.out)))  A2.out).mono ?_); rintro e w7 ⟨rfl, hb⟩; have n0_ := Aside0.mk (qaj (g := gb292) (o := .cells #[.string a0_0, .int .i64 a0_1, .string a0_2] 23 (0, 0)) (by (with_reducible repeat (first | refine qac ?_ _ | refine qag ?_ | refine qab ?_ _)); exact BK292.out) hb); have n1_ := Aside0.mk (qak (by repeat (first | (with_reducible first | exact HB.out | apply qaf | apply qaa | apply qae | refine qad ?_ GE292.out) | exact HB.out)) hb); clear BK292; clear HB; have BK292 := n0_; have HB := n1_; clear n0_ n1_; (try clear hb); (try clear hb2); (try clear hk); (try clear hi); have hcz8_0 : w7.cell? ⟨gb292, 0, none⟩ = some (.string a0_0) := (qai BK292.out 0).trans rfl; have hcz8_1 : w7.cell? ⟨gb292, 1, none⟩ = some (.int .i64 a0_1) := (qai BK292.out 1).trans rfl; have hcz8_2 : w7.cell? ⟨gb292, 2, none⟩ = some (.string a0_2) := (qai BK292.out 2).trans rfl; have hfz8_0 := qah BK292.out 0; have hfz8_1 := qah BK292.out 1; have hfz8_2 := qah BK292.out 2)))
      go_ret
      exact ⟨by first | rfl | (simp [qan, qao] <;> rfl) | (simp [*, qan, qao] <;> rfl), by repeat (first | (with_reducible first | exact HB.out | apply qaf | apply qaa | apply qae | refine qad ?_ GE292.out) | exact HB.out)⟩
    · rw [if_neg c4] at H
      have c4b0 : (a0_1 == 0) = false := beq_eq_false_iff_ne.mpr c4
      have c4b1 : (a0_1 != 0) = true := bne_iff_ne.mpr c4
      by_cases c9 : a0_0.size + 2 ≤ 9223372036854775807
      · rw [if_pos c9] at H
        have c9b0 := eq_true c9
        have c9b1 : decide (a0_0.size + 2 ≤ 9223372036854775807) = true := decide_eq_true c9
        try have c9b2 : (9223372036854775807 < a0_0.size + 2) = False := eq_false (Nat.not_lt.2 c9)
        replace H := Option.bind_eq_some_iff.mp H
        obtain ⟨t294, A100, H⟩ := H
        replace H : (if (a0_0 ++ (⟨#[32, 40]⟩ : ByteArray)).size + t294.size ≤ 9223372036854775807 then (if ((a0_0 ++ (⟨#[32, 40]⟩ : ByteArray)) ++ t294).size + 1 ≤ 9223372036854775807 then (if (((a0_0 ++ (⟨#[32, 40]⟩ : ByteArray)) ++ t294) ++ (⟨#[32]⟩ : ByteArray)).size + a0_2.size ≤ 9223372036854775807 then (if ((((a0_0 ++ (⟨#[32, 40]⟩ : ByteArray)) ++ t294) ++ (⟨#[32]⟩ : ByteArray)) ++ a0_2).size + 1 ≤ 9223372036854775807 then (some (((((a0_0 ++ (⟨#[32, 40]⟩ : ByteArray)) ++ t294) ++ (⟨#[32]⟩ : ByteArray)) ++ a0_2) ++ (⟨#[41]⟩ : ByteArray))) else (none)) else (none)) else (none)) else (none)) = some r := H
        have A10 := Aside0.mk A100
        clear A100
        by_cases c11 : (a0_0 ++ (⟨#[32, 40]⟩ : ByteArray)).size + t294.size ≤ 9223372036854775807
        · rw [if_pos c11] at H
          have c11b0 := eq_true c11
          have c11b1 : decide ((a0_0 ++ (⟨#[32, 40]⟩ : ByteArray)).size + t294.size ≤ 9223372036854775807) = true := decide_eq_true c11
          try have c11b2 : (9223372036854775807 < (a0_0 ++ (⟨#[32, 40]⟩ : ByteArray)).size + t294.size) = False := eq_false (Nat.not_lt.2 c11)
          (try (have c11n := c11; simp only [ByteArray.size_append, size_of_lit, List.size_toArray, List.length_cons, List.length_nil, Nat.zero_add, Nat.reduceAdd] at c11n; have c11n1 := eq_false (Nat.not_lt.2 c11n)))
          by_cases c12 : ((a0_0 ++ (⟨#[32, 40]⟩ : ByteArray)) ++ t294).size + 1 ≤ 9223372036854775807
          · rw [if_pos c12] at H
            have c12b0 := eq_true c12
            have c12b1 : decide (((a0_0 ++ (⟨#[32, 40]⟩ : ByteArray)) ++ t294).size + 1 ≤ 9223372036854775807) = true := decide_eq_true c12
            try have c12b2 : (9223372036854775807 < ((a0_0 ++ (⟨#[32, 40]⟩ : ByteArray)) ++ t294).size + 1) = False := eq_false (Nat.not_lt.2 c12)
            (try (have c12n := c12; simp only [ByteArray.size_append, size_of_lit, List.size_toArray, List.length_cons, List.length_nil, Nat.zero_add, Nat.reduceAdd] at c12n; have c12n1 := eq_false (Nat.not_lt.2 c12n)))
            by_cases c13 : (((a0_0 ++ (⟨#[32, 40]⟩ : ByteArray)) ++ t294) ++ (⟨#[32]⟩ : ByteArray)).size + a0_2.size ≤ 9223372036854775807
            · rw [if_pos c13] at H
              have c13b0 := eq_true c13
              have c13b1 : decide ((((a0_0 ++ (⟨#[32, 40]⟩ : ByteArray)) ++ t294) ++ (⟨#[32]⟩ : ByteArray)).size + a0_2.size ≤ 9223372036854775807) = true := decide_eq_true c13
              try have c13b2 : (9223372036854775807 < (((a0_0 ++ (⟨#[32, 40]⟩ : ByteArray)) ++ t294) ++ (⟨#[32]⟩ : ByteArray)).size + a0_2.size) = False := eq_false (Nat.not_lt.2 c13)
              (try (have c13n := c13; simp only [ByteArray.size_append, size_of_lit, List.size_toArray, List.length_cons, List.length_nil, Nat.zero_add, Nat.reduceAdd] at c13n; have c13n1 := eq_false (Nat.not_lt.2 c13n)))
              by_cases c14 : ((((a0_0 ++ (⟨#[32, 40]⟩ : ByteArray)) ++ t294) ++ (⟨#[32]⟩ : ByteArray)) ++ a0_2).size + 1 ≤ 9223372036854775807
              · rw [if_pos c14] at H
                have c14b0 := eq_true c14
                have c14b1 : decide (((((a0_0 ++ (⟨#[32, 40]⟩ : ByteArray)) ++ t294) ++ (⟨#[32]⟩ : ByteArray)) ++ a0_2).size + 1 ≤ 9223372036854775807) = true := decide_eq_true c14
                try have c14b2 : (9223372036854775807 < ((((a0_0 ++ (⟨#[32, 40]⟩ : ByteArray)) ++ t294) ++ (⟨#[32]⟩ : ByteArray)) ++ a0_2).size + 1) = False := eq_false (Nat.not_lt.2 c14)
                (try (have c14n := c14; simp only [ByteArray.size_append, size_of_lit, List.size_toArray, List.length_cons, List.length_nil, Nat.zero_add, Nat.reduceAdd] at c14n; have c14n1 := eq_false (Nat.not_lt.2 c14n)))
                obtain rfl := Option.some.inj H
                go_enter Tryz.func11, Tryz.ntmps11
                go_wp2_with (first | ((with_reducible refine qar (N := 1) rfl ?_); refine qaq ?hg (N := 1) ?hd (cs := #[.string a0_0, .int .i64 a0_1, .string a0_2]) (t := 23) ?hr ?_; (case hd => rfl); (case hg => rfl); (case hr => first | (go_simp; done) | (go_simp; rfl)); intro gb292 hg w15 hbox hb; have n0_ := Aside0.mk (qak (by repeat (first | (with_reducible first | exact HB.out | apply qaf | apply qaa | apply qae) | exact HB.out)) hb); have n1_ := Aside0.mk (hbox); have n2_ := Aside0.mk ((by rw [hg]; exact (qap (by repeat (first | (with_reducible first | exact HB.out | apply qaf | apply qaa | apply qae) | exact HB.out))) : w.heap.size ≤ gb292)); have n3_ := Aside0.mk ((by rw [hg]; exact (qap (by repeat (first | (with_reducible first | exact HB.out | apply qaf | apply qaa | apply qae) | exact HB.out))) : w.heap.size ≤ gb292)); clear HB; have HB := n0_; have BK292 := n1_; have GW292 := n2_; have GE292 := n3_; clear n0_ n1_ n2_ n3_; clear hb hbox hg; have hcz16_0 : w15.cell? ⟨gb292, 0, none⟩ = some (.string a0_0) := (qai BK292.out 0).trans rfl; have hcz16_1 : w15.cell? ⟨gb292, 1, none⟩ = some (.int .i64 a0_1) := (qai BK292.out 1).trans rfl; have hcz16_2 : w15.cell? ⟨gb292, 2, none⟩ = some (.string a0_2) := (qai BK292.out 2).trans rfl; have hfz16_0 := qah BK292.out 0; have hfz16_1 := qah BK292.out 1; have hfz16_2 := qah BK292.out 2) | (go_at_call 9; (with_reducible refine (keelsonref3_Right.calls k a0_0 a0_1 a0_2 true _ (by first | exact hG | exact GL.below hG (by repeat (first | (with_reducible first | exact HB.out | apply qaf | apply qaa | apply qae | refine qad ?_ GE292.out) | exact HB.out)))  A2.out).mono ?_); rintro e w17 ⟨rfl, hb⟩; have n0_ := Aside0.mk (qaj (g := gb292) (o := .cells #[.string a0_0, .int .i64 a0_1, .string a0_2] 23 (0, 0)) (by (with_reducible repeat (first | refine qac ?_ _ | refine qag ?_ | refine qab ?_ _)); exact BK292.out) hb); have n1_ := Aside0.mk (qak (by repeat (first | (with_reducible first | exact HB.out | apply qaf | apply qaa | apply qae | refine qad ?_ GE292.out) | exact HB.out)) hb); clear BK292; clear HB; have BK292 := n0_; have HB := n1_; clear n0_ n1_; (try clear hb); (try clear hb2); (try clear hk); (try clear hi); have hcz18_0 : w17.cell? ⟨gb292, 0, none⟩ = some (.string a0_0) := (qai BK292.out 0).trans rfl; have hcz18_1 : w17.cell? ⟨gb292, 1, none⟩ = some (.int .i64 a0_1) := (qai BK292.out 1).trans rfl; have hcz18_2 : w17.cell? ⟨gb292, 2, none⟩ = some (.string a0_2) := (qai BK292.out 2).trans rfl; have hfz18_0 := qah BK292.out 0; have hfz18_1 := qah BK292.out 1; have hfz18_2 := qah BK292.out 2) | (go_at_call 25; (with_reducible refine (keelsonref3_Sign.calls a0_1 t294 _ (by first | exact hG | exact GL.below hG (by repeat (first | (with_reducible first | exact HB.out | apply qaf | apply qaa | apply qae | refine qad ?_ GE292.out) | exact HB.out)))  A10.out).mono ?_); rintro e w' ⟨rfl, ⟨nd, rfl⟩⟩; (try first | exact ⟨rfl, _, World.drewN_drewN _ _ _⟩ | exact ⟨rfl, _, Eq.trans (World.drewN_drewN _ _ _) (congrArg (World.drewN _) (Nat.add_assoc _ _ _))⟩)))
                repeat (go_quiet (first | ((with_reducible refine qar (N := 1) rfl ?_); refine qaq ?hg (N := 1) ?hd (cs := #[.string a0_0, .int .i64 a0_1, .string a0_2]) (t := 23) ?hr ?_; (case hd => rfl); (case hg => rfl); (case hr => first | (go_simp; done) | (go_simp; rfl)); intro gb292 hg w15 hbox hb; have n0_ := Aside0.mk (qak (by repeat (first | (with_reducible first | exact HB.out | apply qaf | apply qaa | apply qae) | exact HB.out)) hb); have n1_ := Aside0.mk (hbox); have n2_ := Aside0.mk ((by rw [hg]; exact (qap (by repeat (first | (with_reducible first | exact HB.out | apply qaf | apply qaa | apply qae) | exact HB.out))) : w.heap.size ≤ gb292)); have n3_ := Aside0.mk ((by rw [hg]; exact (qap (by repeat (first | (with_reducible first | exact HB.out | apply qaf | apply qaa | apply qae) | exact HB.out))) : w.heap.size ≤ gb292)); clear HB; have HB := n0_; have BK292 := n1_; have GW292 := n2_; have GE292 := n3_; clear n0_ n1_ n2_ n3_; clear hb hbox hg; have hcz16_0 : w15.cell? ⟨gb292, 0, none⟩ = some (.string a0_0) := (qai BK292.out 0).trans rfl; have hcz16_1 : w15.cell? ⟨gb292, 1, none⟩ = some (.int .i64 a0_1) := (qai BK292.out 1).trans rfl; have hcz16_2 : w15.cell? ⟨gb292, 2, none⟩ = some (.string a0_2) := (qai BK292.out 2).trans rfl; have hfz16_0 := qah BK292.out 0; have hfz16_1 := qah BK292.out 1; have hfz16_2 := qah BK292.out 2) | (go_at_call 9; (with_reducible refine (keelsonref3_Right.calls k a0_0 a0_1 a0_2 true _ (by first | exact hG | exact GL.below hG (by repeat (first | (with_reducible first | exact HB.out | apply qaf | apply qaa | apply qae | refine qad ?_ GE292.out) | exact HB.out)))  A2.out).mono ?_); rintro e w17 ⟨rfl, hb⟩; have n0_ := Aside0.mk (qaj (g := gb292) (o := .cells #[.string a0_0, .int .i64 a0_1, .string a0_2] 23 (0, 0)) (by (with_reducible repeat (first | refine qac ?_ _ | refine qag ?_ | refine qab ?_ _)); exact BK292.out) hb); have n1_ := Aside0.mk (qak (by repeat (first | (with_reducible first | exact HB.out | apply qaf | apply qaa | apply qae | refine qad ?_ GE292.out) | exact HB.out)) hb); clear BK292; clear HB; have BK292 := n0_; have HB := n1_; clear n0_ n1_; (try clear hb); (try clear hb2); (try clear hk); (try clear hi); have hcz18_0 : w17.cell? ⟨gb292, 0, none⟩ = some (.string a0_0) := (qai BK292.out 0).trans rfl; have hcz18_1 : w17.cell? ⟨gb292, 1, none⟩ = some (.int .i64 a0_1) := (qai BK292.out 1).trans rfl; have hcz18_2 : w17.cell? ⟨gb292, 2, none⟩ = some (.string a0_2) := (qai BK292.out 2).trans rfl; have hfz18_0 := qah BK292.out 0; have hfz18_1 := qah BK292.out 1; have hfz18_2 := qah BK292.out 2) | (go_at_call 25; (with_reducible refine (keelsonref3_Sign.calls a0_1 t294 _ (by first | exact hG | exact GL.below hG (by repeat (first | (with_reducible first | exact HB.out | apply qaf | apply qaa | apply qae | refine qad ?_ GE292.out) | exact HB.out)))  A10.out).mono ?_); rintro e w' ⟨rfl, ⟨nd, rfl⟩⟩; (try first | exact ⟨rfl, _, World.drewN_drewN _ _ _⟩ | exact ⟨rfl, _, Eq.trans (World.drewN_drewN _ _ _) (congrArg (World.drewN _) (Nat.add_assoc _ _ _))⟩))); try go_wp2_with (first | ((with_reducible refine qar (N := 1) rfl ?_); refine qaq ?hg (N := 1) ?hd (cs := #[.string a0_0, .int .i64 a0_1, .string a0_2]) (t := 23) ?hr ?_; (case hd => rfl); (case hg => rfl); (case hr => first | (go_simp; done) | (go_simp; rfl)); intro gb292 hg w15 hbox hb; have n0_ := Aside0.mk (qak (by repeat (first | (with_reducible first | exact HB.out | apply qaf | apply qaa | apply qae) | exact HB.out)) hb); have n1_ := Aside0.mk (hbox); have n2_ := Aside0.mk ((by rw [hg]; exact (qap (by repeat (first | (with_reducible first | exact HB.out | apply qaf | apply qaa | apply qae) | exact HB.out))) : w.heap.size ≤ gb292)); have n3_ := Aside0.mk ((by rw [hg]; exact (qap (by repeat (first | (with_reducible first | exact HB.out | apply qaf | apply qaa | apply qae) | exact HB.out))) : w.heap.size ≤ gb292)); clear HB; have HB := n0_; have BK292 := n1_; have GW292 := n2_; have GE292 := n3_; clear n0_ n1_ n2_ n3_; clear hb hbox hg; have hcz16_0 : w15.cell? ⟨gb292, 0, none⟩ = some (.string a0_0) := (qai BK292.out 0).trans rfl; have hcz16_1 : w15.cell? ⟨gb292, 1, none⟩ = some (.int .i64 a0_1) := (qai BK292.out 1).trans rfl; have hcz16_2 : w15.cell? ⟨gb292, 2, none⟩ = some (.string a0_2) := (qai BK292.out 2).trans rfl; have hfz16_0 := qah BK292.out 0; have hfz16_1 := qah BK292.out 1; have hfz16_2 := qah BK292.out 2) | (go_at_call 9; (with_reducible refine (keelsonref3_Right.calls k a0_0 a0_1 a0_2 true _ (by first | exact hG | exact GL.below hG (by repeat (first | (with_reducible first | exact HB.out | apply qaf | apply qaa | apply qae | refine qad ?_ GE292.out) | exact HB.out)))  A2.out).mono ?_); rintro e w17 ⟨rfl, hb⟩; have n0_ := Aside0.mk (qaj (g := gb292) (o := .cells #[.string a0_0, .int .i64 a0_1, .string a0_2] 23 (0, 0)) (by (with_reducible repeat (first | refine qac ?_ _ | refine qag ?_ | refine qab ?_ _)); exact BK292.out) hb); have n1_ := Aside0.mk (qak (by repeat (first | (with_reducible first | exact HB.out | apply qaf | apply qaa | apply qae | refine qad ?_ GE292.out) | exact HB.out)) hb); clear BK292; clear HB; have BK292 := n0_; have HB := n1_; clear n0_ n1_; (try clear hb); (try clear hb2); (try clear hk); (try clear hi); have hcz18_0 : w17.cell? ⟨gb292, 0, none⟩ = some (.string a0_0) := (qai BK292.out 0).trans rfl; have hcz18_1 : w17.cell? ⟨gb292, 1, none⟩ = some (.int .i64 a0_1) := (qai BK292.out 1).trans rfl; have hcz18_2 : w17.cell? ⟨gb292, 2, none⟩ = some (.string a0_2) := (qai BK292.out 2).trans rfl; have hfz18_0 := qah BK292.out 0; have hfz18_1 := qah BK292.out 1; have hfz18_2 := qah BK292.out 2) | (go_at_call 25; (with_reducible refine (keelsonref3_Sign.calls a0_1 t294 _ (by first | exact hG | exact GL.below hG (by repeat (first | (with_reducible first | exact HB.out | apply qaf | apply qaa | apply qae | refine qad ?_ GE292.out) | exact HB.out)))  A10.out).mono ?_); rintro e w' ⟨rfl, ⟨nd, rfl⟩⟩; (try first | exact ⟨rfl, _, World.drewN_drewN _ _ _⟩ | exact ⟨rfl, _, Eq.trans (World.drewN_drewN _ _ _) (congrArg (World.drewN _) (Nat.add_assoc _ _ _))⟩))))
                go_ret
                exact ⟨by first | rfl | (simp [qan, qao] <;> rfl) | (simp [*, qan, qao] <;> rfl), by repeat (first | (with_reducible first | exact HB.out | apply qaf | apply qaa | apply qae | refine qad ?_ GE292.out) | exact HB.out)⟩
              · rw [if_neg c14] at H
                exact absurd H (by simp)
            · rw [if_neg c13] at H
              exact absurd H (by simp)
          · rw [if_neg c12] at H
            exact absurd H (by simp)
        · rw [if_neg c11] at H
          exact absurd H (by simp)
      · rw [if_neg c9] at H
        exact absurd H (by simp)
  · replace c3 := Bool.eq_false_iff.mpr c3
    subst c3
    have H1 : (some (⟨#[]⟩ : ByteArray)) = some r := by rw [if_neg (show ¬ (false = true) by decide)] at H; exact H
    clear H
    have H := H1
    clear H1
    obtain rfl := Option.some.inj H
    go_enter Tryz.func11, Tryz.ntmps11
    go_wp2_with (first | ((with_reducible refine qar (N := 1) rfl ?_); refine qaq ?hg (N := 1) ?hd (cs := #[.string a0_0, .int .i64 a0_1, .string a0_2]) (t := 23) ?hr ?_; (case hd => rfl); (case hg => rfl); (case hr => first | (go_simp; done) | (go_simp; rfl)); intro gb292 hg w19 hbox hb; have n0_ := Aside0.mk (qak (by repeat (first | (with_reducible first | exact HB.out | apply qaf | apply qaa | apply qae) | exact HB.out)) hb); have n1_ := Aside0.mk (hbox); have n2_ := Aside0.mk ((by rw [hg]; exact (qap (by repeat (first | (with_reducible first | exact HB.out | apply qaf | apply qaa | apply qae) | exact HB.out))) : w.heap.size ≤ gb292)); have n3_ := Aside0.mk ((by rw [hg]; exact (qap (by repeat (first | (with_reducible first | exact HB.out | apply qaf | apply qaa | apply qae) | exact HB.out))) : w.heap.size ≤ gb292)); clear HB; have HB := n0_; have BK292 := n1_; have GW292 := n2_; have GE292 := n3_; clear n0_ n1_ n2_ n3_; clear hb hbox hg; have hcz20_0 : w19.cell? ⟨gb292, 0, none⟩ = some (.string a0_0) := (qai BK292.out 0).trans rfl; have hcz20_1 : w19.cell? ⟨gb292, 1, none⟩ = some (.int .i64 a0_1) := (qai BK292.out 1).trans rfl; have hcz20_2 : w19.cell? ⟨gb292, 2, none⟩ = some (.string a0_2) := (qai BK292.out 2).trans rfl; have hfz20_0 := qah BK292.out 0; have hfz20_1 := qah BK292.out 1; have hfz20_2 := qah BK292.out 2) | (go_at_call 9; (with_reducible refine (keelsonref3_Right.calls k a0_0 a0_1 a0_2 false _ (by first | exact hG | exact GL.below hG (by repeat (first | (with_reducible first | exact HB.out | apply qaf | apply qaa | apply qae | refine qad ?_ GE292.out) | exact HB.out)))  A2.out).mono ?_); rintro e w21 ⟨rfl, hb⟩; have n0_ := Aside0.mk (qaj (g := gb292) (o := .cells #[.string a0_0, .int .i64 a0_1, .string a0_2] 23 (0, 0)) (by (with_reducible repeat (first | refine qac ?_ _ | refine qag ?_ | refine qab ?_ _)); exact BK292.out) hb); have n1_ := Aside0.mk (qak (by repeat (first | (with_reducible first | exact HB.out | apply qaf | apply qaa | apply qae | refine qad ?_ GE292.out) | exact HB.out)) hb); clear BK292; clear HB; have BK292 := n0_; have HB := n1_; clear n0_ n1_; (try clear hb); (try clear hb2); (try clear hk); (try clear hi)))
    repeat (go_quiet (first | ((with_reducible refine qar (N := 1) rfl ?_); refine qaq ?hg (N := 1) ?hd (cs := #[.string a0_0, .int .i64 a0_1, .string a0_2]) (t := 23) ?hr ?_; (case hd => rfl); (case hg => rfl); (case hr => first | (go_simp; done) | (go_simp; rfl)); intro gb292 hg w19 hbox hb; have n0_ := Aside0.mk (qak (by repeat (first | (with_reducible first | exact HB.out | apply qaf | apply qaa | apply qae) | exact HB.out)) hb); have n1_ := Aside0.mk (hbox); have n2_ := Aside0.mk ((by rw [hg]; exact (qap (by repeat (first | (with_reducible first | exact HB.out | apply qaf | apply qaa | apply qae) | exact HB.out))) : w.heap.size ≤ gb292)); have n3_ := Aside0.mk ((by rw [hg]; exact (qap (by repeat (first | (with_reducible first | exact HB.out | apply qaf | apply qaa | apply qae) | exact HB.out))) : w.heap.size ≤ gb292)); clear HB; have HB := n0_; have BK292 := n1_; have GW292 := n2_; have GE292 := n3_; clear n0_ n1_ n2_ n3_; clear hb hbox hg; have hcz20_0 : w19.cell? ⟨gb292, 0, none⟩ = some (.string a0_0) := (qai BK292.out 0).trans rfl; have hcz20_1 : w19.cell? ⟨gb292, 1, none⟩ = some (.int .i64 a0_1) := (qai BK292.out 1).trans rfl; have hcz20_2 : w19.cell? ⟨gb292, 2, none⟩ = some (.string a0_2) := (qai BK292.out 2).trans rfl; have hfz20_0 := qah BK292.out 0; have hfz20_1 := qah BK292.out 1; have hfz20_2 := qah BK292.out 2) | (go_at_call 9; (with_reducible refine (keelsonref3_Right.calls k a0_0 a0_1 a0_2 false _ (by first | exact hG | exact GL.below hG (by repeat (first | (with_reducible first | exact HB.out | apply qaf | apply qaa | apply qae | refine qad ?_ GE292.out) | exact HB.out)))  A2.out).mono ?_); rintro e w21 ⟨rfl, hb⟩; have n0_ := Aside0.mk (qaj (g := gb292) (o := .cells #[.string a0_0, .int .i64 a0_1, .string a0_2] 23 (0, 0)) (by (with_reducible repeat (first | refine qac ?_ _ | refine qag ?_ | refine qab ?_ _)); exact BK292.out) hb); have n1_ := Aside0.mk (qak (by repeat (first | (with_reducible first | exact HB.out | apply qaf | apply qaa | apply qae | refine qad ?_ GE292.out) | exact HB.out)) hb); clear BK292; clear HB; have BK292 := n0_; have HB := n1_; clear n0_ n1_; (try clear hb); (try clear hb2); (try clear hk); (try clear hi))); try go_wp2_with (first | ((with_reducible refine qar (N := 1) rfl ?_); refine qaq ?hg (N := 1) ?hd (cs := #[.string a0_0, .int .i64 a0_1, .string a0_2]) (t := 23) ?hr ?_; (case hd => rfl); (case hg => rfl); (case hr => first | (go_simp; done) | (go_simp; rfl)); intro gb292 hg w19 hbox hb; have n0_ := Aside0.mk (qak (by repeat (first | (with_reducible first | exact HB.out | apply qaf | apply qaa | apply qae) | exact HB.out)) hb); have n1_ := Aside0.mk (hbox); have n2_ := Aside0.mk ((by rw [hg]; exact (qap (by repeat (first | (with_reducible first | exact HB.out | apply qaf | apply qaa | apply qae) | exact HB.out))) : w.heap.size ≤ gb292)); have n3_ := Aside0.mk ((by rw [hg]; exact (qap (by repeat (first | (with_reducible first | exact HB.out | apply qaf | apply qaa | apply qae) | exact HB.out))) : w.heap.size ≤ gb292)); clear HB; have HB := n0_; have BK292 := n1_; have GW292 := n2_; have GE292 := n3_; clear n0_ n1_ n2_ n3_; clear hb hbox hg; have hcz20_0 : w19.cell? ⟨gb292, 0, none⟩ = some (.string a0_0) := (qai BK292.out 0).trans rfl; have hcz20_1 : w19.cell? ⟨gb292, 1, none⟩ = some (.int .i64 a0_1) := (qai BK292.out 1).trans rfl; have hcz20_2 : w19.cell? ⟨gb292, 2, none⟩ = some (.string a0_2) := (qai BK292.out 2).trans rfl; have hfz20_0 := qah BK292.out 0; have hfz20_1 := qah BK292.out 1; have hfz20_2 := qah BK292.out 2) | (go_at_call 9; (with_reducible refine (keelsonref3_Right.calls k a0_0 a0_1 a0_2 false _ (by first | exact hG | exact GL.below hG (by repeat (first | (with_reducible first | exact HB.out | apply qaf | apply qaa | apply qae | refine qad ?_ GE292.out) | exact HB.out)))  A2.out).mono ?_); rintro e w21 ⟨rfl, hb⟩; have n0_ := Aside0.mk (qaj (g := gb292) (o := .cells #[.string a0_0, .int .i64 a0_1, .string a0_2] 23 (0, 0)) (by (with_reducible repeat (first | refine qac ?_ _ | refine qag ?_ | refine qab ?_ _)); exact BK292.out) hb); have n1_ := Aside0.mk (qak (by repeat (first | (with_reducible first | exact HB.out | apply qaf | apply qaa | apply qae | refine qad ?_ GE292.out) | exact HB.out)) hb); clear BK292; clear HB; have BK292 := n0_; have HB := n1_; clear n0_ n1_; (try clear hb); (try clear hb2); (try clear hk); (try clear hi))))
    go_ret
    exact ⟨by first | rfl | (simp [qan, qao] <;> rfl) | (simp [*, qan, qao] <;> rfl), by repeat (first | (with_reducible first | exact HB.out | apply qaf | apply qaa | apply qae | refine qad ?_ GE292.out) | exact HB.out)⟩
end Go.Proofs.YtohijjobmmibcaaGreatDoor.PA
