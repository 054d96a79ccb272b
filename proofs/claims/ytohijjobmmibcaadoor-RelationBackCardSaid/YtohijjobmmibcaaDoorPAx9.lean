
import Derived.Test.YtohijjobmmibcaaDoorPAx0
import Derived.Test.YtohijjobmmibcaaDoorPAx5
import Derived.Test.YtohijjobmmibcaaDoorPAx7
namespace Go.Proofs.YtohijjobmmibcaaDoor.PA
open Go.RowKit Go.Proofs.YtohijjobmmibcaaDoorW.PrintWords Go.Proofs.YtohijjobmmibcaaDoorW.PrintLast Go.Proofs.YtohijjobmmibcaaDoorW.PrintMore
attribute [local go_sem] max2_int min2_int max_two min_two max_three min_three max_four min_four
set_option linter.unusedVariables false
set_option linter.unusedSimpArgs false
def keelsonlaw3_small.f (a0_0 : ByteArray) (a0_1 : Int) (a0_2 : ByteArray) : Option (Bool) := if (a0_0.size : Int) ≤ 300 then (some (decide ((a0_2.size : Int) ≤ 300))) else (some false)
set_option maxHeartbeats 8000000 in
set_option maxRecDepth 100000 in
theorem keelsonlaw3_small.calls (a0_0 : ByteArray) (a0_1 : Int) (a0_2 : ByteArray) (r : Bool) (w : World) (hG : GL w) (h : keelsonlaw3_small.f a0_0 a0_1 a0_2 = some r) :
    Calls Tryd.prog 9 #[.agg #[.string a0_0, .int .i64 a0_1, .string a0_2]] w fun e w' => e = .returned (.bool r) ∧ Below w.heap.size w w' := by
  have hu26 := Tryd.underlying26
  have HB := Aside0.mk (Below.refl w.heap.size w)
  have H : (if (a0_0.size : Int) ≤ 300 then (some (decide ((a0_2.size : Int) ≤ 300))) else (some false)) = some r := h
  clear h
  by_cases c2 : (a0_0.size : Int) ≤ 300
  · rw [if_pos c2] at H
    have c2b0 : decide ((a0_0.size : Int) ≤ 300) = true := decide_eq_true c2
    have c2b1 : decide (a0_0.size ≤ 300) = true := decide_eq_true (by omega)
    clear c2
    obtain rfl := Option.some.inj H
    go_enter Tryd.func9, Tryd.ntmps9
    go_wp2_with (first | ((with_reducible refine gate_dst (N := 1) rfl ?_); (try (refine gate_guard (by rfl) ?_; dsimp only)); refine box_event ?hg (N := 1) ?hd (cs := #[.string a0_0, .int .i64 a0_1, .string a0_2]) (t := 26) ?hr ?_; (case hd => rfl); (case hg => rfl); (case hr => first | (go_simp; done) | (go_simp; rfl)); intro gb256 hg w3 hbox hb; have n0_ := Aside0.mk (qal (by repeat (first | (with_reducible first | exact HB.out | apply qaf | apply qaa | apply qag) | exact HB.out)) hb); have n1_ := Aside0.mk (hbox); have n2_ := Aside0.mk ((by rw [hg]; exact (qao (by repeat (first | (with_reducible first | exact HB.out | apply qaf | apply qaa | apply qag) | exact HB.out))) : w.heap.size ≤ gb256)); have n3_ := Aside0.mk ((by rw [hg]; exact (qao (by repeat (first | (with_reducible first | exact HB.out | apply qaf | apply qaa | apply qag) | exact HB.out))) : w.heap.size ≤ gb256)); clear HB; have HB := n0_; have BK256 := n1_; have GW256 := n2_; have GE256 := n3_; clear n0_ n1_ n2_ n3_; clear hb hbox hg; have hcz4_0 : w3.cell? ⟨gb256, 0, none⟩ = some (.string a0_0) := (qai BK256.out 0).trans rfl; have hcz4_1 : w3.cell? ⟨gb256, 1, none⟩ = some (.int .i64 a0_1) := (qai BK256.out 1).trans rfl; have hcz4_2 : w3.cell? ⟨gb256, 2, none⟩ = some (.string a0_2) := (qai BK256.out 2).trans rfl; have hfz4_0 := qah BK256.out 0; have hfz4_1 := qah BK256.out 1; have hfz4_2 := qah BK256.out 2))
    go_ret
    exact ⟨by first | rfl | (simp [qam, qan] <;> rfl) | (simp [*, qam, qan] <;> rfl), by repeat (first | (with_reducible first | exact HB.out | apply qaf | apply qaa | apply qag | refine qad ?_ GE256.out) | exact HB.out)⟩
  · rw [if_neg c2] at H
    have c2b0 : decide ((a0_0.size : Int) ≤ 300) = false := decide_eq_false c2
    have c2b1 : decide (a0_0.size ≤ 300) = false := decide_eq_false (by omega)
    clear c2
    obtain rfl := Option.some.inj H
    go_enter Tryd.func9, Tryd.ntmps9
    go_wp2_with (first | ((with_reducible refine gate_dst (N := 1) rfl ?_); (try (refine gate_guard (by rfl) ?_; dsimp only)); refine box_event ?hg (N := 1) ?hd (cs := #[.string a0_0, .int .i64 a0_1, .string a0_2]) (t := 26) ?hr ?_; (case hd => rfl); (case hg => rfl); (case hr => first | (go_simp; done) | (go_simp; rfl)); intro gb256 hg w5 hbox hb; have n0_ := Aside0.mk (qal (by repeat (first | (with_reducible first | exact HB.out | apply qaf | apply qaa | apply qag) | exact HB.out)) hb); have n1_ := Aside0.mk (hbox); have n2_ := Aside0.mk ((by rw [hg]; exact (qao (by repeat (first | (with_reducible first | exact HB.out | apply qaf | apply qaa | apply qag) | exact HB.out))) : w.heap.size ≤ gb256)); have n3_ := Aside0.mk ((by rw [hg]; exact (qao (by repeat (first | (with_reducible first | exact HB.out | apply qaf | apply qaa | apply qag) | exact HB.out))) : w.heap.size ≤ gb256)); clear HB; have HB := n0_; have BK256 := n1_; have GW256 := n2_; have GE256 := n3_; clear n0_ n1_ n2_ n3_; clear hb hbox hg; have hcz6_0 : w5.cell? ⟨gb256, 0, none⟩ = some (.string a0_0) := (qai BK256.out 0).trans rfl; have hcz6_1 : w5.cell? ⟨gb256, 1, none⟩ = some (.int .i64 a0_1) := (qai BK256.out 1).trans rfl; have hcz6_2 : w5.cell? ⟨gb256, 2, none⟩ = some (.string a0_2) := (qai BK256.out 2).trans rfl; have hfz6_0 := qah BK256.out 0; have hfz6_1 := qah BK256.out 1; have hfz6_2 := qah BK256.out 2))
    go_ret
    exact ⟨by first | rfl | (simp [qam, qan] <;> rfl) | (simp [*, qam, qan] <;> rfl), by repeat (first | (with_reducible first | exact HB.out | apply qaf | apply qaa | apply qag | refine qad ?_ GE256.out) | exact HB.out)⟩
end Go.Proofs.YtohijjobmmibcaaDoor.PA
