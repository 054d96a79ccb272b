
import Derived.Test.YtpjhaaifgiicoaaDoorPAx0
import Derived.Test.YtpjhaaifgiicoaaDoorPAx1
import Derived.Test.YtpjhaaifgiicoaaDoorPAx3
import Derived.Test.YtpjhaaifgiicoaaDoorPAx5
namespace Go.Proofs.YtpjhaaifgiicoaaDoor.PA
open Go.RowKit Go.Proofs.YtpjhaaifgiicoaaDoorW.PrintWords Go.Proofs.YtpjhaaifgiicoaaDoorW.PrintLast Go.Proofs.YtpjhaaifgiicoaaDoorW.PrintMore
attribute [local go_sem] max2_int min2_int max_two min_two max_three min_three max_four min_four
set_option linter.unusedVariables false
set_option linter.unusedSimpArgs false
attribute [local go_sem high] eqA27
def keelsonlaw2_shown.j0 : Nat → Bool → Option (Bool)
  | 0, _ => none
  | k + 1, x9 => (version_CompareText.f k (⟨#[49, 46, 48, 126, 114, 99, 49]⟩ : ByteArray) (⟨#[49, 46, 48]⟩ : ByteArray)).bind fun t176 => (if t176 = (-1) then ((version_CompareText.f k (⟨#[49, 46, 49, 48]⟩ : ByteArray) (⟨#[49, 46, 57]⟩ : ByteArray)).bind fun t177 => (if t177 = 1 then ((version_CompareText.f k (⟨#[49, 46, 48]⟩ : ByteArray) (⟨#[49, 46, 48, 97]⟩ : ByteArray)).bind fun t178 => (if x9 = true then (if t178 = (-1) then ((version_CompareText.f k (⟨#[49, 97]⟩ : ByteArray) (⟨#[49, 43]⟩ : ByteArray)).bind fun t179 => (if t179 = (-1) then ((version_CompareText.f k (⟨#[48, 48, 55]⟩ : ByteArray) (⟨#[55]⟩ : ByteArray)).bind fun t180 => (some (t180 == 0))) else (some false))) else (some false)) else (some false))) else (if x9 = true then (some false) else (some false)))) else (if x9 = true then (some false) else (some false)))
def keelsonlaw2_shown.f (k : Nat)  : Option (Bool) := (version_Parse.f k (⟨#[49, 58, 50, 46, 48, 45, 51]⟩ : ByteArray)).bind fun bt156 => ((version_Parse.f k (⟨#[50, 45, 49, 45, 51]⟩ : ByteArray)).bind fun bt161 => ((version_Parse.f k (⟨#[50, 45]⟩ : ByteArray)).bind fun bt166 => ((version_Parse.f k (⟨#[97]⟩ : ByteArray)).bind fun bt171 => (if (bt156.1 == 1 && (bt156.2.1.toList == ([50, 46, 48] : List UInt8) && (bt156.2.2.1.toList == ([51] : List UInt8)))) = true then (if (bt161.1 == 0 && (bt161.2.1.toList == ([50, 45, 49] : List UInt8) && (bt161.2.2.1.toList == ([51] : List UInt8)))) = true then (if bt156.2.2.2 = 0 then (if bt161.2.2.2 = 0 then (if bt166.2.2.2 = 4 then (keelsonlaw2_shown.j0 k (bt171.2.2.2 == 4)) else (keelsonlaw2_shown.j0 k false)) else (keelsonlaw2_shown.j0 k false)) else (keelsonlaw2_shown.j0 k false)) else (keelsonlaw2_shown.j0 k false)) else (keelsonlaw2_shown.j0 k false)))))
theorem keelsonlaw2_shown.mono_l : ∀ k, (∀ y0, LeO (keelsonlaw2_shown.j0 k y0) (keelsonlaw2_shown.j0 (k + 1) y0))
  | 0 => fun _ r h => by simp [keelsonlaw2_shown.j0] at h
  | k + 1 => by
    have ih0 := keelsonlaw2_shown.mono_l k
    · intro y0
      unfold keelsonlaw2_shown.j0
      repeat' first
      | (with_reducible exact ih0 _)
      | (with_reducible exact version_CompareText.mono _ _ _)
      | (with_reducible exact version_Parse.mono _ _)
      | (with_reducible exact LeO.refl _)
      | (with_reducible exact LeO.none _)
      | (with_reducible refine LeO.ite ?_ ?_)
      | (with_reducible refine LeO.bind ?_ (fun _ => ?_))
      | exact ih0 _
      | exact version_CompareText.mono _ _ _
      | exact version_Parse.mono _ _
      | exact LeO.none _
      | refine LeO.ite ?_ ?_
      | refine LeO.bind ?_ (fun _ => ?_)
theorem keelsonlaw2_shown.mono : ∀ k, LeO (keelsonlaw2_shown.f k ) (keelsonlaw2_shown.f (k + 1) ) := by
  intro  k
  have ih0 := keelsonlaw2_shown.mono_l k
  unfold keelsonlaw2_shown.f
  repeat' first
      | (with_reducible exact ih0 _)
      | (with_reducible exact version_CompareText.mono _ _ _)
      | (with_reducible exact version_Parse.mono _ _)
      | (with_reducible exact LeO.refl _)
      | (with_reducible exact LeO.none _)
      | (with_reducible refine LeO.ite ?_ ?_)
      | (with_reducible refine LeO.bind ?_ (fun _ => ?_))
      | exact ih0 _
      | exact version_CompareText.mono _ _ _
      | exact version_Parse.mono _ _
      | exact LeO.none _
      | refine LeO.ite ?_ ?_
      | refine LeO.bind ?_ (fun _ => ?_)
set_option maxHeartbeats 8000000 in
set_option maxRecDepth 100000 in
theorem keelsonlaw2_shown.calls (k : Nat)  (r : Bool) (w : World) (hG : GL w) (h : keelsonlaw2_shown.f k  = some r) :
    Calls Tryd.prog 8 #[] w fun e w' => e = .returned (.bool r) ∧ Below w.heap.size w w' := by
  have hu27 := Tryd.underlying27
  have HB := Aside0.mk (Below.refl w.heap.size w)
  have H : ((version_Parse.f k (⟨#[49, 58, 50, 46, 48, 45, 51]⟩ : ByteArray)).bind fun bt156 => ((version_Parse.f k (⟨#[50, 45, 49, 45, 51]⟩ : ByteArray)).bind fun bt161 => ((version_Parse.f k (⟨#[50, 45]⟩ : ByteArray)).bind fun bt166 => ((version_Parse.f k (⟨#[97]⟩ : ByteArray)).bind fun bt171 => (if (bt156.1 == 1 && (bt156.2.1.toList == ([50, 46, 48] : List UInt8) && (bt156.2.2.1.toList == ([51] : List UInt8)))) = true then (if (bt161.1 == 0 && (bt161.2.1.toList == ([50, 45, 49] : List UInt8) && (bt161.2.2.1.toList == ([51] : List UInt8)))) = true then (if bt156.2.2.2 = 0 then (if bt161.2.2.2 = 0 then (if bt166.2.2.2 = 4 then (keelsonlaw2_shown.j0 k (bt171.2.2.2 == 4)) else (keelsonlaw2_shown.j0 k false)) else (keelsonlaw2_shown.j0 k false)) else (keelsonlaw2_shown.j0 k false)) else (keelsonlaw2_shown.j0 k false)) else (keelsonlaw2_shown.j0 k false)))))) = some r := h
  clear h
  replace H := Option.bind_eq_some_iff.mp H
  obtain ⟨⟨t156, t157, t158, t159⟩, A10, H⟩ := H
  replace H : ((version_Parse.f k (⟨#[50, 45, 49, 45, 51]⟩ : ByteArray)).bind fun bt161 => ((version_Parse.f k (⟨#[50, 45]⟩ : ByteArray)).bind fun bt166 => ((version_Parse.f k (⟨#[97]⟩ : ByteArray)).bind fun bt171 => (if (t156 == 1 && (t157.toList == ([50, 46, 48] : List UInt8) && (t158.toList == ([51] : List UInt8)))) = true then (if (bt161.1 == 0 && (bt161.2.1.toList == ([50, 45, 49] : List UInt8) && (bt161.2.2.1.toList == ([51] : List UInt8)))) = true then (if t159 = 0 then (if bt161.2.2.2 = 0 then (if bt166.2.2.2 = 4 then (keelsonlaw2_shown.j0 k (bt171.2.2.2 == 4)) else (keelsonlaw2_shown.j0 k false)) else (keelsonlaw2_shown.j0 k false)) else (keelsonlaw2_shown.j0 k false)) else (keelsonlaw2_shown.j0 k false)) else (keelsonlaw2_shown.j0 k false))))) = some r := H
  have A1 := Aside0.mk A10
  clear A10
  replace H := Option.bind_eq_some_iff.mp H
  obtain ⟨⟨t161, t162, t163, t164⟩, A20, H⟩ := H
  replace H : ((version_Parse.f k (⟨#[50, 45]⟩ : ByteArray)).bind fun bt166 => ((version_Parse.f k (⟨#[97]⟩ : ByteArray)).bind fun bt171 => (if (t156 == 1 && (t157.toList == ([50, 46, 48] : List UInt8) && (t158.toList == ([51] : List UInt8)))) = true then (if (t161 == 0 && (t162.toList == ([50, 45, 49] : List UInt8) && (t163.toList == ([51] : List UInt8)))) = true then (if t159 = 0 then (if t164 = 0 then (if bt166.2.2.2 = 4 then (keelsonlaw2_shown.j0 k (bt171.2.2.2 == 4)) else (keelsonlaw2_shown.j0 k false)) else (keelsonlaw2_shown.j0 k false)) else (keelsonlaw2_shown.j0 k false)) else (keelsonlaw2_shown.j0 k false)) else (keelsonlaw2_shown.j0 k false)))) = some r := H
  have A2 := Aside0.mk A20
  clear A20
  replace H := Option.bind_eq_some_iff.mp H
  obtain ⟨⟨t166, t167, t168, t169⟩, A30, H⟩ := H
  replace H : ((version_Parse.f k (⟨#[97]⟩ : ByteArray)).bind fun bt171 => (if (t156 == 1 && (t157.toList == ([50, 46, 48] : List UInt8) && (t158.toList == ([51] : List UInt8)))) = true then (if (t161 == 0 && (t162.toList == ([50, 45, 49] : List UInt8) && (t163.toList == ([51] : List UInt8)))) = true then (if t159 = 0 then (if t164 = 0 then (if t169 = 4 then (keelsonlaw2_shown.j0 k (bt171.2.2.2 == 4)) else (keelsonlaw2_shown.j0 k false)) else (keelsonlaw2_shown.j0 k false)) else (keelsonlaw2_shown.j0 k false)) else (keelsonlaw2_shown.j0 k false)) else (keelsonlaw2_shown.j0 k false))) = some r := H
  have A3 := Aside0.mk A30
  clear A30
  replace H := Option.bind_eq_some_iff.mp H
  obtain ⟨⟨t171, t172, t173, t174⟩, A40, H⟩ := H
  replace H : (if (t156 == 1 && (t157.toList == ([50, 46, 48] : List UInt8) && (t158.toList == ([51] : List UInt8)))) = true then (if (t161 == 0 && (t162.toList == ([50, 45, 49] : List UInt8) && (t163.toList == ([51] : List UInt8)))) = true then (if t159 = 0 then (if t164 = 0 then (if t169 = 4 then (keelsonlaw2_shown.j0 k (t174 == 4)) else (keelsonlaw2_shown.j0 k false)) else (keelsonlaw2_shown.j0 k false)) else (keelsonlaw2_shown.j0 k false)) else (keelsonlaw2_shown.j0 k false)) else (keelsonlaw2_shown.j0 k false)) = some r := H
  have A4 := Aside0.mk A40
  clear A40
  have HC5 := Aside0.mk H
  clear H
  go_enter Tryd.func8, Tryd.ntmps8
  go_upto_region 5 with (first | ((with_reducible refine gate_callee (f := 11) rfl ?_); refine goesL_ (some 12) rfl rfl Tryd.func11 (by kernel_rfl) rfl #[.string (⟨#[49, 58, 50, 46, 48, 45, 51]⟩ : ByteArray)] rfl (by (try simp only [List.map_toArray, List.map_cons, List.map_nil]); first | done | rfl | (simp only [List.length_drop, List.length_take]; rfl)) ?_; (with_reducible refine (version_Parse.calls k (⟨#[49, 58, 50, 46, 48, 45, 51]⟩ : ByteArray) t156 t157 t158 t159 _ (by first | exact hG | exact GL.below hG (by repeat (first | (with_reducible first | exact HB.out | apply below_alloc | apply pw_below_drewN | apply below_drew1) | exact HB.out)))  A1.out).mono ?_); rintro e w6 ⟨rfl, hb⟩; refine ⟨_, rfl, ?_⟩; have n0_ := Aside0.mk (below_step (by repeat (first | (with_reducible first | exact HB.out | apply below_alloc | apply pw_below_drewN | apply below_drew1) | exact HB.out)) hb); clear HB; have HB := n0_; clear n0_; (try clear hb); (try clear hb2); (try clear hk); (try clear hi)) | ((with_reducible refine gate_dst (N := 1) rfl ?_); refine box_event ?hg (N := 1) ?hd (cs := #[.int .i64 0, .string (⟨#[]⟩ : ByteArray), .string (⟨#[]⟩ : ByteArray)]) (t := 27) ?hr ?_; (case hd => rfl); (case hg => rfl); (case hr => first | (go_simp; done) | (go_simp; rfl)); intro gb160 hg w7 hbox hb; have n0_ := Aside0.mk (below_step (by repeat (first | (with_reducible first | exact HB.out | apply below_alloc | apply pw_below_drewN | apply below_drew1) | exact HB.out)) hb); have n1_ := Aside0.mk (hbox); have n2_ := Aside0.mk ((by rw [hg]; exact (below_size (by repeat (first | (with_reducible first | exact HB.out | apply below_alloc | apply pw_below_drewN | apply below_drew1) | exact HB.out))) : w.heap.size ≤ gb160)); have n3_ := Aside0.mk ((by rw [hg]; exact (below_size (by repeat (first | (with_reducible first | exact HB.out | apply below_alloc | apply pw_below_drewN | apply below_drew1) | exact HB.out))) : w.heap.size ≤ gb160)); clear HB; have HB := n0_; have BK160 := n1_; have GW160 := n2_; have GE160 := n3_; clear n0_ n1_ n2_ n3_; clear hb hbox hg; have hcz8_0 : w7.cell? ⟨gb160, 0, none⟩ = some (.int .i64 0) := (blk_cell BK160.out 0).trans rfl; have hcz8_1 : w7.cell? ⟨gb160, 1, none⟩ = some (.string (⟨#[]⟩ : ByteArray)) := (blk_cell BK160.out 1).trans rfl; have hcz8_2 : w7.cell? ⟨gb160, 2, none⟩ = some (.string (⟨#[]⟩ : ByteArray)) := (blk_cell BK160.out 2).trans rfl; have hfz8_0 := blk_frozen BK160.out 0; have hfz8_1 := blk_frozen BK160.out 1; have hfz8_2 := blk_frozen BK160.out 2) | ((with_reducible refine gate_callee (f := 11) rfl ?_); refine goesL_ (some 16) rfl rfl Tryd.func11 (by kernel_rfl) rfl #[.string (⟨#[50, 45, 49, 45, 51]⟩ : ByteArray)] rfl (by (try simp only [List.map_toArray, List.map_cons, List.map_nil]); first | done | rfl | (simp only [List.length_drop, List.length_take]; rfl)) ?_; (with_reducible refine (version_Parse.calls k (⟨#[50, 45, 49, 45, 51]⟩ : ByteArray) t161 t162 t163 t164 _ (by first | exact hG | exact GL.below hG (by repeat (first | (with_reducible first | exact HB.out | apply below_alloc | apply pw_below_drewN | apply below_drew1 | refine below_set ?_ GE160.out) | exact HB.out)))  A2.out).mono ?_); rintro e w9 ⟨rfl, hb⟩; refine ⟨_, rfl, ?_⟩; have n0_ := Aside0.mk (blk_below (g := gb160) (o := .cells #[.int .i64 t156, .string t157, .string t158] 27 (0, 0)) (by (with_reducible repeat (first | refine blk_drewN ?_ _ | refine blk_drew ?_ | refine blk_alloc ?_ _)); refine blk_put (cs := #[.int .i64 t156, .string t157, .string (⟨#[]⟩ : ByteArray)]) ?_ 2 _ rfl; (with_reducible repeat (first | refine blk_drewN ?_ _ | refine blk_drew ?_ | refine blk_alloc ?_ _)); refine blk_put (cs := #[.int .i64 t156, .string (⟨#[]⟩ : ByteArray), .string (⟨#[]⟩ : ByteArray)]) ?_ 1 _ rfl; (with_reducible repeat (first | refine blk_drewN ?_ _ | refine blk_drew ?_ | refine blk_alloc ?_ _)); refine blk_put (cs := #[.int .i64 0, .string (⟨#[]⟩ : ByteArray), .string (⟨#[]⟩ : ByteArray)]) ?_ 0 _ rfl; (with_reducible repeat (first | refine blk_drewN ?_ _ | refine blk_drew ?_ | refine blk_alloc ?_ _)); exact BK160.out) hb); have n1_ := Aside0.mk (below_step (by repeat (first | (with_reducible first | exact HB.out | apply below_alloc | apply pw_below_drewN | apply below_drew1 | refine below_set ?_ GE160.out) | exact HB.out)) hb); clear BK160; clear HB; have BK160 := n0_; have HB := n1_; clear n0_ n1_; (try clear hb); (try clear hb2); (try clear hk); (try clear hi)) | ((with_reducible refine gate_dst (N := 3) rfl ?_); refine box_event ?hg (N := 3) ?hd (cs := #[.int .i64 0, .string (⟨#[]⟩ : ByteArray), .string (⟨#[]⟩ : ByteArray)]) (t := 27) ?hr ?_; (case hd => rfl); (case hg => rfl); (case hr => first | (go_simp; done) | (go_simp; rfl)); intro gb165 hg w10 hbox hb; have n0_ := Aside0.mk (blk_below (g := gb160) (o := .cells #[.int .i64 t156, .string t157, .string t158] 27 (0, 0)) (by (with_reducible repeat (first | refine blk_drewN ?_ _ | refine blk_drew ?_ | refine blk_alloc ?_ _)); exact BK160.out) hb); have n1_ := Aside0.mk (below_step (by repeat (first | (with_reducible first | exact HB.out | apply below_alloc | apply pw_below_drewN | apply below_drew1 | refine below_set ?_ GE160.out) | exact HB.out)) hb); have n2_ := Aside0.mk (hbox); have n3_ := Aside0.mk ((by rw [hg]; exact (below_size (by repeat (first | (with_reducible first | exact HB.out | apply below_alloc | apply pw_below_drewN | apply below_drew1 | refine below_set ?_ GE160.out) | exact HB.out))) : w.heap.size ≤ gb165)); have n4_ := Aside0.mk ((by rw [hg]; exact (below_size (by repeat (first | (with_reducible first | exact HB.out | apply below_alloc | apply pw_below_drewN | apply below_drew1 | refine below_set ?_ GE160.out) | exact HB.out))) : w.heap.size ≤ gb165)); have n5_ := Aside0.mk ((by rw [hg]; exact Nat.ne_of_lt (blk_lt (g := gb160) (o := .cells #[.int .i64 t156, .string t157, .string t158] 27 (0, 0)) (by (with_reducible repeat (first | refine blk_drewN ?_ _ | refine blk_drew ?_ | refine blk_alloc ?_ _)); exact BK160.out)) : gb160 ≠ gb165)); have n6_ := Aside0.mk ((by rw [hg]; exact Nat.ne_of_gt (blk_lt (g := gb160) (o := .cells #[.int .i64 t156, .string t157, .string t158] 27 (0, 0)) (by (with_reducible repeat (first | refine blk_drewN ?_ _ | refine blk_drew ?_ | refine blk_alloc ?_ _)); exact BK160.out)) : gb165 ≠ gb160)); clear BK160; clear HB; have BK160 := n0_; have HB := n1_; have BK165 := n2_; have GW165 := n3_; have GE165 := n4_; have NB160_165 := n5_; have NB165_160 := n6_; clear n0_ n1_ n2_ n3_ n4_ n5_ n6_; clear hb hbox hg; have hnb11 := NB165_160.out; have hnc11 := NB160_165.out; have hcz12_0 : w10.cell? ⟨gb165, 0, none⟩ = some (.int .i64 0) := (blk_cell BK165.out 0).trans rfl; have hcz12_1 : w10.cell? ⟨gb165, 1, none⟩ = some (.string (⟨#[]⟩ : ByteArray)) := (blk_cell BK165.out 1).trans rfl; have hcz12_2 : w10.cell? ⟨gb165, 2, none⟩ = some (.string (⟨#[]⟩ : ByteArray)) := (blk_cell BK165.out 2).trans rfl; have hfz12_0 := blk_frozen BK165.out 0; have hfz12_1 := blk_frozen BK165.out 1; have hfz12_2 := blk_frozen BK165.out 2) | ((with_reducible refine gate_callee (f := 11) rfl ?_); refine goesL_ (some 20) rfl rfl Tryd.func11 (by kernel_rfl) rfl #[.string (⟨#[50, 45]⟩ : ByteArray)] rfl (by (try simp only [List.map_toArray, List.map_cons, List.map_nil]); first | done | rfl | (simp only [List.length_drop, List.length_take]; rfl)) ?_; (with_reducible refine (version_Parse.calls k (⟨#[50, 45]⟩ : ByteArray) t166 t167 t168 t169 _ (by first | exact hG | exact GL.below hG (by repeat (first | (with_reducible first | exact HB.out | apply below_alloc | apply pw_below_drewN | apply below_drew1 | refine below_set ?_ GE160.out | refine below_set ?_ GE165.out) | exact HB.out)))  A3.out).mono ?_); rintro e w13 ⟨rfl, hb⟩; refine ⟨_, rfl, ?_⟩; have n0_ := Aside0.mk (blk_below (g := gb160) (o := .cells #[.int .i64 t156, .string t157, .string t158] 27 (0, 0)) (by (with_reducible repeat (first | refine blk_drewN ?_ _ | refine blk_drew ?_ | refine blk_alloc ?_ _)); refine blk_far ?_ NB160_165.out _; (with_reducible repeat (first | refine blk_drewN ?_ _ | refine blk_drew ?_ | refine blk_alloc ?_ _)); refine blk_far ?_ NB160_165.out _; (with_reducible repeat (first | refine blk_drewN ?_ _ | refine blk_drew ?_ | refine blk_alloc ?_ _)); refine blk_far ?_ NB160_165.out _; (with_reducible repeat (first | refine blk_drewN ?_ _ | refine blk_drew ?_ | refine blk_alloc ?_ _)); exact BK160.out) hb); have n1_ := Aside0.mk (blk_below (g := gb165) (o := .cells #[.int .i64 t161, .string t162, .string t163] 27 (0, 0)) (by (with_reducible repeat (first | refine blk_drewN ?_ _ | refine blk_drew ?_ | refine blk_alloc ?_ _)); refine blk_put (cs := #[.int .i64 t161, .string t162, .string (⟨#[]⟩ : ByteArray)]) ?_ 2 _ rfl; (with_reducible repeat (first | refine blk_drewN ?_ _ | refine blk_drew ?_ | refine blk_alloc ?_ _)); refine blk_put (cs := #[.int .i64 t161, .string (⟨#[]⟩ : ByteArray), .string (⟨#[]⟩ : ByteArray)]) ?_ 1 _ rfl; (with_reducible repeat (first | refine blk_drewN ?_ _ | refine blk_drew ?_ | refine blk_alloc ?_ _)); refine blk_put (cs := #[.int .i64 0, .string (⟨#[]⟩ : ByteArray), .string (⟨#[]⟩ : ByteArray)]) ?_ 0 _ rfl; (with_reducible repeat (first | refine blk_drewN ?_ _ | refine blk_drew ?_ | refine blk_alloc ?_ _)); exact BK165.out) hb); have n2_ := Aside0.mk (below_step (by repeat (first | (with_reducible first | exact HB.out | apply below_alloc | apply pw_below_drewN | apply below_drew1 | refine below_set ?_ GE160.out | refine below_set ?_ GE165.out) | exact HB.out)) hb); clear BK160; clear BK165; clear HB; have BK160 := n0_; have BK165 := n1_; have HB := n2_; clear n0_ n1_ n2_; (try clear hb); (try clear hb2); (try clear hk); (try clear hi)) | ((with_reducible refine gate_dst (N := 5) rfl ?_); refine box_event ?hg (N := 5) ?hd (cs := #[.int .i64 0, .string (⟨#[]⟩ : ByteArray), .string (⟨#[]⟩ : ByteArray)]) (t := 27) ?hr ?_; (case hd => rfl); (case hg => rfl); (case hr => first | (go_simp; done) | (go_simp; rfl)); intro gb170 hg w14 hbox hb; have n0_ := Aside0.mk (blk_below (g := gb160) (o := .cells #[.int .i64 t156, .string t157, .string t158] 27 (0, 0)) (by (with_reducible repeat (first | refine blk_drewN ?_ _ | refine blk_drew ?_ | refine blk_alloc ?_ _)); exact BK160.out) hb); have n1_ := Aside0.mk (blk_below (g := gb165) (o := .cells #[.int .i64 t161, .string t162, .string t163] 27 (0, 0)) (by (with_reducible repeat (first | refine blk_drewN ?_ _ | refine blk_drew ?_ | refine blk_alloc ?_ _)); exact BK165.out) hb); have n2_ := Aside0.mk (below_step (by repeat (first | (with_reducible first | exact HB.out | apply below_alloc | apply pw_below_drewN | apply below_drew1 | refine below_set ?_ GE160.out | refine below_set ?_ GE165.out) | exact HB.out)) hb); have n3_ := Aside0.mk (hbox); have n4_ := Aside0.mk ((by rw [hg]; exact (below_size (by repeat (first | (with_reducible first | exact HB.out | apply below_alloc | apply pw_below_drewN | apply below_drew1 | refine below_set ?_ GE160.out | refine below_set ?_ GE165.out) | exact HB.out))) : w.heap.size ≤ gb170)); have n5_ := Aside0.mk ((by rw [hg]; exact (below_size (by repeat (first | (with_reducible first | exact HB.out | apply below_alloc | apply pw_below_drewN | apply below_drew1 | refine below_set ?_ GE160.out | refine below_set ?_ GE165.out) | exact HB.out))) : w.heap.size ≤ gb170)); have n6_ := Aside0.mk ((by rw [hg]; exact Nat.ne_of_lt (blk_lt (g := gb160) (o := .cells #[.int .i64 t156, .string t157, .string t158] 27 (0, 0)) (by (with_reducible repeat (first | refine blk_drewN ?_ _ | refine blk_drew ?_ | refine blk_alloc ?_ _)); exact BK160.out)) : gb160 ≠ gb170)); have n7_ := Aside0.mk ((by rw [hg]; exact Nat.ne_of_gt (blk_lt (g := gb160) (o := .cells #[.int .i64 t156, .string t157, .string t158] 27 (0, 0)) (by (with_reducible repeat (first | refine blk_drewN ?_ _ | refine blk_drew ?_ | refine blk_alloc ?_ _)); exact BK160.out)) : gb170 ≠ gb160)); have n8_ := Aside0.mk ((by rw [hg]; exact Nat.ne_of_lt (blk_lt (g := gb165) (o := .cells #[.int .i64 t161, .string t162, .string t163] 27 (0, 0)) (by (with_reducible repeat (first | refine blk_drewN ?_ _ | refine blk_drew ?_ | refine blk_alloc ?_ _)); exact BK165.out)) : gb165 ≠ gb170)); have n9_ := Aside0.mk ((by rw [hg]; exact Nat.ne_of_gt (blk_lt (g := gb165) (o := .cells #[.int .i64 t161, .string t162, .string t163] 27 (0, 0)) (by (with_reducible repeat (first | refine blk_drewN ?_ _ | refine blk_drew ?_ | refine blk_alloc ?_ _)); exact BK165.out)) : gb170 ≠ gb165)); clear BK160; clear BK165; clear HB; have BK160 := n0_; have BK165 := n1_; have HB := n2_; have BK170 := n3_; have GW170 := n4_; have GE170 := n5_; have NB160_170 := n6_; have NB170_160 := n7_; have NB165_170 := n8_; have NB170_165 := n9_; clear n0_ n1_ n2_ n3_ n4_ n5_ n6_ n7_ n8_ n9_; clear hb hbox hg; have hnb15 := NB170_160.out; have hnc15 := NB160_170.out; have hnb16 := NB170_165.out; have hnc16 := NB165_170.out; have hcz17_0 : w14.cell? ⟨gb170, 0, none⟩ = some (.int .i64 0) := (blk_cell BK170.out 0).trans rfl; have hcz17_1 : w14.cell? ⟨gb170, 1, none⟩ = some (.string (⟨#[]⟩ : ByteArray)) := (blk_cell BK170.out 1).trans rfl; have hcz17_2 : w14.cell? ⟨gb170, 2, none⟩ = some (.string (⟨#[]⟩ : ByteArray)) := (blk_cell BK170.out 2).trans rfl; have hfz17_0 := blk_frozen BK170.out 0; have hfz17_1 := blk_frozen BK170.out 1; have hfz17_2 := blk_frozen BK170.out 2) | ((with_reducible refine gate_callee (f := 11) rfl ?_); refine goesL_ (some 24) rfl rfl Tryd.func11 (by kernel_rfl) rfl #[.string (⟨#[97]⟩ : ByteArray)] rfl (by (try simp only [List.map_toArray, List.map_cons, List.map_nil]); first | done | rfl | (simp only [List.length_drop, List.length_take]; rfl)) ?_; (with_reducible refine (version_Parse.calls k (⟨#[97]⟩ : ByteArray) t171 t172 t173 t174 _ (by first | exact hG | exact GL.below hG (by repeat (first | (with_reducible first | exact HB.out | apply below_alloc | apply pw_below_drewN | apply below_drew1 | refine below_set ?_ GE160.out | refine below_set ?_ GE165.out | refine below_set ?_ GE170.out) | exact HB.out)))  A4.out).mono ?_); rintro e w18 ⟨rfl, hb⟩; refine ⟨_, rfl, ?_⟩; have n0_ := Aside0.mk (blk_below (g := gb160) (o := .cells #[.int .i64 t156, .string t157, .string t158] 27 (0, 0)) (by (with_reducible repeat (first | refine blk_drewN ?_ _ | refine blk_drew ?_ | refine blk_alloc ?_ _)); refine blk_far ?_ NB160_170.out _; (with_reducible repeat (first | refine blk_drewN ?_ _ | refine blk_drew ?_ | refine blk_alloc ?_ _)); refine blk_far ?_ NB160_170.out _; (with_reducible repeat (first | refine blk_drewN ?_ _ | refine blk_drew ?_ | refine blk_alloc ?_ _)); refine blk_far ?_ NB160_170.out _; (with_reducible repeat (first | refine blk_drewN ?_ _ | refine blk_drew ?_ | refine blk_alloc ?_ _)); exact BK160.out) hb); have n1_ := Aside0.mk (blk_below (g := gb165) (o := .cells #[.int .i64 t161, .string t162, .string t163] 27 (0, 0)) (by (with_reducible repeat (first | refine blk_drewN ?_ _ | refine blk_drew ?_ | refine blk_alloc ?_ _)); refine blk_far ?_ NB165_170.out _; (with_reducible repeat (first | refine blk_drewN ?_ _ | refine blk_drew ?_ | refine blk_alloc ?_ _)); refine blk_far ?_ NB165_170.out _; (with_reducible repeat (first | refine blk_drewN ?_ _ | refine blk_drew ?_ | refine blk_alloc ?_ _)); refine blk_far ?_ NB165_170.out _; (with_reducible repeat (first | refine blk_drewN ?_ _ | refine blk_drew ?_ | refine blk_alloc ?_ _)); exact BK165.out) hb); have n2_ := Aside0.mk (blk_below (g := gb170) (o := .cells #[.int .i64 t166, .string t167, .string t168] 27 (0, 0)) (by (with_reducible repeat (first | refine blk_drewN ?_ _ | refine blk_drew ?_ | refine blk_alloc ?_ _)); refine blk_put (cs := #[.int .i64 t166, .string t167, .string (⟨#[]⟩ : ByteArray)]) ?_ 2 _ rfl; (with_reducible repeat (first | refine blk_drewN ?_ _ | refine blk_drew ?_ | refine blk_alloc ?_ _)); refine blk_put (cs := #[.int .i64 t166, .string (⟨#[]⟩ : ByteArray), .string (⟨#[]⟩ : ByteArray)]) ?_ 1 _ rfl; (with_reducible repeat (first | refine blk_drewN ?_ _ | refine blk_drew ?_ | refine blk_alloc ?_ _)); refine blk_put (cs := #[.int .i64 0, .string (⟨#[]⟩ : ByteArray), .string (⟨#[]⟩ : ByteArray)]) ?_ 0 _ rfl; (with_reducible repeat (first | refine blk_drewN ?_ _ | refine blk_drew ?_ | refine blk_alloc ?_ _)); exact BK170.out) hb); have n3_ := Aside0.mk (below_step (by repeat (first | (with_reducible first | exact HB.out | apply below_alloc | apply pw_below_drewN | apply below_drew1 | refine below_set ?_ GE160.out | refine below_set ?_ GE165.out | refine below_set ?_ GE170.out) | exact HB.out)) hb); clear BK160; clear BK165; clear BK170; clear HB; have BK160 := n0_; have BK165 := n1_; have BK170 := n2_; have HB := n3_; clear n0_ n1_ n2_ n3_; (try clear hb); (try clear hb2); (try clear hk); (try clear hi)) | ((with_reducible refine gate_dst (N := 7) rfl ?_); refine box_event ?hg (N := 7) ?hd (cs := #[.int .i64 0, .string (⟨#[]⟩ : ByteArray), .string (⟨#[]⟩ : ByteArray)]) (t := 27) ?hr ?_; (case hd => rfl); (case hg => rfl); (case hr => first | (go_simp; done) | (go_simp; rfl)); intro gb175 hg w19 hbox hb; have n0_ := Aside0.mk (blk_below (g := gb160) (o := .cells #[.int .i64 t156, .string t157, .string t158] 27 (0, 0)) (by (with_reducible repeat (first | refine blk_drewN ?_ _ | refine blk_drew ?_ | refine blk_alloc ?_ _)); exact BK160.out) hb); have n1_ := Aside0.mk (blk_below (g := gb165) (o := .cells #[.int .i64 t161, .string t162, .string t163] 27 (0, 0)) (by (with_reducible repeat (first | refine blk_drewN ?_ _ | refine blk_drew ?_ | refine blk_alloc ?_ _)); exact BK165.out) hb); have n2_ := Aside0.mk (blk_below (g := gb170) (o := .cells #[.int .i64 t166, .string t167, .string t168] 27 (0, 0)) (by (with_reducible repeat (first | refine blk_drewN ?_ _ | refine blk_drew ?_ | refine blk_alloc ?_ _)); exact BK170.out) hb); have n3_ := Aside0.mk (below_step (by repeat (first | (with_reducible first | exact HB.out | apply below_alloc | apply pw_below_drewN | apply below_drew1 | refine below_set ?_ GE160.out | refine below_set ?_ GE165.out | refine below_set ?_ GE170.out) | exact HB.out)) hb); have n4_ := Aside0.mk (hbox); have n5_ := Aside0.mk ((by rw [hg]; exact (below_size (by repeat (first | (with_reducible first | exact HB.out | apply below_alloc | apply pw_below_drewN | apply below_drew1 | refine below_set ?_ GE160.out | refine below_set ?_ GE165.out | refine below_set ?_ GE170.out) | exact HB.out))) : w.heap.size ≤ gb175)); have n6_ := Aside0.mk ((by rw [hg]; exact (below_size (by repeat (first | (with_reducible first | exact HB.out | apply below_alloc | apply pw_below_drewN | apply below_drew1 | refine below_set ?_ GE160.out | refine below_set ?_ GE165.out | refine below_set ?_ GE170.out) | exact HB.out))) : w.heap.size ≤ gb175)); have n7_ := Aside0.mk ((by rw [hg]; exact Nat.ne_of_lt (blk_lt (g := gb160) (o := .cells #[.int .i64 t156, .string t157, .string t158] 27 (0, 0)) (by (with_reducible repeat (first | refine blk_drewN ?_ _ | refine blk_drew ?_ | refine blk_alloc ?_ _)); exact BK160.out)) : gb160 ≠ gb175)); have n8_ := Aside0.mk ((by rw [hg]; exact Nat.ne_of_gt (blk_lt (g := gb160) (o := .cells #[.int .i64 t156, .string t157, .string t158] 27 (0, 0)) (by (with_reducible repeat (first | refine blk_drewN ?_ _ | refine blk_drew ?_ | refine blk_alloc ?_ _)); exact BK160.out)) : gb175 ≠ gb160)); have n9_ := Aside0.mk ((by rw [hg]; exact Nat.ne_of_lt (blk_lt (g := gb165) (o := .cells #[.int .i64 t161, .string t162, .string t163] 27 (0, 0)) (by (with_reducible repeat (first | refine blk_drewN ?_ _ | refine blk_drew ?_ | refine blk_alloc ?_ _)); exact BK165.out)) : gb165 ≠ gb175)); have n10_ := Aside0.mk ((by rw [hg]; exact Nat.ne_of_gt (blk_lt (g := gb165) (o := .cells #[.int .i64 t161, .string t162, .string t163] 27 (0, 0)) (by (with_reducible repeat (first | refine blk_drewN ?_ _ | refine blk_drew ?_ | refine blk_alloc ?_ _)); exact BK165.out)) : gb175 ≠ gb165)); have n11_ := Aside0.mk ((by rw [hg]; exact Nat.ne_of_lt (blk_lt (g := gb170) (o := .cells #[.int .i64 t166, .string t167, .string t168] 27 (0, 0)) (by (with_reducible repeat (first | refine blk_drewN ?_ _ | refine blk_drew ?_ | refine blk_alloc ?_ _)); exact BK170.out)) : gb170 ≠ gb175)); have n12_ := Aside0.mk ((by rw [hg]; exact Nat.ne_of_gt (blk_lt (g := gb170) (o := .cells #[.int .i64 t166, .string t167, .string t168] 27 (0, 0)) (by (with_reducible repeat (first | refine blk_drewN ?_ _ | refine blk_drew ?_ | refine blk_alloc ?_ _)); exact BK170.out)) : gb175 ≠ gb170)); clear BK160; clear BK165; clear BK170; clear HB; have BK160 := n0_; have BK165 := n1_; have BK170 := n2_; have HB := n3_; have BK175 := n4_; have GW175 := n5_; have GE175 := n6_; have NB160_175 := n7_; have NB175_160 := n8_; have NB165_175 := n9_; have NB175_165 := n10_; have NB170_175 := n11_; have NB175_170 := n12_; clear n0_ n1_ n2_ n3_ n4_ n5_ n6_ n7_ n8_ n9_ n10_ n11_ n12_; clear hb hbox hg; have hnb20 := NB175_160.out; have hnc20 := NB160_175.out; have hnb21 := NB175_165.out; have hnc21 := NB165_175.out; have hnb22 := NB175_170.out; have hnc22 := NB170_175.out; have hcz23_0 : w19.cell? ⟨gb175, 0, none⟩ = some (.int .i64 0) := (blk_cell BK175.out 0).trans rfl; have hcz23_1 : w19.cell? ⟨gb175, 1, none⟩ = some (.string (⟨#[]⟩ : ByteArray)) := (blk_cell BK175.out 1).trans rfl; have hcz23_2 : w19.cell? ⟨gb175, 2, none⟩ = some (.string (⟨#[]⟩ : ByteArray)) := (blk_cell BK175.out 2).trans rfl; have hfz23_0 := blk_frozen BK175.out 0; have hfz23_1 := blk_frozen BK175.out 1; have hfz23_2 := blk_frozen BK175.out 2))
  (try simp only [Act.put, List.setIfInBounds_toArray, List.set_cons_zero, List.set_cons_succ])
  go_cut [9] (fun v9 wc => ∃ (kq : Nat) (x9_4 : Bool), v9 = .bool x9_4 ∧ Aside0 (keelsonlaw2_shown.j0 kq x9_4 = some r) ∧ Aside0 (kq ≤ k) ∧ Aside0 (wc.heap[gb160]? = some (.cells #[.int .i64 t156, .string t157, .string t158] 27 (0, 0))) ∧ Aside0 (wc.heap[gb165]? = some (.cells #[.int .i64 t161, .string t162, .string t163] 27 (0, 0))) ∧ Aside0 (wc.heap[gb170]? = some (.cells #[.int .i64 t166, .string t167, .string t168] 27 (0, 0))) ∧ Aside0 (wc.heap[gb175]? = some (.cells #[.int .i64 t171, .string t172, .string t173] 27 (0, 0))) ∧ Aside0 (Below w.heap.size w wc))
  case first =>
    have H := HC5.out
    clear HC5
    by_cases c24 : (t156 == 1 && (t157.toList == ([50, 46, 48] : List UInt8) && (t158.toList == ([51] : List UInt8)))) = true
    · rw [if_pos c24] at H
      have c24b0 : (t156 == 1 && (t157.toList == ([50, 46, 48] : List UInt8) && (t158.toList == ([51] : List UInt8)))) = true := c24
      (try (have c24b1 : decide (t156 = 1 && (t157.toList == ([50, 46, 48] : List UInt8) && (t158.toList == ([51] : List UInt8)))) = true := by simpa using c24))
      (try (have c24b2 : (t156 == 1 && (t157.toList == ([50, 46, 48] : List UInt8) && (t158.toList == ([51] : List UInt8)))) = true := by simpa using c24))
      clear c24
      (first | rw [c24b0] | (simp only [i64_w, i32_w]; rw [c24b0]) | skip)
      by_cases c25 : (t161 == 0 && (t162.toList == ([50, 45, 49] : List UInt8) && (t163.toList == ([51] : List UInt8)))) = true
      · rw [if_pos c25] at H
        have c25b0 : (t161 == 0 && (t162.toList == ([50, 45, 49] : List UInt8) && (t163.toList == ([51] : List UInt8)))) = true := c25
        (try (have c25b1 : decide (t161 = 0 && (t162.toList == ([50, 45, 49] : List UInt8) && (t163.toList == ([51] : List UInt8)))) = true := by simpa using c25))
        (try (have c25b2 : (t161 == 0 && (t162.toList == ([50, 45, 49] : List UInt8) && (t163.toList == ([51] : List UInt8)))) = true := by simpa using c25))
        clear c25
        by_cases c26 : t159 = 0
        · rw [if_pos c26] at H
          have c26b0 : (t159 == 0) = true := beq_iff_eq.mpr c26
          have c26b1 : (t159 != 0) = false := bne_eq_false_iff_eq.mpr c26
          clear c26
          by_cases c27 : t164 = 0
          · rw [if_pos c27] at H
            have c27b0 : (t164 == 0) = true := beq_iff_eq.mpr c27
            have c27b1 : (t164 != 0) = false := bne_eq_false_iff_eq.mpr c27
            clear c27
            by_cases c28 : t169 = 4
            · rw [if_pos c28] at H
              have c28b0 : (t169 == 4) = true := beq_iff_eq.mpr c28
              have c28b1 : (t169 != 4) = false := bne_eq_false_iff_eq.mpr c28
              clear c28
              have H' := Aside0.mk H
              clear H
              have hnb29 := NB160_165.out
              have hnc29 := NB165_160.out
              have hnb30 := NB160_170.out
              have hnc30 := NB170_160.out
              have hnb31 := NB160_175.out
              have hnc31 := NB175_160.out
              have hcz32_0 : w19.cell? ⟨gb160, 0, none⟩ = some (.int .i64 t156) := (blk_cell BK160.out 0).trans rfl
              have hcz32_1 : w19.cell? ⟨gb160, 1, none⟩ = some (.string t157) := (blk_cell BK160.out 1).trans rfl
              have hcz32_2 : w19.cell? ⟨gb160, 2, none⟩ = some (.string t158) := (blk_cell BK160.out 2).trans rfl
              have hfz32_0 := blk_frozen BK160.out 0
              have hfz32_1 := blk_frozen BK160.out 1
              have hfz32_2 := blk_frozen BK160.out 2
              have hnb33 := NB165_170.out
              have hnc33 := NB170_165.out
              have hnb34 := NB165_175.out
              have hnc34 := NB175_165.out
              have hcz35_0 : w19.cell? ⟨gb165, 0, none⟩ = some (.int .i64 t161) := (blk_cell BK165.out 0).trans rfl
              have hcz35_1 : w19.cell? ⟨gb165, 1, none⟩ = some (.string t162) := (blk_cell BK165.out 1).trans rfl
              have hcz35_2 : w19.cell? ⟨gb165, 2, none⟩ = some (.string t163) := (blk_cell BK165.out 2).trans rfl
              have hfz35_0 := blk_frozen BK165.out 0
              have hfz35_1 := blk_frozen BK165.out 1
              have hfz35_2 := blk_frozen BK165.out 2
              go_wp2
              go_meet
              case rel => exact ⟨_, ((t174 == 4)), (by first | rfl | (simp; done) | (simp [*]; done) | (simp [isEmpty_bne]; done)), H', ⟨by first | omega | exact Nat.le_refl _⟩, ⟨by (with_reducible repeat (first | refine blk_drewN ?_ _ | refine blk_drew ?_ | refine blk_alloc ?_ _)); refine blk_far ?_ NB160_175.out _; (with_reducible repeat (first | refine blk_drewN ?_ _ | refine blk_drew ?_ | refine blk_alloc ?_ _)); refine blk_far ?_ NB160_175.out _; (with_reducible repeat (first | refine blk_drewN ?_ _ | refine blk_drew ?_ | refine blk_alloc ?_ _)); refine blk_far ?_ NB160_175.out _; (with_reducible repeat (first | refine blk_drewN ?_ _ | refine blk_drew ?_ | refine blk_alloc ?_ _)); exact BK160.out⟩, ⟨by (with_reducible repeat (first | refine blk_drewN ?_ _ | refine blk_drew ?_ | refine blk_alloc ?_ _)); refine blk_far ?_ NB165_175.out _; (with_reducible repeat (first | refine blk_drewN ?_ _ | refine blk_drew ?_ | refine blk_alloc ?_ _)); refine blk_far ?_ NB165_175.out _; (with_reducible repeat (first | refine blk_drewN ?_ _ | refine blk_drew ?_ | refine blk_alloc ?_ _)); refine blk_far ?_ NB165_175.out _; (with_reducible repeat (first | refine blk_drewN ?_ _ | refine blk_drew ?_ | refine blk_alloc ?_ _)); exact BK165.out⟩, ⟨by (with_reducible repeat (first | refine blk_drewN ?_ _ | refine blk_drew ?_ | refine blk_alloc ?_ _)); refine blk_far ?_ NB170_175.out _; (with_reducible repeat (first | refine blk_drewN ?_ _ | refine blk_drew ?_ | refine blk_alloc ?_ _)); refine blk_far ?_ NB170_175.out _; (with_reducible repeat (first | refine blk_drewN ?_ _ | refine blk_drew ?_ | refine blk_alloc ?_ _)); refine blk_far ?_ NB170_175.out _; (with_reducible repeat (first | refine blk_drewN ?_ _ | refine blk_drew ?_ | refine blk_alloc ?_ _)); exact BK170.out⟩, ⟨by (with_reducible repeat (first | refine blk_drewN ?_ _ | refine blk_drew ?_ | refine blk_alloc ?_ _)); refine blk_put (cs := #[.int .i64 t171, .string t172, .string (⟨#[]⟩ : ByteArray)]) ?_ 2 _ rfl; (with_reducible repeat (first | refine blk_drewN ?_ _ | refine blk_drew ?_ | refine blk_alloc ?_ _)); refine blk_put (cs := #[.int .i64 t171, .string (⟨#[]⟩ : ByteArray), .string (⟨#[]⟩ : ByteArray)]) ?_ 1 _ rfl; (with_reducible repeat (first | refine blk_drewN ?_ _ | refine blk_drew ?_ | refine blk_alloc ?_ _)); refine blk_put (cs := #[.int .i64 0, .string (⟨#[]⟩ : ByteArray), .string (⟨#[]⟩ : ByteArray)]) ?_ 0 _ rfl; (with_reducible repeat (first | refine blk_drewN ?_ _ | refine blk_drew ?_ | refine blk_alloc ?_ _)); exact BK175.out⟩, ⟨by repeat (first | (with_reducible first | exact HB.out | apply below_alloc | apply pw_below_drewN | apply below_drew1 | refine below_set ?_ GE160.out | refine below_set ?_ GE165.out | refine below_set ?_ GE170.out | refine below_set ?_ GE175.out) | exact HB.out)⟩⟩
            · rw [if_neg c28] at H
              have c28b0 : (t169 == 4) = false := beq_eq_false_iff_ne.mpr c28
              have c28b1 : (t169 != 4) = true := bne_iff_ne.mpr c28
              have H' := Aside0.mk H
              clear H
              have hnb36 := NB160_165.out
              have hnc36 := NB165_160.out
              have hnb37 := NB160_170.out
              have hnc37 := NB170_160.out
              have hnb38 := NB160_175.out
              have hnc38 := NB175_160.out
              have hcz39_0 : w19.cell? ⟨gb160, 0, none⟩ = some (.int .i64 t156) := (blk_cell BK160.out 0).trans rfl
              have hcz39_1 : w19.cell? ⟨gb160, 1, none⟩ = some (.string t157) := (blk_cell BK160.out 1).trans rfl
              have hcz39_2 : w19.cell? ⟨gb160, 2, none⟩ = some (.string t158) := (blk_cell BK160.out 2).trans rfl
              have hfz39_0 := blk_frozen BK160.out 0
              have hfz39_1 := blk_frozen BK160.out 1
              have hfz39_2 := blk_frozen BK160.out 2
              have hnb40 := NB165_170.out
              have hnc40 := NB170_165.out
              have hnb41 := NB165_175.out
              have hnc41 := NB175_165.out
              have hcz42_0 : w19.cell? ⟨gb165, 0, none⟩ = some (.int .i64 t161) := (blk_cell BK165.out 0).trans rfl
              have hcz42_1 : w19.cell? ⟨gb165, 1, none⟩ = some (.string t162) := (blk_cell BK165.out 1).trans rfl
              have hcz42_2 : w19.cell? ⟨gb165, 2, none⟩ = some (.string t163) := (blk_cell BK165.out 2).trans rfl
              have hfz42_0 := blk_frozen BK165.out 0
              have hfz42_1 := blk_frozen BK165.out 1
              have hfz42_2 := blk_frozen BK165.out 2
              go_wp2
              go_meet
              case rel => exact ⟨_, (false), (by first | rfl | (simp; done) | (simp [*]; done) | (simp [isEmpty_bne]; done)), H', ⟨by first | omega | exact Nat.le_refl _⟩, ⟨by (with_reducible repeat (first | refine blk_drewN ?_ _ | refine blk_drew ?_ | refine blk_alloc ?_ _)); refine blk_far ?_ NB160_175.out _; (with_reducible repeat (first | refine blk_drewN ?_ _ | refine blk_drew ?_ | refine blk_alloc ?_ _)); refine blk_far ?_ NB160_175.out _; (with_reducible repeat (first | refine blk_drewN ?_ _ | refine blk_drew ?_ | refine blk_alloc ?_ _)); refine blk_far ?_ NB160_175.out _; (with_reducible repeat (first | refine blk_drewN ?_ _ | refine blk_drew ?_ | refine blk_alloc ?_ _)); exact BK160.out⟩, ⟨by (with_reducible repeat (first | refine blk_drewN ?_ _ | refine blk_drew ?_ | refine blk_alloc ?_ _)); refine blk_far ?_ NB165_175.out _; (with_reducible repeat (first | refine blk_drewN ?_ _ | refine blk_drew ?_ | refine blk_alloc ?_ _)); refine blk_far ?_ NB165_175.out _; (with_reducible repeat (first | refine blk_drewN ?_ _ | refine blk_drew ?_ | refine blk_alloc ?_ _)); refine blk_far ?_ NB165_175.out _; (with_reducible repeat (first | refine blk_drewN ?_ _ | refine blk_drew ?_ | refine blk_alloc ?_ _)); exact BK165.out⟩, ⟨by (with_reducible repeat (first | refine blk_drewN ?_ _ | refine blk_drew ?_ | refine blk_alloc ?_ _)); refine blk_far ?_ NB170_175.out _; (with_reducible repeat (first | refine blk_drewN ?_ _ | refine blk_drew ?_ | refine blk_alloc ?_ _)); refine blk_far ?_ NB170_175.out _; (with_reducible repeat (first | refine blk_drewN ?_ _ | refine blk_drew ?_ | refine blk_alloc ?_ _)); refine blk_far ?_ NB170_175.out _; (with_reducible repeat (first | refine blk_drewN ?_ _ | refine blk_drew ?_ | refine blk_alloc ?_ _)); exact BK170.out⟩, ⟨by (with_reducible repeat (first | refine blk_drewN ?_ _ | refine blk_drew ?_ | refine blk_alloc ?_ _)); refine blk_put (cs := #[.int .i64 t171, .string t172, .string (⟨#[]⟩ : ByteArray)]) ?_ 2 _ rfl; (with_reducible repeat (first | refine blk_drewN ?_ _ | refine blk_drew ?_ | refine blk_alloc ?_ _)); refine blk_put (cs := #[.int .i64 t171, .string (⟨#[]⟩ : ByteArray), .string (⟨#[]⟩ : ByteArray)]) ?_ 1 _ rfl; (with_reducible repeat (first | refine blk_drewN ?_ _ | refine blk_drew ?_ | refine blk_alloc ?_ _)); refine blk_put (cs := #[.int .i64 0, .string (⟨#[]⟩ : ByteArray), .string (⟨#[]⟩ : ByteArray)]) ?_ 0 _ rfl; (with_reducible repeat (first | refine blk_drewN ?_ _ | refine blk_drew ?_ | refine blk_alloc ?_ _)); exact BK175.out⟩, ⟨by repeat (first | (with_reducible first | exact HB.out | apply below_alloc | apply pw_below_drewN | apply below_drew1 | refine below_set ?_ GE160.out | refine below_set ?_ GE165.out | refine below_set ?_ GE170.out | refine below_set ?_ GE175.out) | exact HB.out)⟩⟩
          · rw [if_neg c27] at H
            have c27b0 : (t164 == 0) = false := beq_eq_false_iff_ne.mpr c27
            have c27b1 : (t164 != 0) = true := bne_iff_ne.mpr c27
            have H' := Aside0.mk H
            clear H
            have hnb43 := NB160_165.out
            have hnc43 := NB165_160.out
            have hnb44 := NB160_170.out
            have hnc44 := NB170_160.out
            have hnb45 := NB160_175.out
            have hnc45 := NB175_160.out
            have hcz46_0 : w19.cell? ⟨gb160, 0, none⟩ = some (.int .i64 t156) := (blk_cell BK160.out 0).trans rfl
            have hcz46_1 : w19.cell? ⟨gb160, 1, none⟩ = some (.string t157) := (blk_cell BK160.out 1).trans rfl
            have hcz46_2 : w19.cell? ⟨gb160, 2, none⟩ = some (.string t158) := (blk_cell BK160.out 2).trans rfl
            have hfz46_0 := blk_frozen BK160.out 0
            have hfz46_1 := blk_frozen BK160.out 1
            have hfz46_2 := blk_frozen BK160.out 2
            have hnb47 := NB165_170.out
            have hnc47 := NB170_165.out
            have hnb48 := NB165_175.out
            have hnc48 := NB175_165.out
            have hcz49_0 : w19.cell? ⟨gb165, 0, none⟩ = some (.int .i64 t161) := (blk_cell BK165.out 0).trans rfl
            have hcz49_1 : w19.cell? ⟨gb165, 1, none⟩ = some (.string t162) := (blk_cell BK165.out 1).trans rfl
            have hcz49_2 : w19.cell? ⟨gb165, 2, none⟩ = some (.string t163) := (blk_cell BK165.out 2).trans rfl
            have hfz49_0 := blk_frozen BK165.out 0
            have hfz49_1 := blk_frozen BK165.out 1
            have hfz49_2 := blk_frozen BK165.out 2
            go_wp2
            go_meet
            case rel => exact ⟨_, (false), (by first | rfl | (simp; done) | (simp [*]; done) | (simp [isEmpty_bne]; done)), H', ⟨by first | omega | exact Nat.le_refl _⟩, ⟨by (with_reducible repeat (first | refine blk_drewN ?_ _ | refine blk_drew ?_ | refine blk_alloc ?_ _)); refine blk_far ?_ NB160_175.out _; (with_reducible repeat (first | refine blk_drewN ?_ _ | refine blk_drew ?_ | refine blk_alloc ?_ _)); refine blk_far ?_ NB160_175.out _; (with_reducible repeat (first | refine blk_drewN ?_ _ | refine blk_drew ?_ | refine blk_alloc ?_ _)); refine blk_far ?_ NB160_175.out _; (with_reducible repeat (first | refine blk_drewN ?_ _ | refine blk_drew ?_ | refine blk_alloc ?_ _)); exact BK160.out⟩, ⟨by (with_reducible repeat (first | refine blk_drewN ?_ _ | refine blk_drew ?_ | refine blk_alloc ?_ _)); refine blk_far ?_ NB165_175.out _; (with_reducible repeat (first | refine blk_drewN ?_ _ | refine blk_drew ?_ | refine blk_alloc ?_ _)); refine blk_far ?_ NB165_175.out _; (with_reducible repeat (first | refine blk_drewN ?_ _ | refine blk_drew ?_ | refine blk_alloc ?_ _)); refine blk_far ?_ NB165_175.out _; (with_reducible repeat (first | refine blk_drewN ?_ _ | refine blk_drew ?_ | refine blk_alloc ?_ _)); exact BK165.out⟩, ⟨by (with_reducible repeat (first | refine blk_drewN ?_ _ | refine blk_drew ?_ | refine blk_alloc ?_ _)); refine blk_far ?_ NB170_175.out _; (with_reducible repeat (first | refine blk_drewN ?_ _ | refine blk_drew ?_ | refine blk_alloc ?_ _)); refine blk_far ?_ NB170_175.out _; (with_reducible repeat (first | refine blk_drewN ?_ _ | refine blk_drew ?_ | refine blk_alloc ?_ _)); refine blk_far ?_ NB170_175.out _; (with_reducible repeat (first | refine blk_drewN ?_ _ | refine blk_drew ?_ | refine blk_alloc ?_ _)); exact BK170.out⟩, ⟨by (with_reducible repeat (first | refine blk_drewN ?_ _ | refine blk_drew ?_ | refine blk_alloc ?_ _)); refine blk_put (cs := #[.int .i64 t171, .string t172, .string (⟨#[]⟩ : ByteArray)]) ?_ 2 _ rfl; (with_reducible repeat (first | refine blk_drewN ?_ _ | refine blk_drew ?_ | refine blk_alloc ?_ _)); refine blk_put (cs := #[.int .i64 t171, .string (⟨#[]⟩ : ByteArray), .string (⟨#[]⟩ : ByteArray)]) ?_ 1 _ rfl; (with_reducible repeat (first | refine blk_drewN ?_ _ | refine blk_drew ?_ | refine blk_alloc ?_ _)); refine blk_put (cs := #[.int .i64 0, .string (⟨#[]⟩ : ByteArray), .string (⟨#[]⟩ : ByteArray)]) ?_ 0 _ rfl; (with_reducible repeat (first | refine blk_drewN ?_ _ | refine blk_drew ?_ | refine blk_alloc ?_ _)); exact BK175.out⟩, ⟨by repeat (first | (with_reducible first | exact HB.out | apply below_alloc | apply pw_below_drewN | apply below_drew1 | refine below_set ?_ GE160.out | refine below_set ?_ GE165.out | refine below_set ?_ GE170.out | refine below_set ?_ GE175.out) | exact HB.out)⟩⟩
        · rw [if_neg c26] at H
          have c26b0 : (t159 == 0) = false := beq_eq_false_iff_ne.mpr c26
          have c26b1 : (t159 != 0) = true := bne_iff_ne.mpr c26
          have H' := Aside0.mk H
          clear H
          have hnb50 := NB160_165.out
          have hnc50 := NB165_160.out
          have hnb51 := NB160_170.out
          have hnc51 := NB170_160.out
          have hnb52 := NB160_175.out
          have hnc52 := NB175_160.out
          have hcz53_0 : w19.cell? ⟨gb160, 0, none⟩ = some (.int .i64 t156) := (blk_cell BK160.out 0).trans rfl
          have hcz53_1 : w19.cell? ⟨gb160, 1, none⟩ = some (.string t157) := (blk_cell BK160.out 1).trans rfl
          have hcz53_2 : w19.cell? ⟨gb160, 2, none⟩ = some (.string t158) := (blk_cell BK160.out 2).trans rfl
          have hfz53_0 := blk_frozen BK160.out 0
          have hfz53_1 := blk_frozen BK160.out 1
          have hfz53_2 := blk_frozen BK160.out 2
          have hnb54 := NB165_170.out
          have hnc54 := NB170_165.out
          have hnb55 := NB165_175.out
          have hnc55 := NB175_165.out
          have hcz56_0 : w19.cell? ⟨gb165, 0, none⟩ = some (.int .i64 t161) := (blk_cell BK165.out 0).trans rfl
          have hcz56_1 : w19.cell? ⟨gb165, 1, none⟩ = some (.string t162) := (blk_cell BK165.out 1).trans rfl
          have hcz56_2 : w19.cell? ⟨gb165, 2, none⟩ = some (.string t163) := (blk_cell BK165.out 2).trans rfl
          have hfz56_0 := blk_frozen BK165.out 0
          have hfz56_1 := blk_frozen BK165.out 1
          have hfz56_2 := blk_frozen BK165.out 2
          go_wp2
          go_meet
          case rel => exact ⟨_, (false), (by first | rfl | (simp; done) | (simp [*]; done) | (simp [isEmpty_bne]; done)), H', ⟨by first | omega | exact Nat.le_refl _⟩, ⟨by (with_reducible repeat (first | refine blk_drewN ?_ _ | refine blk_drew ?_ | refine blk_alloc ?_ _)); refine blk_far ?_ NB160_175.out _; (with_reducible repeat (first | refine blk_drewN ?_ _ | refine blk_drew ?_ | refine blk_alloc ?_ _)); refine blk_far ?_ NB160_175.out _; (with_reducible repeat (first | refine blk_drewN ?_ _ | refine blk_drew ?_ | refine blk_alloc ?_ _)); refine blk_far ?_ NB160_175.out _; (with_reducible repeat (first | refine blk_drewN ?_ _ | refine blk_drew ?_ | refine blk_alloc ?_ _)); exact BK160.out⟩, ⟨by (with_reducible repeat (first | refine blk_drewN ?_ _ | refine blk_drew ?_ | refine blk_alloc ?_ _)); refine blk_far ?_ NB165_175.out _; (with_reducible repeat (first | refine blk_drewN ?_ _ | refine blk_drew ?_ | refine blk_alloc ?_ _)); refine blk_far ?_ NB165_175.out _; (with_reducible repeat (first | refine blk_drewN ?_ _ | refine blk_drew ?_ | refine blk_alloc ?_ _)); refine blk_far ?_ NB165_175.out _; (with_reducible repeat (first | refine blk_drewN ?_ _ | refine blk_drew ?_ | refine blk_alloc ?_ _)); exact BK165.out⟩, ⟨by (with_reducible repeat (first | refine blk_drewN ?_ _ | refine blk_drew ?_ | refine blk_alloc ?_ _)); refine blk_far ?_ NB170_175.out _; (with_reducible repeat (first | refine blk_drewN ?_ _ | refine blk_drew ?_ | refine blk_alloc ?_ _)); refine blk_far ?_ NB170_175.out _; (with_reducible repeat (first | refine blk_drewN ?_ _ | refine blk_drew ?_ | refine blk_alloc ?_ _)); refine blk_far ?_ NB170_175.out _; (with_reducible repeat (first | refine blk_drewN ?_ _ | refine blk_drew ?_ | refine blk_alloc ?_ _)); exact BK170.out⟩, ⟨by (with_reducible repeat (first | refine blk_drewN ?_ _ | refine blk_drew ?_ | refine blk_alloc ?_ _)); refine blk_put (cs := #[.int .i64 t171, .string t172, .string (⟨#[]⟩ : ByteArray)]) ?_ 2 _ rfl; (with_reducible repeat (first | refine blk_drewN ?_ _ | refine blk_drew ?_ | refine blk_alloc ?_ _)); refine blk_put (cs := #[.int .i64 t171, .string (⟨#[]⟩ : ByteArray), .string (⟨#[]⟩ : ByteArray)]) ?_ 1 _ rfl; (with_reducible repeat (first | refine blk_drewN ?_ _ | refine blk_drew ?_ | refine blk_alloc ?_ _)); refine blk_put (cs := #[.int .i64 0, .string (⟨#[]⟩ : ByteArray), .string (⟨#[]⟩ : ByteArray)]) ?_ 0 _ rfl; (with_reducible repeat (first | refine blk_drewN ?_ _ | refine blk_drew ?_ | refine blk_alloc ?_ _)); exact BK175.out⟩, ⟨by repeat (first | (with_reducible first | exact HB.out | apply below_alloc | apply pw_below_drewN | apply below_drew1 | refine below_set ?_ GE160.out | refine below_set ?_ GE165.out | refine below_set ?_ GE170.out | refine below_set ?_ GE175.out) | exact HB.out)⟩⟩
      · rw [if_neg c25] at H
        have c25b0 : (t161 == 0 && (t162.toList == ([50, 45, 49] : List UInt8) && (t163.toList == ([51] : List UInt8)))) = false := by simpa using c25
        (try (have c25b1 : decide (t161 = 0 && (t162.toList == ([50, 45, 49] : List UInt8) && (t163.toList == ([51] : List UInt8)))) = false := by simpa using c25))
        (try (have c25b2 : (t161 == 0 && (t162.toList == ([50, 45, 49] : List UInt8) && (t163.toList == ([51] : List UInt8)))) = false := by simpa using c25))
        (try (have c25b3 : ¬ (t161 = 0 && (t162.toList == ([50, 45, 49] : List UInt8) && (t163.toList == ([51] : List UInt8)))) := by simpa using c25))
        clear c25
        have H' := Aside0.mk H
        clear H
        have hnb57 := NB160_165.out
        have hnc57 := NB165_160.out
        have hnb58 := NB160_170.out
        have hnc58 := NB170_160.out
        have hnb59 := NB160_175.out
        have hnc59 := NB175_160.out
        have hcz60_0 : w19.cell? ⟨gb160, 0, none⟩ = some (.int .i64 t156) := (blk_cell BK160.out 0).trans rfl
        have hcz60_1 : w19.cell? ⟨gb160, 1, none⟩ = some (.string t157) := (blk_cell BK160.out 1).trans rfl
        have hcz60_2 : w19.cell? ⟨gb160, 2, none⟩ = some (.string t158) := (blk_cell BK160.out 2).trans rfl
        have hfz60_0 := blk_frozen BK160.out 0
        have hfz60_1 := blk_frozen BK160.out 1
        have hfz60_2 := blk_frozen BK160.out 2
        have hnb61 := NB165_170.out
        have hnc61 := NB170_165.out
        have hnb62 := NB165_175.out
        have hnc62 := NB175_165.out
        have hcz63_0 : w19.cell? ⟨gb165, 0, none⟩ = some (.int .i64 t161) := (blk_cell BK165.out 0).trans rfl
        have hcz63_1 : w19.cell? ⟨gb165, 1, none⟩ = some (.string t162) := (blk_cell BK165.out 1).trans rfl
        have hcz63_2 : w19.cell? ⟨gb165, 2, none⟩ = some (.string t163) := (blk_cell BK165.out 2).trans rfl
        have hfz63_0 := blk_frozen BK165.out 0
        have hfz63_1 := blk_frozen BK165.out 1
        have hfz63_2 := blk_frozen BK165.out 2
        go_wp2
        go_meet
        case rel => exact ⟨_, (false), (by first | rfl | (simp; done) | (simp [*]; done) | (simp [isEmpty_bne]; done)), H', ⟨by first | omega | exact Nat.le_refl _⟩, ⟨by (with_reducible repeat (first | refine blk_drewN ?_ _ | refine blk_drew ?_ | refine blk_alloc ?_ _)); refine blk_far ?_ NB160_175.out _; (with_reducible repeat (first | refine blk_drewN ?_ _ | refine blk_drew ?_ | refine blk_alloc ?_ _)); refine blk_far ?_ NB160_175.out _; (with_reducible repeat (first | refine blk_drewN ?_ _ | refine blk_drew ?_ | refine blk_alloc ?_ _)); refine blk_far ?_ NB160_175.out _; (with_reducible repeat (first | refine blk_drewN ?_ _ | refine blk_drew ?_ | refine blk_alloc ?_ _)); exact BK160.out⟩, ⟨by (with_reducible repeat (first | refine blk_drewN ?_ _ | refine blk_drew ?_ | refine blk_alloc ?_ _)); refine blk_far ?_ NB165_175.out _; (with_reducible repeat (first | refine blk_drewN ?_ _ | refine blk_drew ?_ | refine blk_alloc ?_ _)); refine blk_far ?_ NB165_175.out _; (with_reducible repeat (first | refine blk_drewN ?_ _ | refine blk_drew ?_ | refine blk_alloc ?_ _)); refine blk_far ?_ NB165_175.out _; (with_reducible repeat (first | refine blk_drewN ?_ _ | refine blk_drew ?_ | refine blk_alloc ?_ _)); exact BK165.out⟩, ⟨by (with_reducible repeat (first | refine blk_drewN ?_ _ | refine blk_drew ?_ | refine blk_alloc ?_ _)); refine blk_far ?_ NB170_175.out _; (with_reducible repeat (first | refine blk_drewN ?_ _ | refine blk_drew ?_ | refine blk_alloc ?_ _)); refine blk_far ?_ NB170_175.out _; (with_reducible repeat (first | refine blk_drewN ?_ _ | refine blk_drew ?_ | refine blk_alloc ?_ _)); refine blk_far ?_ NB170_175.out _; (with_reducible repeat (first | refine blk_drewN ?_ _ | refine blk_drew ?_ | refine blk_alloc ?_ _)); exact BK170.out⟩, ⟨by (with_reducible repeat (first | refine blk_drewN ?_ _ | refine blk_drew ?_ | refine blk_alloc ?_ _)); refine blk_put (cs := #[.int .i64 t171, .string t172, .string (⟨#[]⟩ : ByteArray)]) ?_ 2 _ rfl; (with_reducible repeat (first | refine blk_drewN ?_ _ | refine blk_drew ?_ | refine blk_alloc ?_ _)); refine blk_put (cs := #[.int .i64 t171, .string (⟨#[]⟩ : ByteArray), .string (⟨#[]⟩ : ByteArray)]) ?_ 1 _ rfl; (with_reducible repeat (first | refine blk_drewN ?_ _ | refine blk_drew ?_ | refine blk_alloc ?_ _)); refine blk_put (cs := #[.int .i64 0, .string (⟨#[]⟩ : ByteArray), .string (⟨#[]⟩ : ByteArray)]) ?_ 0 _ rfl; (with_reducible repeat (first | refine blk_drewN ?_ _ | refine blk_drew ?_ | refine blk_alloc ?_ _)); exact BK175.out⟩, ⟨by repeat (first | (with_reducible first | exact HB.out | apply below_alloc | apply pw_below_drewN | apply below_drew1 | refine below_set ?_ GE160.out | refine below_set ?_ GE165.out | refine below_set ?_ GE170.out | refine below_set ?_ GE175.out) | exact HB.out)⟩⟩
    · rw [if_neg c24] at H
      have c24b0 : (t156 == 1 && (t157.toList == ([50, 46, 48] : List UInt8) && (t158.toList == ([51] : List UInt8)))) = false := by simpa using c24
      (try (have c24b1 : decide (t156 = 1 && (t157.toList == ([50, 46, 48] : List UInt8) && (t158.toList == ([51] : List UInt8)))) = false := by simpa using c24))
      (try (have c24b2 : (t156 == 1 && (t157.toList == ([50, 46, 48] : List UInt8) && (t158.toList == ([51] : List UInt8)))) = false := by simpa using c24))
      (try (have c24b3 : ¬ (t156 = 1 && (t157.toList == ([50, 46, 48] : List UInt8) && (t158.toList == ([51] : List UInt8)))) := by simpa using c24))
      clear c24
      (first | rw [c24b0] | (simp only [i64_w, i32_w]; rw [c24b0]) | skip)
      have H' := Aside0.mk H
      clear H
      have hnb64 := NB160_165.out
      have hnc64 := NB165_160.out
      have hnb65 := NB160_170.out
      have hnc65 := NB170_160.out
      have hnb66 := NB160_175.out
      have hnc66 := NB175_160.out
      have hcz67_0 : w19.cell? ⟨gb160, 0, none⟩ = some (.int .i64 t156) := (blk_cell BK160.out 0).trans rfl
      have hcz67_1 : w19.cell? ⟨gb160, 1, none⟩ = some (.string t157) := (blk_cell BK160.out 1).trans rfl
      have hcz67_2 : w19.cell? ⟨gb160, 2, none⟩ = some (.string t158) := (blk_cell BK160.out 2).trans rfl
      have hfz67_0 := blk_frozen BK160.out 0
      have hfz67_1 := blk_frozen BK160.out 1
      have hfz67_2 := blk_frozen BK160.out 2
      go_wp2
      go_meet
      case rel => exact ⟨_, (false), (by first | rfl | (simp; done) | (simp [*]; done) | (simp [isEmpty_bne]; done)), H', ⟨by first | omega | exact Nat.le_refl _⟩, ⟨by (with_reducible repeat (first | refine blk_drewN ?_ _ | refine blk_drew ?_ | refine blk_alloc ?_ _)); refine blk_far ?_ NB160_175.out _; (with_reducible repeat (first | refine blk_drewN ?_ _ | refine blk_drew ?_ | refine blk_alloc ?_ _)); refine blk_far ?_ NB160_175.out _; (with_reducible repeat (first | refine blk_drewN ?_ _ | refine blk_drew ?_ | refine blk_alloc ?_ _)); refine blk_far ?_ NB160_175.out _; (with_reducible repeat (first | refine blk_drewN ?_ _ | refine blk_drew ?_ | refine blk_alloc ?_ _)); exact BK160.out⟩, ⟨by (with_reducible repeat (first | refine blk_drewN ?_ _ | refine blk_drew ?_ | refine blk_alloc ?_ _)); refine blk_far ?_ NB165_175.out _; (with_reducible repeat (first | refine blk_drewN ?_ _ | refine blk_drew ?_ | refine blk_alloc ?_ _)); refine blk_far ?_ NB165_175.out _; (with_reducible repeat (first | refine blk_drewN ?_ _ | refine blk_drew ?_ | refine blk_alloc ?_ _)); refine blk_far ?_ NB165_175.out _; (with_reducible repeat (first | refine blk_drewN ?_ _ | refine blk_drew ?_ | refine blk_alloc ?_ _)); exact BK165.out⟩, ⟨by (with_reducible repeat (first | refine blk_drewN ?_ _ | refine blk_drew ?_ | refine blk_alloc ?_ _)); refine blk_far ?_ NB170_175.out _; (with_reducible repeat (first | refine blk_drewN ?_ _ | refine blk_drew ?_ | refine blk_alloc ?_ _)); refine blk_far ?_ NB170_175.out _; (with_reducible repeat (first | refine blk_drewN ?_ _ | refine blk_drew ?_ | refine blk_alloc ?_ _)); refine blk_far ?_ NB170_175.out _; (with_reducible repeat (first | refine blk_drewN ?_ _ | refine blk_drew ?_ | refine blk_alloc ?_ _)); exact BK170.out⟩, ⟨by (with_reducible repeat (first | refine blk_drewN ?_ _ | refine blk_drew ?_ | refine blk_alloc ?_ _)); refine blk_put (cs := #[.int .i64 t171, .string t172, .string (⟨#[]⟩ : ByteArray)]) ?_ 2 _ rfl; (with_reducible repeat (first | refine blk_drewN ?_ _ | refine blk_drew ?_ | refine blk_alloc ?_ _)); refine blk_put (cs := #[.int .i64 t171, .string (⟨#[]⟩ : ByteArray), .string (⟨#[]⟩ : ByteArray)]) ?_ 1 _ rfl; (with_reducible repeat (first | refine blk_drewN ?_ _ | refine blk_drew ?_ | refine blk_alloc ?_ _)); refine blk_put (cs := #[.int .i64 0, .string (⟨#[]⟩ : ByteArray), .string (⟨#[]⟩ : ByteArray)]) ?_ 0 _ rfl; (with_reducible repeat (first | refine blk_drewN ?_ _ | refine blk_drew ?_ | refine blk_alloc ?_ _)); exact BK175.out⟩, ⟨by repeat (first | (with_reducible first | exact HB.out | apply below_alloc | apply pw_below_drewN | apply below_drew1 | refine below_set ?_ GE160.out | refine below_set ?_ GE165.out | refine below_set ?_ GE170.out | refine below_set ?_ GE175.out) | exact HB.out)⟩⟩
  case rest =>
    clear HC5
    try clear c1
    try clear c2
    try clear p2
    try clear c3
    try clear c4
    try clear c5
    try clear c6
    try clear c8
    try clear c11
    try clear c15
    try clear c16
    try clear c20
    try clear c21
    try clear c22
    try clear c24
    try clear c24b0
    try clear c24b1
    try clear c24b2
    try clear c25
    try clear c25b0
    try clear c25b1
    try clear c25b2
    try clear c26
    try clear c26b0
    try clear c26b1
    try clear c27
    try clear c27b0
    try clear c27b1
    try clear c28
    try clear c28b0
    try clear c28b1
    try clear c29
    try clear c30
    try clear c31
    try clear c33
    try clear c34
    try clear c36
    try clear c37
    try clear c38
    try clear c40
    try clear c41
    try clear c43
    try clear c44
    try clear c45
    try clear c47
    try clear c48
    try clear c50
    try clear c51
    try clear c52
    try clear c54
    try clear c55
    try clear c57
    try clear c58
    try clear c59
    try clear c61
    try clear c62
    try clear c64
    try clear c65
    try clear c66
    try clear hcz12_0
    try clear hcz12_1
    try clear hcz12_2
    try clear hcz17_0
    try clear hcz17_1
    try clear hcz17_2
    try clear hcz23_0
    try clear hcz23_1
    try clear hcz23_2
    try clear hcz32_0
    try clear hcz32_1
    try clear hcz32_2
    try clear hcz35_0
    try clear hcz35_1
    try clear hcz35_2
    try clear hcz39_0
    try clear hcz39_1
    try clear hcz39_2
    try clear hcz42_0
    try clear hcz42_1
    try clear hcz42_2
    try clear hcz46_0
    try clear hcz46_1
    try clear hcz46_2
    try clear hcz49_0
    try clear hcz49_1
    try clear hcz49_2
    try clear hcz53_0
    try clear hcz53_1
    try clear hcz53_2
    try clear hcz56_0
    try clear hcz56_1
    try clear hcz56_2
    try clear hcz60_0
    try clear hcz60_1
    try clear hcz60_2
    try clear hcz63_0
    try clear hcz63_1
    try clear hcz63_2
    try clear hcz67_0
    try clear hcz67_1
    try clear hcz67_2
    try clear hcz8_0
    try clear hcz8_1
    try clear hcz8_2
    try clear hfz12_0
    try clear hfz12_1
    try clear hfz12_2
    try clear hfz17_0
    try clear hfz17_1
    try clear hfz17_2
    try clear hfz23_0
    try clear hfz23_1
    try clear hfz23_2
    try clear hfz32_0
    try clear hfz32_1
    try clear hfz32_2
    try clear hfz35_0
    try clear hfz35_1
    try clear hfz35_2
    try clear hfz39_0
    try clear hfz39_1
    try clear hfz39_2
    try clear hfz42_0
    try clear hfz42_1
    try clear hfz42_2
    try clear hfz46_0
    try clear hfz46_1
    try clear hfz46_2
    try clear hfz49_0
    try clear hfz49_1
    try clear hfz49_2
    try clear hfz53_0
    try clear hfz53_1
    try clear hfz53_2
    try clear hfz56_0
    try clear hfz56_1
    try clear hfz56_2
    try clear hfz60_0
    try clear hfz60_1
    try clear hfz60_2
    try clear hfz63_0
    try clear hfz63_1
    try clear hfz63_2
    try clear hfz67_0
    try clear hfz67_1
    try clear hfz67_2
    try clear hfz8_0
    try clear hfz8_1
    try clear hfz8_2
    obtain ⟨kq, x9_4, rfl, HA, HJ4, BK160, BK165, BK170, BK175, HB⟩ := hcut
    cases kq with
    | zero => exact absurd HA.out (by simp [keelsonlaw2_shown.j0])
    | succ kj4 =>
      have H := HA.out
      clear HA
      simp only [keelsonlaw2_shown.j0] at H
      replace H := Option.bind_eq_some_iff.mp H
      obtain ⟨t176, A680, H⟩ := H
      replace H : (if t176 = (-1) then ((version_CompareText.f kj4 (⟨#[49, 46, 49, 48]⟩ : ByteArray) (⟨#[49, 46, 57]⟩ : ByteArray)).bind fun t177 => (if t177 = 1 then ((version_CompareText.f kj4 (⟨#[49, 46, 48]⟩ : ByteArray) (⟨#[49, 46, 48, 97]⟩ : ByteArray)).bind fun t178 => (if x9_4 = true then (if t178 = (-1) then ((version_CompareText.f kj4 (⟨#[49, 97]⟩ : ByteArray) (⟨#[49, 43]⟩ : ByteArray)).bind fun t179 => (if t179 = (-1) then ((version_CompareText.f kj4 (⟨#[48, 48, 55]⟩ : ByteArray) (⟨#[55]⟩ : ByteArray)).bind fun t180 => (some (t180 == 0))) else (some false))) else (some false)) else (some false))) else (if x9_4 = true then (some false) else (some false)))) else (if x9_4 = true then (some false) else (some false))) = some r := H
      have A68 := Aside0.mk A680
      clear A680
      by_cases c69 : t176 = (-1)
      · rw [if_pos c69] at H
        have c69b0 : (t176 == (-1)) = true := beq_iff_eq.mpr c69
        have c69b1 : (t176 != (-1)) = false := bne_eq_false_iff_eq.mpr c69
        clear c69
        replace H := Option.bind_eq_some_iff.mp H
        obtain ⟨t177, A700, H⟩ := H
        replace H : (if t177 = 1 then ((version_CompareText.f kj4 (⟨#[49, 46, 48]⟩ : ByteArray) (⟨#[49, 46, 48, 97]⟩ : ByteArray)).bind fun t178 => (if x9_4 = true then (if t178 = (-1) then ((version_CompareText.f kj4 (⟨#[49, 97]⟩ : ByteArray) (⟨#[49, 43]⟩ : ByteArray)).bind fun t179 => (if t179 = (-1) then ((version_CompareText.f kj4 (⟨#[48, 48, 55]⟩ : ByteArray) (⟨#[55]⟩ : ByteArray)).bind fun t180 => (some (t180 == 0))) else (some false))) else (some false)) else (some false))) else (if x9_4 = true then (some false) else (some false))) = some r := H
        have A70 := Aside0.mk A700
        clear A700
        by_cases c71 : t177 = 1
        · rw [if_pos c71] at H
          have c71b0 : (t177 == 1) = true := beq_iff_eq.mpr c71
          have c71b1 : (t177 != 1) = false := bne_eq_false_iff_eq.mpr c71
          clear c71
          replace H := Option.bind_eq_some_iff.mp H
          obtain ⟨t178, A720, H⟩ := H
          replace H : (if x9_4 = true then (if t178 = (-1) then ((version_CompareText.f kj4 (⟨#[49, 97]⟩ : ByteArray) (⟨#[49, 43]⟩ : ByteArray)).bind fun t179 => (if t179 = (-1) then ((version_CompareText.f kj4 (⟨#[48, 48, 55]⟩ : ByteArray) (⟨#[55]⟩ : ByteArray)).bind fun t180 => (some (t180 == 0))) else (some false))) else (some false)) else (some false)) = some r := H
          have A72 := Aside0.mk A720
          clear A720
          by_cases c73 : x9_4 = true
          · subst c73
            have H1 : (if t178 = (-1) then ((version_CompareText.f kj4 (⟨#[49, 97]⟩ : ByteArray) (⟨#[49, 43]⟩ : ByteArray)).bind fun t179 => (if t179 = (-1) then ((version_CompareText.f kj4 (⟨#[48, 48, 55]⟩ : ByteArray) (⟨#[55]⟩ : ByteArray)).bind fun t180 => (some (t180 == 0))) else (some false))) else (some false)) = some r := by rw [if_pos rfl] at H; exact H
            clear H
            have H := H1
            clear H1
            by_cases c74 : t178 = (-1)
            · rw [if_pos c74] at H
              have c74b0 : (t178 == (-1)) = true := beq_iff_eq.mpr c74
              have c74b1 : (t178 != (-1)) = false := bne_eq_false_iff_eq.mpr c74
              clear c74
              replace H := Option.bind_eq_some_iff.mp H
              obtain ⟨t179, A750, H⟩ := H
              replace H : (if t179 = (-1) then ((version_CompareText.f kj4 (⟨#[48, 48, 55]⟩ : ByteArray) (⟨#[55]⟩ : ByteArray)).bind fun t180 => (some (t180 == 0))) else (some false)) = some r := H
              have A75 := Aside0.mk A750
              clear A750
              by_cases c76 : t179 = (-1)
              · rw [if_pos c76] at H
                have c76b0 : (t179 == (-1)) = true := beq_iff_eq.mpr c76
                have c76b1 : (t179 != (-1)) = false := bne_eq_false_iff_eq.mpr c76
                clear c76
                replace H := Option.bind_eq_some_iff.mp H
                obtain ⟨t180, A770, H⟩ := H
                replace H : (some (t180 == 0)) = some r := H
                have A77 := Aside0.mk A770
                clear A770
                obtain rfl := Option.some.inj H
                have tok83 : True := trivial
                have tok84 : True := trivial
                have tok85 : True := trivial
                have tok86 : True := trivial
                go_wp2_with (first | ((with_reducible refine gate_callee (f := 10) rfl ?_); refine goesL_ (some 51) rfl rfl Tryd.func10 (by kernel_rfl) rfl #[.string (⟨#[49, 46, 48, 126, 114, 99, 49]⟩ : ByteArray), .string (⟨#[49, 46, 48]⟩ : ByteArray)] rfl (by (try simp only [List.map_toArray, List.map_cons, List.map_nil]); first | done | rfl | (simp only [List.length_drop, List.length_take]; rfl)) ?_; (with_reducible refine (version_CompareText.calls kj4 (⟨#[49, 46, 48, 126, 114, 99, 49]⟩ : ByteArray) (⟨#[49, 46, 48]⟩ : ByteArray) t176 _ (by first | exact hG | exact GL.below hG (by repeat (first | (with_reducible first | exact HB.out | apply below_alloc | apply pw_below_drewN | apply below_drew1 | refine below_set ?_ GE160.out | refine below_set ?_ GE165.out | refine below_set ?_ GE170.out | refine below_set ?_ GE175.out) | exact HB.out)))  A68.out).mono ?_); rintro e w78 ⟨rfl, hb⟩; refine ⟨_, rfl, ?_⟩; have n0_ := Aside0.mk (blk_below (g := gb160) (o := .cells #[.int .i64 t156, .string t157, .string t158] 27 (0, 0)) (by (with_reducible repeat (first | refine blk_drewN ?_ _ | refine blk_drew ?_ | refine blk_alloc ?_ _)); exact BK160.out) hb); have n1_ := Aside0.mk (blk_below (g := gb165) (o := .cells #[.int .i64 t161, .string t162, .string t163] 27 (0, 0)) (by (with_reducible repeat (first | refine blk_drewN ?_ _ | refine blk_drew ?_ | refine blk_alloc ?_ _)); exact BK165.out) hb); have n2_ := Aside0.mk (blk_below (g := gb170) (o := .cells #[.int .i64 t166, .string t167, .string t168] 27 (0, 0)) (by (with_reducible repeat (first | refine blk_drewN ?_ _ | refine blk_drew ?_ | refine blk_alloc ?_ _)); exact BK170.out) hb); have n3_ := Aside0.mk (blk_below (g := gb175) (o := .cells #[.int .i64 t171, .string t172, .string t173] 27 (0, 0)) (by (with_reducible repeat (first | refine blk_drewN ?_ _ | refine blk_drew ?_ | refine blk_alloc ?_ _)); exact BK175.out) hb); have n4_ := Aside0.mk (below_step (by repeat (first | (with_reducible first | exact HB.out | apply below_alloc | apply pw_below_drewN | apply below_drew1 | refine below_set ?_ GE160.out | refine below_set ?_ GE165.out | refine below_set ?_ GE170.out | refine below_set ?_ GE175.out) | exact HB.out)) hb); clear BK160; clear BK165; clear BK170; clear BK175; clear HB; have BK160 := n0_; have BK165 := n1_; have BK170 := n2_; have BK175 := n3_; have HB := n4_; clear n0_ n1_ n2_ n3_ n4_; (try clear hb); (try clear hb2); (try clear hk); (try clear hi)) | (go_at_call 10; have _t_ := tok83; clear _t_ tok83; (with_reducible refine (version_CompareText.calls kj4 (⟨#[49, 46, 49, 48]⟩ : ByteArray) (⟨#[49, 46, 57]⟩ : ByteArray) t177 _ (by first | exact hG | exact GL.below hG (by repeat (first | (with_reducible first | exact HB.out | apply below_alloc | apply pw_below_drewN | apply below_drew1 | refine below_set ?_ GE160.out | refine below_set ?_ GE165.out | refine below_set ?_ GE170.out | refine below_set ?_ GE175.out) | exact HB.out)))  A70.out).mono ?_); rintro e w79 ⟨rfl, hb⟩; have n0_ := Aside0.mk (blk_below (g := gb160) (o := .cells #[.int .i64 t156, .string t157, .string t158] 27 (0, 0)) (by (with_reducible repeat (first | refine blk_drewN ?_ _ | refine blk_drew ?_ | refine blk_alloc ?_ _)); exact BK160.out) hb); have n1_ := Aside0.mk (blk_below (g := gb165) (o := .cells #[.int .i64 t161, .string t162, .string t163] 27 (0, 0)) (by (with_reducible repeat (first | refine blk_drewN ?_ _ | refine blk_drew ?_ | refine blk_alloc ?_ _)); exact BK165.out) hb); have n2_ := Aside0.mk (blk_below (g := gb170) (o := .cells #[.int .i64 t166, .string t167, .string t168] 27 (0, 0)) (by (with_reducible repeat (first | refine blk_drewN ?_ _ | refine blk_drew ?_ | refine blk_alloc ?_ _)); exact BK170.out) hb); have n3_ := Aside0.mk (blk_below (g := gb175) (o := .cells #[.int .i64 t171, .string t172, .string t173] 27 (0, 0)) (by (with_reducible repeat (first | refine blk_drewN ?_ _ | refine blk_drew ?_ | refine blk_alloc ?_ _)); exact BK175.out) hb); have n4_ := Aside0.mk (below_step (by repeat (first | (with_reducible first | exact HB.out | apply below_alloc | apply pw_below_drewN | apply below_drew1 | refine below_set ?_ GE160.out | refine below_set ?_ GE165.out | refine below_set ?_ GE170.out | refine below_set ?_ GE175.out) | exact HB.out)) hb); clear BK160; clear BK165; clear BK170; clear BK175; clear HB; have BK160 := n0_; have BK165 := n1_; have BK170 := n2_; have BK175 := n3_; have HB := n4_; clear n0_ n1_ n2_ n3_ n4_; (try clear hb); (try clear hb2); (try clear hk); (try clear hi)) | (go_at_call 10; have _t_ := tok84; clear _t_ tok84; (with_reducible refine (version_CompareText.calls kj4 (⟨#[49, 46, 48]⟩ : ByteArray) (⟨#[49, 46, 48, 97]⟩ : ByteArray) t178 _ (by first | exact hG | exact GL.below hG (by repeat (first | (with_reducible first | exact HB.out | apply below_alloc | apply pw_below_drewN | apply below_drew1 | refine below_set ?_ GE160.out | refine below_set ?_ GE165.out | refine below_set ?_ GE170.out | refine below_set ?_ GE175.out) | exact HB.out)))  A72.out).mono ?_); rintro e w80 ⟨rfl, hb⟩; have n0_ := Aside0.mk (blk_below (g := gb160) (o := .cells #[.int .i64 t156, .string t157, .string t158] 27 (0, 0)) (by (with_reducible repeat (first | refine blk_drewN ?_ _ | refine blk_drew ?_ | refine blk_alloc ?_ _)); exact BK160.out) hb); have n1_ := Aside0.mk (blk_below (g := gb165) (o := .cells #[.int .i64 t161, .string t162, .string t163] 27 (0, 0)) (by (with_reducible repeat (first | refine blk_drewN ?_ _ | refine blk_drew ?_ | refine blk_alloc ?_ _)); exact BK165.out) hb); have n2_ := Aside0.mk (blk_below (g := gb170) (o := .cells #[.int .i64 t166, .string t167, .string t168] 27 (0, 0)) (by (with_reducible repeat (first | refine blk_drewN ?_ _ | refine blk_drew ?_ | refine blk_alloc ?_ _)); exact BK170.out) hb); have n3_ := Aside0.mk (blk_below (g := gb175) (o := .cells #[.int .i64 t171, .string t172, .string t173] 27 (0, 0)) (by (with_reducible repeat (first | refine blk_drewN ?_ _ | refine blk_drew ?_ | refine blk_alloc ?_ _)); exact BK175.out) hb); have n4_ := Aside0.mk (below_step (by repeat (first | (with_reducible first | exact HB.out | apply below_alloc | apply pw_below_drewN | apply below_drew1 | refine below_set ?_ GE160.out | refine below_set ?_ GE165.out | refine below_set ?_ GE170.out | refine below_set ?_ GE175.out) | exact HB.out)) hb); clear BK160; clear BK165; clear BK170; clear BK175; clear HB; have BK160 := n0_; have BK165 := n1_; have BK170 := n2_; have BK175 := n3_; have HB := n4_; clear n0_ n1_ n2_ n3_ n4_; (try clear hb); (try clear hb2); (try clear hk); (try clear hi)) | (go_at_call 10; have _t_ := tok85; clear _t_ tok85; (with_reducible refine (version_CompareText.calls kj4 (⟨#[49, 97]⟩ : ByteArray) (⟨#[49, 43]⟩ : ByteArray) t179 _ (by first | exact hG | exact GL.below hG (by repeat (first | (with_reducible first | exact HB.out | apply below_alloc | apply pw_below_drewN | apply below_drew1 | refine below_set ?_ GE160.out | refine below_set ?_ GE165.out | refine below_set ?_ GE170.out | refine below_set ?_ GE175.out) | exact HB.out)))  A75.out).mono ?_); rintro e w81 ⟨rfl, hb⟩; have n0_ := Aside0.mk (blk_below (g := gb160) (o := .cells #[.int .i64 t156, .string t157, .string t158] 27 (0, 0)) (by (with_reducible repeat (first | refine blk_drewN ?_ _ | refine blk_drew ?_ | refine blk_alloc ?_ _)); exact BK160.out) hb); have n1_ := Aside0.mk (blk_below (g := gb165) (o := .cells #[.int .i64 t161, .string t162, .string t163] 27 (0, 0)) (by (with_reducible repeat (first | refine blk_drewN ?_ _ | refine blk_drew ?_ | refine blk_alloc ?_ _)); exact BK165.out) hb); have n2_ := Aside0.mk (blk_below (g := gb170) (o := .cells #[.int .i64 t166, .string t167, .string t168] 27 (0, 0)) (by (with_reducible repeat (first | refine blk_drewN ?_ _ | refine blk_drew ?_ | refine blk_alloc ?_ _)); exact BK170.out) hb); have n3_ := Aside0.mk (blk_below (g := gb175) (o := .cells #[.int .i64 t171, .string t172, .string t173] 27 (0, 0)) (by (with_reducible repeat (first | refine blk_drewN ?_ _ | refine blk_drew ?_ | refine blk_alloc ?_ _)); exact BK175.out) hb); have n4_ := Aside0.mk (below_step (by repeat (first | (with_reducible first | exact HB.out | apply below_alloc | apply pw_below_drewN | apply below_drew1 | refine below_set ?_ GE160.out | refine below_set ?_ GE165.out | refine below_set ?_ GE170.out | refine below_set ?_ GE175.out) | exact HB.out)) hb); clear BK160; clear BK165; clear BK170; clear BK175; clear HB; have BK160 := n0_; have BK165 := n1_; have BK170 := n2_; have BK175 := n3_; have HB := n4_; clear n0_ n1_ n2_ n3_ n4_; (try clear hb); (try clear hb2); (try clear hk); (try clear hi)) | (go_at_call 10; have _t_ := tok86; clear _t_ tok86; (with_reducible refine (version_CompareText.calls kj4 (⟨#[48, 48, 55]⟩ : ByteArray) (⟨#[55]⟩ : ByteArray) t180 _ (by first | exact hG | exact GL.below hG (by repeat (first | (with_reducible first | exact HB.out | apply below_alloc | apply pw_below_drewN | apply below_drew1 | refine below_set ?_ GE160.out | refine below_set ?_ GE165.out | refine below_set ?_ GE170.out | refine below_set ?_ GE175.out) | exact HB.out)))  A77.out).mono ?_); rintro e w82 ⟨rfl, hb⟩; have n0_ := Aside0.mk (blk_below (g := gb160) (o := .cells #[.int .i64 t156, .string t157, .string t158] 27 (0, 0)) (by (with_reducible repeat (first | refine blk_drewN ?_ _ | refine blk_drew ?_ | refine blk_alloc ?_ _)); exact BK160.out) hb); have n1_ := Aside0.mk (blk_below (g := gb165) (o := .cells #[.int .i64 t161, .string t162, .string t163] 27 (0, 0)) (by (with_reducible repeat (first | refine blk_drewN ?_ _ | refine blk_drew ?_ | refine blk_alloc ?_ _)); exact BK165.out) hb); have n2_ := Aside0.mk (blk_below (g := gb170) (o := .cells #[.int .i64 t166, .string t167, .string t168] 27 (0, 0)) (by (with_reducible repeat (first | refine blk_drewN ?_ _ | refine blk_drew ?_ | refine blk_alloc ?_ _)); exact BK170.out) hb); have n3_ := Aside0.mk (blk_below (g := gb175) (o := .cells #[.int .i64 t171, .string t172, .string t173] 27 (0, 0)) (by (with_reducible repeat (first | refine blk_drewN ?_ _ | refine blk_drew ?_ | refine blk_alloc ?_ _)); exact BK175.out) hb); have n4_ := Aside0.mk (below_step (by repeat (first | (with_reducible first | exact HB.out | apply below_alloc | apply pw_below_drewN | apply below_drew1 | refine below_set ?_ GE160.out | refine below_set ?_ GE165.out | refine below_set ?_ GE170.out | refine below_set ?_ GE175.out) | exact HB.out)) hb); clear BK160; clear BK165; clear BK170; clear BK175; clear HB; have BK160 := n0_; have BK165 := n1_; have BK170 := n2_; have BK175 := n3_; have HB := n4_; clear n0_ n1_ n2_ n3_ n4_; (try clear hb); (try clear hb2); (try clear hk); (try clear hi)))
                go_ret
                exact ⟨by first | rfl | (simp [errW_none, errW_some] <;> rfl) | (simp [*, errW_none, errW_some] <;> rfl), by repeat (first | (with_reducible first | exact HB.out | apply below_alloc | apply pw_below_drewN | apply below_drew1 | refine below_set ?_ GE160.out | refine below_set ?_ GE165.out | refine below_set ?_ GE170.out | refine below_set ?_ GE175.out) | exact HB.out)⟩
              · rw [if_neg c76] at H
                have c76b0 : (t179 == (-1)) = false := beq_eq_false_iff_ne.mpr c76
                have c76b1 : (t179 != (-1)) = true := bne_iff_ne.mpr c76
                obtain rfl := Option.some.inj H
                have tok91 : True := trivial
                have tok92 : True := trivial
                have tok93 : True := trivial
                go_wp2_with (first | ((with_reducible refine gate_callee (f := 10) rfl ?_); refine goesL_ (some 51) rfl rfl Tryd.func10 (by kernel_rfl) rfl #[.string (⟨#[49, 46, 48, 126, 114, 99, 49]⟩ : ByteArray), .string (⟨#[49, 46, 48]⟩ : ByteArray)] rfl (by (try simp only [List.map_toArray, List.map_cons, List.map_nil]); first | done | rfl | (simp only [List.length_drop, List.length_take]; rfl)) ?_; (with_reducible refine (version_CompareText.calls kj4 (⟨#[49, 46, 48, 126, 114, 99, 49]⟩ : ByteArray) (⟨#[49, 46, 48]⟩ : ByteArray) t176 _ (by first | exact hG | exact GL.below hG (by repeat (first | (with_reducible first | exact HB.out | apply below_alloc | apply pw_below_drewN | apply below_drew1 | refine below_set ?_ GE160.out | refine below_set ?_ GE165.out | refine below_set ?_ GE170.out | refine below_set ?_ GE175.out) | exact HB.out)))  A68.out).mono ?_); rintro e w87 ⟨rfl, hb⟩; refine ⟨_, rfl, ?_⟩; have n0_ := Aside0.mk (blk_below (g := gb160) (o := .cells #[.int .i64 t156, .string t157, .string t158] 27 (0, 0)) (by (with_reducible repeat (first | refine blk_drewN ?_ _ | refine blk_drew ?_ | refine blk_alloc ?_ _)); exact BK160.out) hb); have n1_ := Aside0.mk (blk_below (g := gb165) (o := .cells #[.int .i64 t161, .string t162, .string t163] 27 (0, 0)) (by (with_reducible repeat (first | refine blk_drewN ?_ _ | refine blk_drew ?_ | refine blk_alloc ?_ _)); exact BK165.out) hb); have n2_ := Aside0.mk (blk_below (g := gb170) (o := .cells #[.int .i64 t166, .string t167, .string t168] 27 (0, 0)) (by (with_reducible repeat (first | refine blk_drewN ?_ _ | refine blk_drew ?_ | refine blk_alloc ?_ _)); exact BK170.out) hb); have n3_ := Aside0.mk (blk_below (g := gb175) (o := .cells #[.int .i64 t171, .string t172, .string t173] 27 (0, 0)) (by (with_reducible repeat (first | refine blk_drewN ?_ _ | refine blk_drew ?_ | refine blk_alloc ?_ _)); exact BK175.out) hb); have n4_ := Aside0.mk (below_step (by repeat (first | (with_reducible first | exact HB.out | apply below_alloc | apply pw_below_drewN | apply below_drew1 | refine below_set ?_ GE160.out | refine below_set ?_ GE165.out | refine below_set ?_ GE170.out | refine below_set ?_ GE175.out) | exact HB.out)) hb); clear BK160; clear BK165; clear BK170; clear BK175; clear HB; have BK160 := n0_; have BK165 := n1_; have BK170 := n2_; have BK175 := n3_; have HB := n4_; clear n0_ n1_ n2_ n3_ n4_; (try clear hb); (try clear hb2); (try clear hk); (try clear hi)) | (go_at_call 10; have _t_ := tok91; clear _t_ tok91; (with_reducible refine (version_CompareText.calls kj4 (⟨#[49, 46, 49, 48]⟩ : ByteArray) (⟨#[49, 46, 57]⟩ : ByteArray) t177 _ (by first | exact hG | exact GL.below hG (by repeat (first | (with_reducible first | exact HB.out | apply below_alloc | apply pw_below_drewN | apply below_drew1 | refine below_set ?_ GE160.out | refine below_set ?_ GE165.out | refine below_set ?_ GE170.out | refine below_set ?_ GE175.out) | exact HB.out)))  A70.out).mono ?_); rintro e w88 ⟨rfl, hb⟩; have n0_ := Aside0.mk (blk_below (g := gb160) (o := .cells #[.int .i64 t156, .string t157, .string t158] 27 (0, 0)) (by (with_reducible repeat (first | refine blk_drewN ?_ _ | refine blk_drew ?_ | refine blk_alloc ?_ _)); exact BK160.out) hb); have n1_ := Aside0.mk (blk_below (g := gb165) (o := .cells #[.int .i64 t161, .string t162, .string t163] 27 (0, 0)) (by (with_reducible repeat (first | refine blk_drewN ?_ _ | refine blk_drew ?_ | refine blk_alloc ?_ _)); exact BK165.out) hb); have n2_ := Aside0.mk (blk_below (g := gb170) (o := .cells #[.int .i64 t166, .string t167, .string t168] 27 (0, 0)) (by (with_reducible repeat (first | refine blk_drewN ?_ _ | refine blk_drew ?_ | refine blk_alloc ?_ _)); exact BK170.out) hb); have n3_ := Aside0.mk (blk_below (g := gb175) (o := .cells #[.int .i64 t171, .string t172, .string t173] 27 (0, 0)) (by (with_reducible repeat (first | refine blk_drewN ?_ _ | refine blk_drew ?_ | refine blk_alloc ?_ _)); exact BK175.out) hb); have n4_ := Aside0.mk (below_step (by repeat (first | (with_reducible first | exact HB.out | apply below_alloc | apply pw_below_drewN | apply below_drew1 | refine below_set ?_ GE160.out | refine below_set ?_ GE165.out | refine below_set ?_ GE170.out | refine below_set ?_ GE175.out) | exact HB.out)) hb); clear BK160; clear BK165; clear BK170; clear BK175; clear HB; have BK160 := n0_; have BK165 := n1_; have BK170 := n2_; have BK175 := n3_; have HB := n4_; clear n0_ n1_ n2_ n3_ n4_; (try clear hb); (try clear hb2); (try clear hk); (try clear hi)) | (go_at_call 10; have _t_ := tok92; clear _t_ tok92; (with_reducible refine (version_CompareText.calls kj4 (⟨#[49, 46, 48]⟩ : ByteArray) (⟨#[49, 46, 48, 97]⟩ : ByteArray) t178 _ (by first | exact hG | exact GL.below hG (by repeat (first | (with_reducible first | exact HB.out | apply below_alloc | apply pw_below_drewN | apply below_drew1 | refine below_set ?_ GE160.out | refine below_set ?_ GE165.out | refine below_set ?_ GE170.out | refine below_set ?_ GE175.out) | exact HB.out)))  A72.out).mono ?_); rintro e w89 ⟨rfl, hb⟩; have n0_ := Aside0.mk (blk_below (g := gb160) (o := .cells #[.int .i64 t156, .string t157, .string t158] 27 (0, 0)) (by (with_reducible repeat (first | refine blk_drewN ?_ _ | refine blk_drew ?_ | refine blk_alloc ?_ _)); exact BK160.out) hb); have n1_ := Aside0.mk (blk_below (g := gb165) (o := .cells #[.int .i64 t161, .string t162, .string t163] 27 (0, 0)) (by (with_reducible repeat (first | refine blk_drewN ?_ _ | refine blk_drew ?_ | refine blk_alloc ?_ _)); exact BK165.out) hb); have n2_ := Aside0.mk (blk_below (g := gb170) (o := .cells #[.int .i64 t166, .string t167, .string t168] 27 (0, 0)) (by (with_reducible repeat (first | refine blk_drewN ?_ _ | refine blk_drew ?_ | refine blk_alloc ?_ _)); exact BK170.out) hb); have n3_ := Aside0.mk (blk_below (g := gb175) (o := .cells #[.int .i64 t171, .string t172, .string t173] 27 (0, 0)) (by (with_reducible repeat (first | refine blk_drewN ?_ _ | refine blk_drew ?_ | refine blk_alloc ?_ _)); exact BK175.out) hb); have n4_ := Aside0.mk (below_step (by repeat (first | (with_reducible first | exact HB.out | apply below_alloc | apply pw_below_drewN | apply below_drew1 | refine below_set ?_ GE160.out | refine below_set ?_ GE165.out | refine below_set ?_ GE170.out | refine below_set ?_ GE175.out) | exact HB.out)) hb); clear BK160; clear BK165; clear BK170; clear BK175; clear HB; have BK160 := n0_; have BK165 := n1_; have BK170 := n2_; have BK175 := n3_; have HB := n4_; clear n0_ n1_ n2_ n3_ n4_; (try clear hb); (try clear hb2); (try clear hk); (try clear hi)) | (go_at_call 10; have _t_ := tok93; clear _t_ tok93; (with_reducible refine (version_CompareText.calls kj4 (⟨#[49, 97]⟩ : ByteArray) (⟨#[49, 43]⟩ : ByteArray) t179 _ (by first | exact hG | exact GL.below hG (by repeat (first | (with_reducible first | exact HB.out | apply below_alloc | apply pw_below_drewN | apply below_drew1 | refine below_set ?_ GE160.out | refine below_set ?_ GE165.out | refine below_set ?_ GE170.out | refine below_set ?_ GE175.out) | exact HB.out)))  A75.out).mono ?_); rintro e w90 ⟨rfl, hb⟩; have n0_ := Aside0.mk (blk_below (g := gb160) (o := .cells #[.int .i64 t156, .string t157, .string t158] 27 (0, 0)) (by (with_reducible repeat (first | refine blk_drewN ?_ _ | refine blk_drew ?_ | refine blk_alloc ?_ _)); exact BK160.out) hb); have n1_ := Aside0.mk (blk_below (g := gb165) (o := .cells #[.int .i64 t161, .string t162, .string t163] 27 (0, 0)) (by (with_reducible repeat (first | refine blk_drewN ?_ _ | refine blk_drew ?_ | refine blk_alloc ?_ _)); exact BK165.out) hb); have n2_ := Aside0.mk (blk_below (g := gb170) (o := .cells #[.int .i64 t166, .string t167, .string t168] 27 (0, 0)) (by (with_reducible repeat (first | refine blk_drewN ?_ _ | refine blk_drew ?_ | refine blk_alloc ?_ _)); exact BK170.out) hb); have n3_ := Aside0.mk (blk_below (g := gb175) (o := .cells #[.int .i64 t171, .string t172, .string t173] 27 (0, 0)) (by (with_reducible repeat (first | refine blk_drewN ?_ _ | refine blk_drew ?_ | refine blk_alloc ?_ _)); exact BK175.out) hb); have n4_ := Aside0.mk (below_step (by repeat (first | (with_reducible first | exact HB.out | apply below_alloc | apply pw_below_drewN | apply below_drew1 | refine below_set ?_ GE160.out | refine below_set ?_ GE165.out | refine below_set ?_ GE170.out | refine below_set ?_ GE175.out) | exact HB.out)) hb); clear BK160; clear BK165; clear BK170; clear BK175; clear HB; have BK160 := n0_; have BK165 := n1_; have BK170 := n2_; have BK175 := n3_; have HB := n4_; clear n0_ n1_ n2_ n3_ n4_; (try clear hb); (try clear hb2); (try clear hk); (try clear hi)))
                go_ret
                exact ⟨by first | rfl | (simp [errW_none, errW_some] <;> rfl) | (simp [*, errW_none, errW_some] <;> rfl), by repeat (first | (with_reducible first | exact HB.out | apply below_alloc | apply pw_below_drewN | apply below_drew1 | refine below_set ?_ GE160.out | refine below_set ?_ GE165.out | refine below_set ?_ GE170.out | refine below_set ?_ GE175.out) | exact HB.out)⟩
            · rw [if_neg c74] at H
              have c74b0 : (t178 == (-1)) = false := beq_eq_false_iff_ne.mpr c74
              have c74b1 : (t178 != (-1)) = true := bne_iff_ne.mpr c74
              obtain rfl := Option.some.inj H
              have tok97 : True := trivial
              have tok98 : True := trivial
              go_wp2_with (first | ((with_reducible refine gate_callee (f := 10) rfl ?_); refine goesL_ (some 51) rfl rfl Tryd.func10 (by kernel_rfl) rfl #[.string (⟨#[49, 46, 48, 126, 114, 99, 49]⟩ : ByteArray), .string (⟨#[49, 46, 48]⟩ : ByteArray)] rfl (by (try simp only [List.map_toArray, List.map_cons, List.map_nil]); first | done | rfl | (simp only [List.length_drop, List.length_take]; rfl)) ?_; (with_reducible refine (version_CompareText.calls kj4 (⟨#[49, 46, 48, 126, 114, 99, 49]⟩ : ByteArray) (⟨#[49, 46, 48]⟩ : ByteArray) t176 _ (by first | exact hG | exact GL.below hG (by repeat (first | (with_reducible first | exact HB.out | apply below_alloc | apply pw_below_drewN | apply below_drew1 | refine below_set ?_ GE160.out | refine below_set ?_ GE165.out | refine below_set ?_ GE170.out | refine below_set ?_ GE175.out) | exact HB.out)))  A68.out).mono ?_); rintro e w94 ⟨rfl, hb⟩; refine ⟨_, rfl, ?_⟩; have n0_ := Aside0.mk (blk_below (g := gb160) (o := .cells #[.int .i64 t156, .string t157, .string t158] 27 (0, 0)) (by (with_reducible repeat (first | refine blk_drewN ?_ _ | refine blk_drew ?_ | refine blk_alloc ?_ _)); exact BK160.out) hb); have n1_ := Aside0.mk (blk_below (g := gb165) (o := .cells #[.int .i64 t161, .string t162, .string t163] 27 (0, 0)) (by (with_reducible repeat (first | refine blk_drewN ?_ _ | refine blk_drew ?_ | refine blk_alloc ?_ _)); exact BK165.out) hb); have n2_ := Aside0.mk (blk_below (g := gb170) (o := .cells #[.int .i64 t166, .string t167, .string t168] 27 (0, 0)) (by (with_reducible repeat (first | refine blk_drewN ?_ _ | refine blk_drew ?_ | refine blk_alloc ?_ _)); exact BK170.out) hb); have n3_ := Aside0.mk (blk_below (g := gb175) (o := .cells #[.int .i64 t171, .string t172, .string t173] 27 (0, 0)) (by (with_reducible repeat (first | refine blk_drewN ?_ _ | refine blk_drew ?_ | refine blk_alloc ?_ _)); exact BK175.out) hb); have n4_ := Aside0.mk (below_step (by repeat (first | (with_reducible first | exact HB.out | apply below_alloc | apply pw_below_drewN | apply below_drew1 | refine below_set ?_ GE160.out | refine below_set ?_ GE165.out | refine below_set ?_ GE170.out | refine below_set ?_ GE175.out) | exact HB.out)) hb); clear BK160; clear BK165; clear BK170; clear BK175; clear HB; have BK160 := n0_; have BK165 := n1_; have BK170 := n2_; have BK175 := n3_; have HB := n4_; clear n0_ n1_ n2_ n3_ n4_; (try clear hb); (try clear hb2); (try clear hk); (try clear hi)) | (go_at_call 10; have _t_ := tok97; clear _t_ tok97; (with_reducible refine (version_CompareText.calls kj4 (⟨#[49, 46, 49, 48]⟩ : ByteArray) (⟨#[49, 46, 57]⟩ : ByteArray) t177 _ (by first | exact hG | exact GL.below hG (by repeat (first | (with_reducible first | exact HB.out | apply below_alloc | apply pw_below_drewN | apply below_drew1 | refine below_set ?_ GE160.out | refine below_set ?_ GE165.out | refine below_set ?_ GE170.out | refine below_set ?_ GE175.out) | exact HB.out)))  A70.out).mono ?_); rintro e w95 ⟨rfl, hb⟩; have n0_ := Aside0.mk (blk_below (g := gb160) (o := .cells #[.int .i64 t156, .string t157, .string t158] 27 (0, 0)) (by (with_reducible repeat (first | refine blk_drewN ?_ _ | refine blk_drew ?_ | refine blk_alloc ?_ _)); exact BK160.out) hb); have n1_ := Aside0.mk (blk_below (g := gb165) (o := .cells #[.int .i64 t161, .string t162, .string t163] 27 (0, 0)) (by (with_reducible repeat (first | refine blk_drewN ?_ _ | refine blk_drew ?_ | refine blk_alloc ?_ _)); exact BK165.out) hb); have n2_ := Aside0.mk (blk_below (g := gb170) (o := .cells #[.int .i64 t166, .string t167, .string t168] 27 (0, 0)) (by (with_reducible repeat (first | refine blk_drewN ?_ _ | refine blk_drew ?_ | refine blk_alloc ?_ _)); exact BK170.out) hb); have n3_ := Aside0.mk (blk_below (g := gb175) (o := .cells #[.int .i64 t171, .string t172, .string t173] 27 (0, 0)) (by (with_reducible repeat (first | refine blk_drewN ?_ _ | refine blk_drew ?_ | refine blk_alloc ?_ _)); exact BK175.out) hb); have n4_ := Aside0.mk (below_step (by repeat (first | (with_reducible first | exact HB.out | apply below_alloc | apply pw_below_drewN | apply below_drew1 | refine below_set ?_ GE160.out | refine below_set ?_ GE165.out | refine below_set ?_ GE170.out | refine below_set ?_ GE175.out) | exact HB.out)) hb); clear BK160; clear BK165; clear BK170; clear BK175; clear HB; have BK160 := n0_; have BK165 := n1_; have BK170 := n2_; have BK175 := n3_; have HB := n4_; clear n0_ n1_ n2_ n3_ n4_; (try clear hb); (try clear hb2); (try clear hk); (try clear hi)) | (go_at_call 10; have _t_ := tok98; clear _t_ tok98; (with_reducible refine (version_CompareText.calls kj4 (⟨#[49, 46, 48]⟩ : ByteArray) (⟨#[49, 46, 48, 97]⟩ : ByteArray) t178 _ (by first | exact hG | exact GL.below hG (by repeat (first | (with_reducible first | exact HB.out | apply below_alloc | apply pw_below_drewN | apply below_drew1 | refine below_set ?_ GE160.out | refine below_set ?_ GE165.out | refine below_set ?_ GE170.out | refine below_set ?_ GE175.out) | exact HB.out)))  A72.out).mono ?_); rintro e w96 ⟨rfl, hb⟩; have n0_ := Aside0.mk (blk_below (g := gb160) (o := .cells #[.int .i64 t156, .string t157, .string t158] 27 (0, 0)) (by (with_reducible repeat (first | refine blk_drewN ?_ _ | refine blk_drew ?_ | refine blk_alloc ?_ _)); exact BK160.out) hb); have n1_ := Aside0.mk (blk_below (g := gb165) (o := .cells #[.int .i64 t161, .string t162, .string t163] 27 (0, 0)) (by (with_reducible repeat (first | refine blk_drewN ?_ _ | refine blk_drew ?_ | refine blk_alloc ?_ _)); exact BK165.out) hb); have n2_ := Aside0.mk (blk_below (g := gb170) (o := .cells #[.int .i64 t166, .string t167, .string t168] 27 (0, 0)) (by (with_reducible repeat (first | refine blk_drewN ?_ _ | refine blk_drew ?_ | refine blk_alloc ?_ _)); exact BK170.out) hb); have n3_ := Aside0.mk (blk_below (g := gb175) (o := .cells #[.int .i64 t171, .string t172, .string t173] 27 (0, 0)) (by (with_reducible repeat (first | refine blk_drewN ?_ _ | refine blk_drew ?_ | refine blk_alloc ?_ _)); exact BK175.out) hb); have n4_ := Aside0.mk (below_step (by repeat (first | (with_reducible first | exact HB.out | apply below_alloc | apply pw_below_drewN | apply below_drew1 | refine below_set ?_ GE160.out | refine below_set ?_ GE165.out | refine below_set ?_ GE170.out | refine below_set ?_ GE175.out) | exact HB.out)) hb); clear BK160; clear BK165; clear BK170; clear BK175; clear HB; have BK160 := n0_; have BK165 := n1_; have BK170 := n2_; have BK175 := n3_; have HB := n4_; clear n0_ n1_ n2_ n3_ n4_; (try clear hb); (try clear hb2); (try clear hk); (try clear hi)))
              go_ret
              exact ⟨by first | rfl | (simp [errW_none, errW_some] <;> rfl) | (simp [*, errW_none, errW_some] <;> rfl), by repeat (first | (with_reducible first | exact HB.out | apply below_alloc | apply pw_below_drewN | apply below_drew1 | refine below_set ?_ GE160.out | refine below_set ?_ GE165.out | refine below_set ?_ GE170.out | refine below_set ?_ GE175.out) | exact HB.out)⟩
          · replace c73 := Bool.eq_false_iff.mpr c73
            subst c73
            have H1 : (some false) = some r := by rw [if_neg (show ¬ (false = true) by decide)] at H; exact H
            clear H
            have H := H1
            clear H1
            obtain rfl := Option.some.inj H
            have tok102 : True := trivial
            have tok103 : True := trivial
            go_wp2_with (first | ((with_reducible refine gate_callee (f := 10) rfl ?_); refine goesL_ (some 51) rfl rfl Tryd.func10 (by kernel_rfl) rfl #[.string (⟨#[49, 46, 48, 126, 114, 99, 49]⟩ : ByteArray), .string (⟨#[49, 46, 48]⟩ : ByteArray)] rfl (by (try simp only [List.map_toArray, List.map_cons, List.map_nil]); first | done | rfl | (simp only [List.length_drop, List.length_take]; rfl)) ?_; (with_reducible refine (version_CompareText.calls kj4 (⟨#[49, 46, 48, 126, 114, 99, 49]⟩ : ByteArray) (⟨#[49, 46, 48]⟩ : ByteArray) t176 _ (by first | exact hG | exact GL.below hG (by repeat (first | (with_reducible first | exact HB.out | apply below_alloc | apply pw_below_drewN | apply below_drew1 | refine below_set ?_ GE160.out | refine below_set ?_ GE165.out | refine below_set ?_ GE170.out | refine below_set ?_ GE175.out) | exact HB.out)))  A68.out).mono ?_); rintro e w99 ⟨rfl, hb⟩; refine ⟨_, rfl, ?_⟩; have n0_ := Aside0.mk (blk_below (g := gb160) (o := .cells #[.int .i64 t156, .string t157, .string t158] 27 (0, 0)) (by (with_reducible repeat (first | refine blk_drewN ?_ _ | refine blk_drew ?_ | refine blk_alloc ?_ _)); exact BK160.out) hb); have n1_ := Aside0.mk (blk_below (g := gb165) (o := .cells #[.int .i64 t161, .string t162, .string t163] 27 (0, 0)) (by (with_reducible repeat (first | refine blk_drewN ?_ _ | refine blk_drew ?_ | refine blk_alloc ?_ _)); exact BK165.out) hb); have n2_ := Aside0.mk (blk_below (g := gb170) (o := .cells #[.int .i64 t166, .string t167, .string t168] 27 (0, 0)) (by (with_reducible repeat (first | refine blk_drewN ?_ _ | refine blk_drew ?_ | refine blk_alloc ?_ _)); exact BK170.out) hb); have n3_ := Aside0.mk (blk_below (g := gb175) (o := .cells #[.int .i64 t171, .string t172, .string t173] 27 (0, 0)) (by (with_reducible repeat (first | refine blk_drewN ?_ _ | refine blk_drew ?_ | refine blk_alloc ?_ _)); exact BK175.out) hb); have n4_ := Aside0.mk (below_step (by repeat (first | (with_reducible first | exact HB.out | apply below_alloc | apply pw_below_drewN | apply below_drew1 | refine below_set ?_ GE160.out | refine below_set ?_ GE165.out | refine below_set ?_ GE170.out | refine below_set ?_ GE175.out) | exact HB.out)) hb); clear BK160; clear BK165; clear BK170; clear BK175; clear HB; have BK160 := n0_; have BK165 := n1_; have BK170 := n2_; have BK175 := n3_; have HB := n4_; clear n0_ n1_ n2_ n3_ n4_; (try clear hb); (try clear hb2); (try clear hk); (try clear hi)) | (go_at_call 10; have _t_ := tok102; clear _t_ tok102; (with_reducible refine (version_CompareText.calls kj4 (⟨#[49, 46, 49, 48]⟩ : ByteArray) (⟨#[49, 46, 57]⟩ : ByteArray) t177 _ (by first | exact hG | exact GL.below hG (by repeat (first | (with_reducible first | exact HB.out | apply below_alloc | apply pw_below_drewN | apply below_drew1 | refine below_set ?_ GE160.out | refine below_set ?_ GE165.out | refine below_set ?_ GE170.out | refine below_set ?_ GE175.out) | exact HB.out)))  A70.out).mono ?_); rintro e w100 ⟨rfl, hb⟩; have n0_ := Aside0.mk (blk_below (g := gb160) (o := .cells #[.int .i64 t156, .string t157, .string t158] 27 (0, 0)) (by (with_reducible repeat (first | refine blk_drewN ?_ _ | refine blk_drew ?_ | refine blk_alloc ?_ _)); exact BK160.out) hb); have n1_ := Aside0.mk (blk_below (g := gb165) (o := .cells #[.int .i64 t161, .string t162, .string t163] 27 (0, 0)) (by (with_reducible repeat (first | refine blk_drewN ?_ _ | refine blk_drew ?_ | refine blk_alloc ?_ _)); exact BK165.out) hb); have n2_ := Aside0.mk (blk_below (g := gb170) (o := .cells #[.int .i64 t166, .string t167, .string t168] 27 (0, 0)) (by (with_reducible repeat (first | refine blk_drewN ?_ _ | refine blk_drew ?_ | refine blk_alloc ?_ _)); exact BK170.out) hb); have n3_ := Aside0.mk (blk_below (g := gb175) (o := .cells #[.int .i64 t171, .string t172, .string t173] 27 (0, 0)) (by (with_reducible repeat (first | refine blk_drewN ?_ _ | refine blk_drew ?_ | refine blk_alloc ?_ _)); exact BK175.out) hb); have n4_ := Aside0.mk (below_step (by repeat (first | (with_reducible first | exact HB.out | apply below_alloc | apply pw_below_drewN | apply below_drew1 | refine below_set ?_ GE160.out | refine below_set ?_ GE165.out | refine below_set ?_ GE170.out | refine below_set ?_ GE175.out) | exact HB.out)) hb); clear BK160; clear BK165; clear BK170; clear BK175; clear HB; have BK160 := n0_; have BK165 := n1_; have BK170 := n2_; have BK175 := n3_; have HB := n4_; clear n0_ n1_ n2_ n3_ n4_; (try clear hb); (try clear hb2); (try clear hk); (try clear hi)) | (go_at_call 10; have _t_ := tok103; clear _t_ tok103; (with_reducible refine (version_CompareText.calls kj4 (⟨#[49, 46, 48]⟩ : ByteArray) (⟨#[49, 46, 48, 97]⟩ : ByteArray) t178 _ (by first | exact hG | exact GL.below hG (by repeat (first | (with_reducible first | exact HB.out | apply below_alloc | apply pw_below_drewN | apply below_drew1 | refine below_set ?_ GE160.out | refine below_set ?_ GE165.out | refine below_set ?_ GE170.out | refine below_set ?_ GE175.out) | exact HB.out)))  A72.out).mono ?_); rintro e w101 ⟨rfl, hb⟩; have n0_ := Aside0.mk (blk_below (g := gb160) (o := .cells #[.int .i64 t156, .string t157, .string t158] 27 (0, 0)) (by (with_reducible repeat (first | refine blk_drewN ?_ _ | refine blk_drew ?_ | refine blk_alloc ?_ _)); exact BK160.out) hb); have n1_ := Aside0.mk (blk_below (g := gb165) (o := .cells #[.int .i64 t161, .string t162, .string t163] 27 (0, 0)) (by (with_reducible repeat (first | refine blk_drewN ?_ _ | refine blk_drew ?_ | refine blk_alloc ?_ _)); exact BK165.out) hb); have n2_ := Aside0.mk (blk_below (g := gb170) (o := .cells #[.int .i64 t166, .string t167, .string t168] 27 (0, 0)) (by (with_reducible repeat (first | refine blk_drewN ?_ _ | refine blk_drew ?_ | refine blk_alloc ?_ _)); exact BK170.out) hb); have n3_ := Aside0.mk (blk_below (g := gb175) (o := .cells #[.int .i64 t171, .string t172, .string t173] 27 (0, 0)) (by (with_reducible repeat (first | refine blk_drewN ?_ _ | refine blk_drew ?_ | refine blk_alloc ?_ _)); exact BK175.out) hb); have n4_ := Aside0.mk (below_step (by repeat (first | (with_reducible first | exact HB.out | apply below_alloc | apply pw_below_drewN | apply below_drew1 | refine below_set ?_ GE160.out | refine below_set ?_ GE165.out | refine below_set ?_ GE170.out | refine below_set ?_ GE175.out) | exact HB.out)) hb); clear BK160; clear BK165; clear BK170; clear BK175; clear HB; have BK160 := n0_; have BK165 := n1_; have BK170 := n2_; have BK175 := n3_; have HB := n4_; clear n0_ n1_ n2_ n3_ n4_; (try clear hb); (try clear hb2); (try clear hk); (try clear hi)))
            go_ret
            exact ⟨by first | rfl | (simp [errW_none, errW_some] <;> rfl) | (simp [*, errW_none, errW_some] <;> rfl), by repeat (first | (with_reducible first | exact HB.out | apply below_alloc | apply pw_below_drewN | apply below_drew1 | refine below_set ?_ GE160.out | refine below_set ?_ GE165.out | refine below_set ?_ GE170.out | refine below_set ?_ GE175.out) | exact HB.out)⟩
        · rw [if_neg c71] at H
          have c71b0 : (t177 == 1) = false := beq_eq_false_iff_ne.mpr c71
          have c71b1 : (t177 != 1) = true := bne_iff_ne.mpr c71
          by_cases c104 : x9_4 = true
          · subst c104
            have H1 : (some false) = some r := by rw [if_pos rfl] at H; exact H
            clear H
            have H := H1
            clear H1
            obtain rfl := Option.some.inj H
            go_wp2_with (first | ((with_reducible refine gate_callee (f := 10) rfl ?_); refine goesL_ (some 51) rfl rfl Tryd.func10 (by kernel_rfl) rfl #[.string (⟨#[49, 46, 48, 126, 114, 99, 49]⟩ : ByteArray), .string (⟨#[49, 46, 48]⟩ : ByteArray)] rfl (by (try simp only [List.map_toArray, List.map_cons, List.map_nil]); first | done | rfl | (simp only [List.length_drop, List.length_take]; rfl)) ?_; (with_reducible refine (version_CompareText.calls kj4 (⟨#[49, 46, 48, 126, 114, 99, 49]⟩ : ByteArray) (⟨#[49, 46, 48]⟩ : ByteArray) t176 _ (by first | exact hG | exact GL.below hG (by repeat (first | (with_reducible first | exact HB.out | apply below_alloc | apply pw_below_drewN | apply below_drew1 | refine below_set ?_ GE160.out | refine below_set ?_ GE165.out | refine below_set ?_ GE170.out | refine below_set ?_ GE175.out) | exact HB.out)))  A68.out).mono ?_); rintro e w105 ⟨rfl, hb⟩; refine ⟨_, rfl, ?_⟩; have n0_ := Aside0.mk (blk_below (g := gb160) (o := .cells #[.int .i64 t156, .string t157, .string t158] 27 (0, 0)) (by (with_reducible repeat (first | refine blk_drewN ?_ _ | refine blk_drew ?_ | refine blk_alloc ?_ _)); exact BK160.out) hb); have n1_ := Aside0.mk (blk_below (g := gb165) (o := .cells #[.int .i64 t161, .string t162, .string t163] 27 (0, 0)) (by (with_reducible repeat (first | refine blk_drewN ?_ _ | refine blk_drew ?_ | refine blk_alloc ?_ _)); exact BK165.out) hb); have n2_ := Aside0.mk (blk_below (g := gb170) (o := .cells #[.int .i64 t166, .string t167, .string t168] 27 (0, 0)) (by (with_reducible repeat (first | refine blk_drewN ?_ _ | refine blk_drew ?_ | refine blk_alloc ?_ _)); exact BK170.out) hb); have n3_ := Aside0.mk (blk_below (g := gb175) (o := .cells #[.int .i64 t171, .string t172, .string t173] 27 (0, 0)) (by (with_reducible repeat (first | refine blk_drewN ?_ _ | refine blk_drew ?_ | refine blk_alloc ?_ _)); exact BK175.out) hb); have n4_ := Aside0.mk (below_step (by repeat (first | (with_reducible first | exact HB.out | apply below_alloc | apply pw_below_drewN | apply below_drew1 | refine below_set ?_ GE160.out | refine below_set ?_ GE165.out | refine below_set ?_ GE170.out | refine below_set ?_ GE175.out) | exact HB.out)) hb); clear BK160; clear BK165; clear BK170; clear BK175; clear HB; have BK160 := n0_; have BK165 := n1_; have BK170 := n2_; have BK175 := n3_; have HB := n4_; clear n0_ n1_ n2_ n3_ n4_; (try clear hb); (try clear hb2); (try clear hk); (try clear hi)) | (go_at_call 10; (with_reducible refine (version_CompareText.calls kj4 (⟨#[49, 46, 49, 48]⟩ : ByteArray) (⟨#[49, 46, 57]⟩ : ByteArray) t177 _ (by first | exact hG | exact GL.below hG (by repeat (first | (with_reducible first | exact HB.out | apply below_alloc | apply pw_below_drewN | apply below_drew1 | refine below_set ?_ GE160.out | refine below_set ?_ GE165.out | refine below_set ?_ GE170.out | refine below_set ?_ GE175.out) | exact HB.out)))  A70.out).mono ?_); rintro e w106 ⟨rfl, hb⟩; have n0_ := Aside0.mk (blk_below (g := gb160) (o := .cells #[.int .i64 t156, .string t157, .string t158] 27 (0, 0)) (by (with_reducible repeat (first | refine blk_drewN ?_ _ | refine blk_drew ?_ | refine blk_alloc ?_ _)); exact BK160.out) hb); have n1_ := Aside0.mk (blk_below (g := gb165) (o := .cells #[.int .i64 t161, .string t162, .string t163] 27 (0, 0)) (by (with_reducible repeat (first | refine blk_drewN ?_ _ | refine blk_drew ?_ | refine blk_alloc ?_ _)); exact BK165.out) hb); have n2_ := Aside0.mk (blk_below (g := gb170) (o := .cells #[.int .i64 t166, .string t167, .string t168] 27 (0, 0)) (by (with_reducible repeat (first | refine blk_drewN ?_ _ | refine blk_drew ?_ | refine blk_alloc ?_ _)); exact BK170.out) hb); have n3_ := Aside0.mk (blk_below (g := gb175) (o := .cells #[.int .i64 t171, .string t172, .string t173] 27 (0, 0)) (by (with_reducible repeat (first | refine blk_drewN ?_ _ | refine blk_drew ?_ | refine blk_alloc ?_ _)); exact BK175.out) hb); have n4_ := Aside0.mk (below_step (by repeat (first | (with_reducible first | exact HB.out | apply below_alloc | apply pw_below_drewN | apply below_drew1 | refine below_set ?_ GE160.out | refine below_set ?_ GE165.out | refine below_set ?_ GE170.out | refine below_set ?_ GE175.out) | exact HB.out)) hb); clear BK160; clear BK165; clear BK170; clear BK175; clear HB; have BK160 := n0_; have BK165 := n1_; have BK170 := n2_; have BK175 := n3_; have HB := n4_; clear n0_ n1_ n2_ n3_ n4_; (try clear hb); (try clear hb2); (try clear hk); (try clear hi)))
            go_ret
            exact ⟨by first | rfl | (simp [errW_none, errW_some] <;> rfl) | (simp [*, errW_none, errW_some] <;> rfl), by repeat (first | (with_reducible first | exact HB.out | apply below_alloc | apply pw_below_drewN | apply below_drew1 | refine below_set ?_ GE160.out | refine below_set ?_ GE165.out | refine below_set ?_ GE170.out | refine below_set ?_ GE175.out) | exact HB.out)⟩
          · replace c104 := Bool.eq_false_iff.mpr c104
            subst c104
            have H1 : (some false) = some r := by rw [if_neg (show ¬ (false = true) by decide)] at H; exact H
            clear H
            have H := H1
            clear H1
            obtain rfl := Option.some.inj H
            go_wp2_with (first | ((with_reducible refine gate_callee (f := 10) rfl ?_); refine goesL_ (some 51) rfl rfl Tryd.func10 (by kernel_rfl) rfl #[.string (⟨#[49, 46, 48, 126, 114, 99, 49]⟩ : ByteArray), .string (⟨#[49, 46, 48]⟩ : ByteArray)] rfl (by (try simp only [List.map_toArray, List.map_cons, List.map_nil]); first | done | rfl | (simp only [List.length_drop, List.length_take]; rfl)) ?_; (with_reducible refine (version_CompareText.calls kj4 (⟨#[49, 46, 48, 126, 114, 99, 49]⟩ : ByteArray) (⟨#[49, 46, 48]⟩ : ByteArray) t176 _ (by first | exact hG | exact GL.below hG (by repeat (first | (with_reducible first | exact HB.out | apply below_alloc | apply pw_below_drewN | apply below_drew1 | refine below_set ?_ GE160.out | refine below_set ?_ GE165.out | refine below_set ?_ GE170.out | refine below_set ?_ GE175.out) | exact HB.out)))  A68.out).mono ?_); rintro e w107 ⟨rfl, hb⟩; refine ⟨_, rfl, ?_⟩; have n0_ := Aside0.mk (blk_below (g := gb160) (o := .cells #[.int .i64 t156, .string t157, .string t158] 27 (0, 0)) (by (with_reducible repeat (first | refine blk_drewN ?_ _ | refine blk_drew ?_ | refine blk_alloc ?_ _)); exact BK160.out) hb); have n1_ := Aside0.mk (blk_below (g := gb165) (o := .cells #[.int .i64 t161, .string t162, .string t163] 27 (0, 0)) (by (with_reducible repeat (first | refine blk_drewN ?_ _ | refine blk_drew ?_ | refine blk_alloc ?_ _)); exact BK165.out) hb); have n2_ := Aside0.mk (blk_below (g := gb170) (o := .cells #[.int .i64 t166, .string t167, .string t168] 27 (0, 0)) (by (with_reducible repeat (first | refine blk_drewN ?_ _ | refine blk_drew ?_ | refine blk_alloc ?_ _)); exact BK170.out) hb); have n3_ := Aside0.mk (blk_below (g := gb175) (o := .cells #[.int .i64 t171, .string t172, .string t173] 27 (0, 0)) (by (with_reducible repeat (first | refine blk_drewN ?_ _ | refine blk_drew ?_ | refine blk_alloc ?_ _)); exact BK175.out) hb); have n4_ := Aside0.mk (below_step (by repeat (first | (with_reducible first | exact HB.out | apply below_alloc | apply pw_below_drewN | apply below_drew1 | refine below_set ?_ GE160.out | refine below_set ?_ GE165.out | refine below_set ?_ GE170.out | refine below_set ?_ GE175.out) | exact HB.out)) hb); clear BK160; clear BK165; clear BK170; clear BK175; clear HB; have BK160 := n0_; have BK165 := n1_; have BK170 := n2_; have BK175 := n3_; have HB := n4_; clear n0_ n1_ n2_ n3_ n4_; (try clear hb); (try clear hb2); (try clear hk); (try clear hi)) | (go_at_call 10; (with_reducible refine (version_CompareText.calls kj4 (⟨#[49, 46, 49, 48]⟩ : ByteArray) (⟨#[49, 46, 57]⟩ : ByteArray) t177 _ (by first | exact hG | exact GL.below hG (by repeat (first | (with_reducible first | exact HB.out | apply below_alloc | apply pw_below_drewN | apply below_drew1 | refine below_set ?_ GE160.out | refine below_set ?_ GE165.out | refine below_set ?_ GE170.out | refine below_set ?_ GE175.out) | exact HB.out)))  A70.out).mono ?_); rintro e w108 ⟨rfl, hb⟩; have n0_ := Aside0.mk (blk_below (g := gb160) (o := .cells #[.int .i64 t156, .string t157, .string t158] 27 (0, 0)) (by (with_reducible repeat (first | refine blk_drewN ?_ _ | refine blk_drew ?_ | refine blk_alloc ?_ _)); exact BK160.out) hb); have n1_ := Aside0.mk (blk_below (g := gb165) (o := .cells #[.int .i64 t161, .string t162, .string t163] 27 (0, 0)) (by (with_reducible repeat (first | refine blk_drewN ?_ _ | refine blk_drew ?_ | refine blk_alloc ?_ _)); exact BK165.out) hb); have n2_ := Aside0.mk (blk_below (g := gb170) (o := .cells #[.int .i64 t166, .string t167, .string t168] 27 (0, 0)) (by (with_reducible repeat (first | refine blk_drewN ?_ _ | refine blk_drew ?_ | refine blk_alloc ?_ _)); exact BK170.out) hb); have n3_ := Aside0.mk (blk_below (g := gb175) (o := .cells #[.int .i64 t171, .string t172, .string t173] 27 (0, 0)) (by (with_reducible repeat (first | refine blk_drewN ?_ _ | refine blk_drew ?_ | refine blk_alloc ?_ _)); exact BK175.out) hb); have n4_ := Aside0.mk (below_step (by repeat (first | (with_reducible first | exact HB.out | apply below_alloc | apply pw_below_drewN | apply below_drew1 | refine below_set ?_ GE160.out | refine below_set ?_ GE165.out | refine below_set ?_ GE170.out | refine below_set ?_ GE175.out) | exact HB.out)) hb); clear BK160; clear BK165; clear BK170; clear BK175; clear HB; have BK160 := n0_; have BK165 := n1_; have BK170 := n2_; have BK175 := n3_; have HB := n4_; clear n0_ n1_ n2_ n3_ n4_; (try clear hb); (try clear hb2); (try clear hk); (try clear hi)))
            go_ret
            exact ⟨by first | rfl | (simp [errW_none, errW_some] <;> rfl) | (simp [*, errW_none, errW_some] <;> rfl), by repeat (first | (with_reducible first | exact HB.out | apply below_alloc | apply pw_below_drewN | apply below_drew1 | refine below_set ?_ GE160.out | refine below_set ?_ GE165.out | refine below_set ?_ GE170.out | refine below_set ?_ GE175.out) | exact HB.out)⟩
      · rw [if_neg c69] at H
        have c69b0 : (t176 == (-1)) = false := beq_eq_false_iff_ne.mpr c69
        have c69b1 : (t176 != (-1)) = true := bne_iff_ne.mpr c69
        by_cases c109 : x9_4 = true
        · subst c109
          have H1 : (some false) = some r := by rw [if_pos rfl] at H; exact H
          clear H
          have H := H1
          clear H1
          obtain rfl := Option.some.inj H
          go_wp2_with (first | ((with_reducible refine gate_callee (f := 10) rfl ?_); refine goesL_ (some 51) rfl rfl Tryd.func10 (by kernel_rfl) rfl #[.string (⟨#[49, 46, 48, 126, 114, 99, 49]⟩ : ByteArray), .string (⟨#[49, 46, 48]⟩ : ByteArray)] rfl (by (try simp only [List.map_toArray, List.map_cons, List.map_nil]); first | done | rfl | (simp only [List.length_drop, List.length_take]; rfl)) ?_; (with_reducible refine (version_CompareText.calls kj4 (⟨#[49, 46, 48, 126, 114, 99, 49]⟩ : ByteArray) (⟨#[49, 46, 48]⟩ : ByteArray) t176 _ (by first | exact hG | exact GL.below hG (by repeat (first | (with_reducible first | exact HB.out | apply below_alloc | apply pw_below_drewN | apply below_drew1 | refine below_set ?_ GE160.out | refine below_set ?_ GE165.out | refine below_set ?_ GE170.out | refine below_set ?_ GE175.out) | exact HB.out)))  A68.out).mono ?_); rintro e w110 ⟨rfl, hb⟩; refine ⟨_, rfl, ?_⟩; have n0_ := Aside0.mk (blk_below (g := gb160) (o := .cells #[.int .i64 t156, .string t157, .string t158] 27 (0, 0)) (by (with_reducible repeat (first | refine blk_drewN ?_ _ | refine blk_drew ?_ | refine blk_alloc ?_ _)); exact BK160.out) hb); have n1_ := Aside0.mk (blk_below (g := gb165) (o := .cells #[.int .i64 t161, .string t162, .string t163] 27 (0, 0)) (by (with_reducible repeat (first | refine blk_drewN ?_ _ | refine blk_drew ?_ | refine blk_alloc ?_ _)); exact BK165.out) hb); have n2_ := Aside0.mk (blk_below (g := gb170) (o := .cells #[.int .i64 t166, .string t167, .string t168] 27 (0, 0)) (by (with_reducible repeat (first | refine blk_drewN ?_ _ | refine blk_drew ?_ | refine blk_alloc ?_ _)); exact BK170.out) hb); have n3_ := Aside0.mk (blk_below (g := gb175) (o := .cells #[.int .i64 t171, .string t172, .string t173] 27 (0, 0)) (by (with_reducible repeat (first | refine blk_drewN ?_ _ | refine blk_drew ?_ | refine blk_alloc ?_ _)); exact BK175.out) hb); have n4_ := Aside0.mk (below_step (by repeat (first | (with_reducible first | exact HB.out | apply below_alloc | apply pw_below_drewN | apply below_drew1 | refine below_set ?_ GE160.out | refine below_set ?_ GE165.out | refine below_set ?_ GE170.out | refine below_set ?_ GE175.out) | exact HB.out)) hb); clear BK160; clear BK165; clear BK170; clear BK175; clear HB; have BK160 := n0_; have BK165 := n1_; have BK170 := n2_; have BK175 := n3_; have HB := n4_; clear n0_ n1_ n2_ n3_ n4_; (try clear hb); (try clear hb2); (try clear hk); (try clear hi)))
          go_ret
          exact ⟨by first | rfl | (simp [errW_none, errW_some] <;> rfl) | (simp [*, errW_none, errW_some] <;> rfl), by repeat (first | (with_reducible first | exact HB.out | apply below_alloc | apply pw_below_drewN | apply below_drew1 | refine below_set ?_ GE160.out | refine below_set ?_ GE165.out | refine below_set ?_ GE170.out | refine below_set ?_ GE175.out) | exact HB.out)⟩
        · replace c109 := Bool.eq_false_iff.mpr c109
          subst c109
          have H1 : (some false) = some r := by rw [if_neg (show ¬ (false = true) by decide)] at H; exact H
          clear H
          have H := H1
          clear H1
          obtain rfl := Option.some.inj H
          go_wp2_with (first | ((with_reducible refine gate_callee (f := 10) rfl ?_); refine goesL_ (some 51) rfl rfl Tryd.func10 (by kernel_rfl) rfl #[.string (⟨#[49, 46, 48, 126, 114, 99, 49]⟩ : ByteArray), .string (⟨#[49, 46, 48]⟩ : ByteArray)] rfl (by (try simp only [List.map_toArray, List.map_cons, List.map_nil]); first | done | rfl | (simp only [List.length_drop, List.length_take]; rfl)) ?_; (with_reducible refine (version_CompareText.calls kj4 (⟨#[49, 46, 48, 126, 114, 99, 49]⟩ : ByteArray) (⟨#[49, 46, 48]⟩ : ByteArray) t176 _ (by first | exact hG | exact GL.below hG (by repeat (first | (with_reducible first | exact HB.out | apply below_alloc | apply pw_below_drewN | apply below_drew1 | refine below_set ?_ GE160.out | refine below_set ?_ GE165.out | refine below_set ?_ GE170.out | refine below_set ?_ GE175.out) | exact HB.out)))  A68.out).mono ?_); rintro e w111 ⟨rfl, hb⟩; refine ⟨_, rfl, ?_⟩; have n0_ := Aside0.mk (blk_below (g := gb160) (o := .cells #[.int .i64 t156, .string t157, .string t158] 27 (0, 0)) (by (with_reducible repeat (first | refine blk_drewN ?_ _ | refine blk_drew ?_ | refine blk_alloc ?_ _)); exact BK160.out) hb); have n1_ := Aside0.mk (blk_below (g := gb165) (o := .cells #[.int .i64 t161, .string t162, .string t163] 27 (0, 0)) (by (with_reducible repeat (first | refine blk_drewN ?_ _ | refine blk_drew ?_ | refine blk_alloc ?_ _)); exact BK165.out) hb); have n2_ := Aside0.mk (blk_below (g := gb170) (o := .cells #[.int .i64 t166, .string t167, .string t168] 27 (0, 0)) (by (with_reducible repeat (first | refine blk_drewN ?_ _ | refine blk_drew ?_ | refine blk_alloc ?_ _)); exact BK170.out) hb); have n3_ := Aside0.mk (blk_below (g := gb175) (o := .cells #[.int .i64 t171, .string t172, .string t173] 27 (0, 0)) (by (with_reducible repeat (first | refine blk_drewN ?_ _ | refine blk_drew ?_ | refine blk_alloc ?_ _)); exact BK175.out) hb); have n4_ := Aside0.mk (below_step (by repeat (first | (with_reducible first | exact HB.out | apply below_alloc | apply pw_below_drewN | apply below_drew1 | refine below_set ?_ GE160.out | refine below_set ?_ GE165.out | refine below_set ?_ GE170.out | refine below_set ?_ GE175.out) | exact HB.out)) hb); clear BK160; clear BK165; clear BK170; clear BK175; clear HB; have BK160 := n0_; have BK165 := n1_; have BK170 := n2_; have BK175 := n3_; have HB := n4_; clear n0_ n1_ n2_ n3_ n4_; (try clear hb); (try clear hb2); (try clear hk); (try clear hi)))
          go_ret
          exact ⟨by first | rfl | (simp [errW_none, errW_some] <;> rfl) | (simp [*, errW_none, errW_some] <;> rfl), by repeat (first | (with_reducible first | exact HB.out | apply below_alloc | apply pw_below_drewN | apply below_drew1 | refine below_set ?_ GE160.out | refine below_set ?_ GE165.out | refine below_set ?_ GE170.out | refine below_set ?_ GE175.out) | exact HB.out)⟩
def keelsonref2_Decimal.l0 : Nat → Int → ByteArray → Option (ByteArray)
  | 0, _, _ => none
  | k + 1, x0, x3 => if x0 > 0 then (if 0 ≤ (Int.tmod x0 10) then (if (Int.tmod x0 10) ≤ (wrap64 ((Int.tmod x0 10) + 1)) then (if (wrap64 ((Int.tmod x0 10) + 1)) ≤ 10 then (if ((⟨#[48, 49, 50, 51, 52, 53, 54, 55, 56, 57]⟩ : ByteArray).extract ((Int.tmod x0 10) : Int).toNat ((wrap64 ((Int.tmod x0 10) + 1)) : Int).toNat).size + x3.size ≤ 9223372036854775807 then (keelsonref2_Decimal.l0 k (wrap64 (Int.tdiv x0 10)) (((⟨#[48, 49, 50, 51, 52, 53, 54, 55, 56, 57]⟩ : ByteArray).extract ((Int.tmod x0 10) : Int).toNat ((wrap64 ((Int.tmod x0 10) + 1)) : Int).toNat) ++ x3)) else (none)) else (none)) else (none)) else (none)) else (if x3.toList = ([] : List UInt8) then (if 0 ≤ (Int.tmod x0 10) then (if (Int.tmod x0 10) ≤ (wrap64 ((Int.tmod x0 10) + 1)) then (if (wrap64 ((Int.tmod x0 10) + 1)) ≤ 10 then (if ((⟨#[48, 49, 50, 51, 52, 53, 54, 55, 56, 57]⟩ : ByteArray).extract ((Int.tmod x0 10) : Int).toNat ((wrap64 ((Int.tmod x0 10) + 1)) : Int).toNat).size + x3.size ≤ 9223372036854775807 then (keelsonref2_Decimal.l0 k (wrap64 (Int.tdiv x0 10)) (((⟨#[48, 49, 50, 51, 52, 53, 54, 55, 56, 57]⟩ : ByteArray).extract ((Int.tmod x0 10) : Int).toNat ((wrap64 ((Int.tmod x0 10) + 1)) : Int).toNat) ++ x3)) else (none)) else (none)) else (none)) else (none)) else (some x3))
def keelsonref2_Decimal.f (k : Nat) (a0 : Int) : Option (ByteArray) := keelsonref2_Decimal.l0 k a0 (⟨#[]⟩ : ByteArray)
theorem keelsonref2_Decimal.mono_l : ∀ k, (∀ y0 y1, LeO (keelsonref2_Decimal.l0 k y0 y1) (keelsonref2_Decimal.l0 (k + 1) y0 y1))
  | 0 => fun _ _ r h => by simp [keelsonref2_Decimal.l0] at h
  | k + 1 => by
    have ih0 := keelsonref2_Decimal.mono_l k
    · intro y0 y1
      unfold keelsonref2_Decimal.l0
      repeat' first
      | (with_reducible exact ih0 _ _)
      | (with_reducible exact LeO.refl _)
      | (with_reducible exact LeO.none _)
      | (with_reducible refine LeO.ite ?_ ?_)
      | (with_reducible refine LeO.bind ?_ (fun _ => ?_))
      | exact ih0 _ _
      | exact LeO.none _
      | refine LeO.ite ?_ ?_
      | refine LeO.bind ?_ (fun _ => ?_)
theorem keelsonref2_Decimal.mono : ∀ a0 k, LeO (keelsonref2_Decimal.f k a0) (keelsonref2_Decimal.f (k + 1) a0) := by
  intro a0 k
  have ih0 := keelsonref2_Decimal.mono_l k
  unfold keelsonref2_Decimal.f
  repeat' first
      | (with_reducible exact ih0 _ _)
      | (with_reducible exact LeO.refl _)
      | (with_reducible exact LeO.none _)
      | (with_reducible refine LeO.ite ?_ ?_)
      | (with_reducible refine LeO.bind ?_ (fun _ => ?_))
      | exact ih0 _ _
      | exact LeO.none _
      | refine LeO.ite ?_ ?_
      | refine LeO.bind ?_ (fun _ => ?_)
set_option maxHeartbeats 8000000 in
set_option maxRecDepth 100000 in
theorem keelsonref2_Decimal.calls (k : Nat) (a0 : Int) (r : ByteArray) (w : World) (hG : GL w) (h : keelsonref2_Decimal.f k a0 = some r) :
    Calls Tryd.prog 9 #[.int .i64 a0] w fun e w' => e = .returned (.string r) ∧ Drawn0 w w' := by
  have H : (keelsonref2_Decimal.l0 k a0 (⟨#[]⟩ : ByteArray)) = some r := h
  clear h
  have H' := Aside0.mk H
  clear H
  go_enter Tryd.func9, Tryd.ntmps9
  go_wp2
  go_loopg [0, 3] k (fun kq v0 v3 w' => ∃ (x0_1 : Int) (x3_1 : ByteArray), v0 = .int .i64 x0_1 ∧ v3 = .string x3_1 ∧ Aside0 (keelsonref2_Decimal.l0 kq x0_1 x3_1 = some r) ∧ Aside0 (kq ≤ k) ∧ Drawn0 w w')
  case atStart => exact ⟨(a0), ((⟨#[]⟩ : ByteArray)), (by first | rfl | (simp; done) | (simp [*]; done) | (simp [isEmpty_bne]; done)), (by first | rfl | (simp; done) | (simp [*]; done) | (simp [isEmpty_bne]; done)), H', ⟨Nat.le_refl _⟩, by repeat (first | exact Drawn0.refl _ | apply Drawn0.step)⟩
  case round =>
    clear H'
    obtain ⟨x0_1, x3_1, rfl, rfl, HA, HK1, ⟨m1, rfl⟩⟩ := hrel
    cases gk with
    | zero => exact absurd HA.out (by simp [keelsonref2_Decimal.l0])
    | succ k1 =>
      have H := HA.out
      clear HA
      simp only [keelsonref2_Decimal.l0] at H
      by_cases c2 : x0_1 > 0
      · rw [if_pos c2] at H
        have c2b0 : decide (0 < x0_1) = true := decide_eq_true c2
        clear c2
        obtain ⟨ji3, hji3⟩ : ∃ j_ : Int, (Int.tmod x0_1 10) = j_ := ⟨_, rfl⟩
        replace H : (if 0 ≤ (ji3) then (if (ji3) ≤ (wrap64 ((ji3) + 1)) then (if (wrap64 ((ji3) + 1)) ≤ 10 then (if ((⟨#[48, 49, 50, 51, 52, 53, 54, 55, 56, 57]⟩ : ByteArray).extract ((ji3) : Int).toNat ((wrap64 ((ji3) + 1)) : Int).toNat).size + x3_1.size ≤ 9223372036854775807 then (keelsonref2_Decimal.l0 k1 (wrap64 (Int.tdiv x0_1 10)) (((⟨#[48, 49, 50, 51, 52, 53, 54, 55, 56, 57]⟩ : ByteArray).extract ((ji3) : Int).toNat ((wrap64 ((ji3) + 1)) : Int).toNat) ++ x3_1)) else (none)) else (none)) else (none)) else (none)) = some r := by first | (rw [hji3] at H; exact H) | (simp only [hji3] at H ⊢; exact H)
        by_cases c4 : 0 ≤ (ji3)
        · rw [if_pos c4] at H
          have c4b0 := eq_true c4
          have c4b1 : decide (0 ≤ (ji3)) = true := decide_eq_true c4
          clear c4
          by_cases c5 : (ji3) ≤ (wrap64 ((ji3) + 1))
          · rw [if_pos c5] at H
            have c5b0 := eq_true c5
            have c5b1 : decide ((ji3) ≤ (wrap64 ((ji3) + 1))) = true := decide_eq_true c5
            by_cases c6 : (wrap64 ((ji3) + 1)) ≤ 10
            · rw [if_pos c6] at H
              have c6b0 := eq_true c6
              have c6b1 : decide ((wrap64 ((ji3) + 1)) ≤ 10) = true := decide_eq_true c6
              by_cases c7 : ((⟨#[48, 49, 50, 51, 52, 53, 54, 55, 56, 57]⟩ : ByteArray).extract ((ji3) : Int).toNat ((wrap64 ((ji3) + 1)) : Int).toNat).size + x3_1.size ≤ 9223372036854775807
              · rw [if_pos c7] at H
                have c7b0 := eq_true c7
                have c7b1 : decide (((⟨#[48, 49, 50, 51, 52, 53, 54, 55, 56, 57]⟩ : ByteArray).extract ((ji3) : Int).toNat ((wrap64 ((ji3) + 1)) : Int).toNat).size + x3_1.size ≤ 9223372036854775807) = true := decide_eq_true c7
                try have c7b2 : (9223372036854775807 < ((⟨#[48, 49, 50, 51, 52, 53, 54, 55, 56, 57]⟩ : ByteArray).extract ((ji3) : Int).toNat ((wrap64 ((ji3) + 1)) : Int).toNat).size + x3_1.size) = False := eq_false (Nat.not_lt.2 c7)
                have H' := Aside0.mk H
                clear H
                go_wp2
                go_roundg k1
                case measure => have := HK1.out; omega
                case rel => exact ⟨(wrap64 (Int.tdiv x0_1 10)), (((⟨#[48, 49, 50, 51, 52, 53, 54, 55, 56, 57]⟩ : ByteArray).extract ((ji3) : Int).toNat ((wrap64 ((ji3) + 1)) : Int).toNat) ++ x3_1), (by first | rfl | (simp; done) | (simp [*]; done) | (simp [isEmpty_bne]; done)), (by first | rfl | (simp; done) | (simp only [← hji3] <;> (first | rfl | simp)) | (simp [*]; done)), H', ⟨by have := HK1.out; omega⟩, by repeat (first | exact Drawn0.refl _ | apply Drawn0.step)⟩
              · rw [if_neg c7] at H
                exact absurd H (by simp)
            · rw [if_neg c6] at H
              exact absurd H (by simp)
          · rw [if_neg c5] at H
            exact absurd H (by simp)
        · rw [if_neg c4] at H
          exact absurd H (by simp)
      · rw [if_neg c2] at H
        have c2b0 : decide (0 < x0_1) = false := decide_eq_false c2
        clear c2
        by_cases c8 : x3_1.toList = ([] : List UInt8)
        · rw [if_pos c8] at H
          have c8b0 : (x3_1.toList == ([] : List UInt8)) = true := beq_iff_eq.mpr c8
          have c8b1 : (x3_1.toList != ([] : List UInt8)) = false := bne_eq_false_iff_eq.mpr c8
          clear c8
          obtain ⟨ji9, hji9⟩ : ∃ j_ : Int, (Int.tmod x0_1 10) = j_ := ⟨_, rfl⟩
          replace H : (if 0 ≤ (ji9) then (if (ji9) ≤ (wrap64 ((ji9) + 1)) then (if (wrap64 ((ji9) + 1)) ≤ 10 then (if ((⟨#[48, 49, 50, 51, 52, 53, 54, 55, 56, 57]⟩ : ByteArray).extract ((ji9) : Int).toNat ((wrap64 ((ji9) + 1)) : Int).toNat).size + x3_1.size ≤ 9223372036854775807 then (keelsonref2_Decimal.l0 k1 (wrap64 (Int.tdiv x0_1 10)) (((⟨#[48, 49, 50, 51, 52, 53, 54, 55, 56, 57]⟩ : ByteArray).extract ((ji9) : Int).toNat ((wrap64 ((ji9) + 1)) : Int).toNat) ++ x3_1)) else (none)) else (none)) else (none)) else (none)) = some r := by first | (rw [hji9] at H; exact H) | (simp only [hji9] at H ⊢; exact H)
          by_cases c10 : 0 ≤ (ji9)
          · rw [if_pos c10] at H
            have c10b0 := eq_true c10
            have c10b1 : decide (0 ≤ (ji9)) = true := decide_eq_true c10
            clear c10
            by_cases c11 : (ji9) ≤ (wrap64 ((ji9) + 1))
            · rw [if_pos c11] at H
              have c11b0 := eq_true c11
              have c11b1 : decide ((ji9) ≤ (wrap64 ((ji9) + 1))) = true := decide_eq_true c11
              by_cases c12 : (wrap64 ((ji9) + 1)) ≤ 10
              · rw [if_pos c12] at H
                have c12b0 := eq_true c12
                have c12b1 : decide ((wrap64 ((ji9) + 1)) ≤ 10) = true := decide_eq_true c12
                by_cases c13 : ((⟨#[48, 49, 50, 51, 52, 53, 54, 55, 56, 57]⟩ : ByteArray).extract ((ji9) : Int).toNat ((wrap64 ((ji9) + 1)) : Int).toNat).size + x3_1.size ≤ 9223372036854775807
                · rw [if_pos c13] at H
                  have c13b0 := eq_true c13
                  have c13b1 : decide (((⟨#[48, 49, 50, 51, 52, 53, 54, 55, 56, 57]⟩ : ByteArray).extract ((ji9) : Int).toNat ((wrap64 ((ji9) + 1)) : Int).toNat).size + x3_1.size ≤ 9223372036854775807) = true := decide_eq_true c13
                  try have c13b2 : (9223372036854775807 < ((⟨#[48, 49, 50, 51, 52, 53, 54, 55, 56, 57]⟩ : ByteArray).extract ((ji9) : Int).toNat ((wrap64 ((ji9) + 1)) : Int).toNat).size + x3_1.size) = False := eq_false (Nat.not_lt.2 c13)
                  have H' := Aside0.mk H
                  clear H
                  go_wp2
                  go_roundg k1
                  case measure => have := HK1.out; omega
                  case rel => exact ⟨(wrap64 (Int.tdiv x0_1 10)), (((⟨#[48, 49, 50, 51, 52, 53, 54, 55, 56, 57]⟩ : ByteArray).extract ((ji9) : Int).toNat ((wrap64 ((ji9) + 1)) : Int).toNat) ++ x3_1), (by first | rfl | (simp; done) | (simp [*]; done) | (simp [isEmpty_bne]; done)), (by first | rfl | (simp; done) | (simp only [← hji9] <;> (first | rfl | simp)) | (simp [*]; done)), H', ⟨by have := HK1.out; omega⟩, by repeat (first | exact Drawn0.refl _ | apply Drawn0.step)⟩
                · rw [if_neg c13] at H
                  exact absurd H (by simp)
              · rw [if_neg c12] at H
                exact absurd H (by simp)
            · rw [if_neg c11] at H
              exact absurd H (by simp)
          · rw [if_neg c10] at H
            exact absurd H (by simp)
        · rw [if_neg c8] at H
          have c8b0 : (x3_1.toList == ([] : List UInt8)) = false := beq_eq_false_iff_ne.mpr c8
          have c8b1 : (x3_1.toList != ([] : List UInt8)) = true := bne_iff_ne.mpr c8
          obtain rfl := Option.some.inj H
          go_wp2
          go_ret
          exact ⟨by first | rfl | (simp; done) | (simp [*]; done) | (simp [isEmpty_bne]; done), by repeat (first | exact Drawn0.refl _ | apply Drawn0.step)⟩
end Go.Proofs.YtpjhaaifgiicoaaDoor.PA
