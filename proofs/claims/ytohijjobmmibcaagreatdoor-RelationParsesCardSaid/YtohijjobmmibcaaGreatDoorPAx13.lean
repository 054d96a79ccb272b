
import Derived.Test.YtohijjobmmibcaaGreatDoorPAx0
import Derived.Test.YtohijjobmmibcaaGreatDoorPAx2
import Derived.Test.YtohijjobmmibcaaGreatDoorPAx4
import Derived.Test.YtohijjobmmibcaaGreatDoorPAx8
import Derived.Test.YtohijjobmmibcaaGreatDoorPAx9
import Derived.Test.YtohijjobmmibcaaGreatDoorPAx12
namespace Go.Proofs.YtohijjobmmibcaaGreatDoor.PA
open Go.RowKit Go.Proofs.YtohijjobmmibcaaGreatDoorW.PrintWords Go.Proofs.YtohijjobmmibcaaGreatDoorW.PrintLast Go.Proofs.YtohijjobmmibcaaGreatDoorW.PrintMore
attribute [local go_sem] max2_int min2_int max_two min_two max_three min_three max_four min_four
set_option linter.unusedVariables false
set_option linter.unusedSimpArgs false
mutual
def keelsonref3_Parse.j0 : Nat → ByteArray → ByteArray → Bool → Option (ByteArray × Int × ByteArray × Int)
  | 0, _, _, _ => none
  | k + 1, x4, x5, x44 => if x44 = true then (some ((⟨#[]⟩ : ByteArray), 0, (⟨#[]⟩ : ByteArray), 5)) else (if 1 ≤ (wrap64 ((x5.size : Int) - 1)) then (if (wrap64 ((x5.size : Int) - 1)) ≤ (x5.size : Int) then ((keelsonref3_cut.f k (x5.extract 1 ((wrap64 ((x5.size : Int) - 1)) : Int).toNat)).bind fun bt277 => ((keelsonref3_Op.f k bt277.1).bind fun bt280 => (if bt277.2.2 = true then (keelsonref3_Parse.j1 k x4 bt277.2.1 bt280.1 (!bt280.2)) else (keelsonref3_Parse.j1 k x4 bt277.2.1 bt280.1 true)))) else (none)) else (none))
def keelsonref3_Parse.j1 : Nat → ByteArray → ByteArray → Int → Bool → Option (ByteArray × Int × ByteArray × Int)
  | 0, _, _, _, _ => none
  | k + 1, x4, x9, x11, x66 => if x66 = true then (some ((⟨#[]⟩ : ByteArray), 0, (⟨#[]⟩ : ByteArray), 5)) else ((keelsonref3_plain.f k x9).bind fun t282 => (if t282 = true then (some (x4, x11, x9, 0)) else (some ((⟨#[]⟩ : ByteArray), 0, (⟨#[]⟩ : ByteArray), 4))))
end
def keelsonref3_Parse.f (k : Nat) (a0 : ByteArray) : Option (ByteArray × Int × ByteArray × Int) := (keelsonref3_cut.f k a0).bind fun bt273 => ((keelsonref3_Name.f k bt273.1).bind fun t276 => (if t276 = true then (if bt273.2.2 = true then (if (bt273.2.1.size : Int) < 2 then (keelsonref3_Parse.j0 k bt273.1 bt273.2.1 true) else (if 0 < (bt273.2.1.size : Int) then (if (bt bt273.2.1 0) = 40 then (if 0 ≤ (wrap64 ((bt273.2.1.size : Int) - 1)) then (if (wrap64 ((bt273.2.1.size : Int) - 1)) < (bt273.2.1.size : Int) then (keelsonref3_Parse.j0 k bt273.1 bt273.2.1 ((bt bt273.2.1 (wrap64 ((bt273.2.1.size : Int) - 1))) != 41)) else (none)) else (none)) else (keelsonref3_Parse.j0 k bt273.1 bt273.2.1 true)) else (none))) else (some (bt273.1, 0, (⟨#[]⟩ : ByteArray), 0))) else (some ((⟨#[]⟩ : ByteArray), 0, (⟨#[]⟩ : ByteArray), 3))))
theorem keelsonref3_Parse.mono_l : ∀ k, (∀ y0 y1 y2, LeO (keelsonref3_Parse.j0 k y0 y1 y2) (keelsonref3_Parse.j0 (k + 1) y0 y1 y2)) ∧ (∀ y0 y1 y2 y3, LeO (keelsonref3_Parse.j1 k y0 y1 y2 y3) (keelsonref3_Parse.j1 (k + 1) y0 y1 y2 y3))
  | 0 => ⟨fun _ _ _ r h => by simp [keelsonref3_Parse.j0] at h, fun _ _ _ _ r h => by simp [keelsonref3_Parse.j1] at h⟩
  | k + 1 => by
    obtain ⟨ih0, ih1⟩ := keelsonref3_Parse.mono_l k
    refine ⟨?_, ?_⟩
    · intro y0 y1 y2
      unfold keelsonref3_Parse.j0
      repeat' first
      | (with_reducible exact ih0 _ _ _)
      | (with_reducible exact ih1 _ _ _ _)
      | (with_reducible exact keelsonref3_Name.mono _ _)
      | (with_reducible exact keelsonref3_Op.mono _ _)
      | (with_reducible exact keelsonref3_cut.mono _ _)
      | (with_reducible exact keelsonref3_plain.mono _ _)
      | (with_reducible exact LeO.refl _)
      | (with_reducible exact LeO.none _)
      | (with_reducible refine LeO.ite ?_ ?_)
      | (with_reducible refine LeO.bind ?_ (fun _ => ?_))
      | exact ih0 _ _ _
      | exact ih1 _ _ _ _
      | exact keelsonref3_Name.mono _ _
      | exact keelsonref3_Op.mono _ _
      | exact keelsonref3_cut.mono _ _
      | exact keelsonref3_plain.mono _ _
      | exact LeO.none _
      | refine LeO.ite ?_ ?_
      | refine LeO.bind ?_ (fun _ => ?_)
    · intro y0 y1 y2 y3
      unfold keelsonref3_Parse.j1
      repeat' first
      | (with_reducible exact ih0 _ _ _)
      | (with_reducible exact ih1 _ _ _ _)
      | (with_reducible exact keelsonref3_Name.mono _ _)
      | (with_reducible exact keelsonref3_Op.mono _ _)
      | (with_reducible exact keelsonref3_cut.mono _ _)
      | (with_reducible exact keelsonref3_plain.mono _ _)
      | (with_reducible exact LeO.refl _)
      | (with_reducible exact LeO.none _)
      | (with_reducible refine LeO.ite ?_ ?_)
      | (with_reducible refine LeO.bind ?_ (fun _ => ?_))
      | exact ih0 _ _ _
      | exact ih1 _ _ _ _
      | exact keelsonref3_Name.mono _ _
      | exact keelsonref3_Op.mono _ _
      | exact keelsonref3_cut.mono _ _
      | exact keelsonref3_plain.mono _ _
      | exact LeO.none _
      | refine LeO.ite ?_ ?_
      | refine LeO.bind ?_ (fun _ => ?_)
theorem keelsonref3_Parse.mono : ∀ a0 k, LeO (keelsonref3_Parse.f k a0) (keelsonref3_Parse.f (k + 1) a0) := by
  intro a0 k
  obtain ⟨ih0, ih1⟩ := keelsonref3_Parse.mono_l k
  unfold keelsonref3_Parse.f
  repeat' first
      | (with_reducible exact ih0 _ _ _)
      | (with_reducible exact ih1 _ _ _ _)
      | (with_reducible exact keelsonref3_Name.mono _ _)
      | (with_reducible exact keelsonref3_Op.mono _ _)
      | (with_reducible exact keelsonref3_cut.mono _ _)
      | (with_reducible exact keelsonref3_plain.mono _ _)
      | (with_reducible exact LeO.refl _)
      | (with_reducible exact LeO.none _)
      | (with_reducible refine LeO.ite ?_ ?_)
      | (with_reducible refine LeO.bind ?_ (fun _ => ?_))
      | exact ih0 _ _ _
      | exact ih1 _ _ _ _
      | exact keelsonref3_Name.mono _ _
      | exact keelsonref3_Op.mono _ _
      | exact keelsonref3_cut.mono _ _
      | exact keelsonref3_plain.mono _ _
      | exact LeO.none _
      | refine LeO.ite ?_ ?_
      | refine LeO.bind ?_ (fun _ => ?_)
set_option maxHeartbeats 8000000 in
set_option maxRecDepth 100000 in
theorem keelsonref3_Parse.calls (k : Nat) (a0 : ByteArray) (r1 : ByteArray) (r2 : Int) (r3 : ByteArray) (r4 : Int) (w : World) (hG : GL w) (h : keelsonref3_Parse.f k a0 = some (r1, r2, r3, r4)) :
    Calls Tryz.prog 7 #[.string a0] w fun e w' => e = .returned (.tuple #[.agg #[.string r1, .int .i64 r2, .string r3], .int .i64 r4]) ∧ Below w.heap.size w w' := by
  have hu23 := Tryz.underlying23
  have HB := Aside0.mk (Below.refl w.heap.size w)
  have H : ((keelsonref3_cut.f k a0).bind fun bt273 => ((keelsonref3_Name.f k bt273.1).bind fun t276 => (if t276 = true then (if bt273.2.2 = true then (if (bt273.2.1.size : Int) < 2 then (keelsonref3_Parse.j0 k bt273.1 bt273.2.1 true) else (if 0 < (bt273.2.1.size : Int) then (if (bt bt273.2.1 0) = 40 then (if 0 ≤ (wrap64 ((bt273.2.1.size : Int) - 1)) then (if (wrap64 ((bt273.2.1.size : Int) - 1)) < (bt273.2.1.size : Int) then (keelsonref3_Parse.j0 k bt273.1 bt273.2.1 ((bt bt273.2.1 (wrap64 ((bt273.2.1.size : Int) - 1))) != 41)) else (none)) else (none)) else (keelsonref3_Parse.j0 k bt273.1 bt273.2.1 true)) else (none))) else (some (bt273.1, 0, (⟨#[]⟩ : ByteArray), 0))) else (some ((⟨#[]⟩ : ByteArray), 0, (⟨#[]⟩ : ByteArray), 3))))) = some (r1, r2, r3, r4) := h
  clear h
  replace H := Option.bind_eq_some_iff.mp H
  obtain ⟨⟨t273, t274, t275⟩, A20, H⟩ := H
  replace H : ((keelsonref3_Name.f k t273).bind fun t276 => (if t276 = true then (if t275 = true then (if (t274.size : Int) < 2 then (keelsonref3_Parse.j0 k t273 t274 true) else (if 0 < (t274.size : Int) then (if (bt t274 0) = 40 then (if 0 ≤ (wrap64 ((t274.size : Int) - 1)) then (if (wrap64 ((t274.size : Int) - 1)) < (t274.size : Int) then (keelsonref3_Parse.j0 k t273 t274 ((bt t274 (wrap64 ((t274.size : Int) - 1))) != 41)) else (none)) else (none)) else (keelsonref3_Parse.j0 k t273 t274 true)) else (none))) else (some (t273, 0, (⟨#[]⟩ : ByteArray), 0))) else (some ((⟨#[]⟩ : ByteArray), 0, (⟨#[]⟩ : ByteArray), 3)))) = some (r1, r2, r3, r4) := H
  have A2 := Aside0.mk A20
  clear A20
  replace H := Option.bind_eq_some_iff.mp H
  obtain ⟨t276, A30, H⟩ := H
  replace H : (if t276 = true then (if t275 = true then (if (t274.size : Int) < 2 then (keelsonref3_Parse.j0 k t273 t274 true) else (if 0 < (t274.size : Int) then (if (bt t274 0) = 40 then (if 0 ≤ (wrap64 ((t274.size : Int) - 1)) then (if (wrap64 ((t274.size : Int) - 1)) < (t274.size : Int) then (keelsonref3_Parse.j0 k t273 t274 ((bt t274 (wrap64 ((t274.size : Int) - 1))) != 41)) else (none)) else (none)) else (keelsonref3_Parse.j0 k t273 t274 true)) else (none))) else (some (t273, 0, (⟨#[]⟩ : ByteArray), 0))) else (some ((⟨#[]⟩ : ByteArray), 0, (⟨#[]⟩ : ByteArray), 3))) = some (r1, r2, r3, r4) := H
  have A3 := Aside0.mk A30
  clear A30
  by_cases c4 : t276 = true
  · subst c4
    have H1 : (if t275 = true then (if (t274.size : Int) < 2 then (keelsonref3_Parse.j0 k t273 t274 true) else (if 0 < (t274.size : Int) then (if (bt t274 0) = 40 then (if 0 ≤ (wrap64 ((t274.size : Int) - 1)) then (if (wrap64 ((t274.size : Int) - 1)) < (t274.size : Int) then (keelsonref3_Parse.j0 k t273 t274 ((bt t274 (wrap64 ((t274.size : Int) - 1))) != 41)) else (none)) else (none)) else (keelsonref3_Parse.j0 k t273 t274 true)) else (none))) else (some (t273, 0, (⟨#[]⟩ : ByteArray), 0))) = some (r1, r2, r3, r4) := by rw [if_pos rfl] at H; exact H
    clear H
    have H := H1
    clear H1
    by_cases c5 : t275 = true
    · subst c5
      have H1 : (if (t274.size : Int) < 2 then (keelsonref3_Parse.j0 k t273 t274 true) else (if 0 < (t274.size : Int) then (if (bt t274 0) = 40 then (if 0 ≤ (wrap64 ((t274.size : Int) - 1)) then (if (wrap64 ((t274.size : Int) - 1)) < (t274.size : Int) then (keelsonref3_Parse.j0 k t273 t274 ((bt t274 (wrap64 ((t274.size : Int) - 1))) != 41)) else (none)) else (none)) else (keelsonref3_Parse.j0 k t273 t274 true)) else (none))) = some (r1, r2, r3, r4) := by rw [if_pos rfl] at H; exact H
      clear H
      have H := H1
      clear H1
      have HC6 := Aside0.mk H
      clear H
      go_enter Tryz.func7, Tryz.ntmps7
      go_upto_region 7 with (first | ((with_reducible refine qar (N := 2) rfl ?_); (try (refine gate_guard (by rfl) ?_; dsimp only)); refine qaq ?hg (N := 2) ?hd (cs := #[.string (⟨#[]⟩ : ByteArray), .int .i64 0, .string (⟨#[]⟩ : ByteArray)]) (t := 23) ?hr ?_; (case hd => rfl); (case hg => rfl); (case hr => first | (go_simp; done) | (go_simp; rfl)); intro gb272 hg w7 hbox hb; have n0_ := Aside0.mk (qak (by repeat (first | (with_reducible first | exact HB.out | apply qaf | apply qaa | apply qae) | exact HB.out)) hb); have n1_ := Aside0.mk (hbox); have n2_ := Aside0.mk ((by rw [hg]; exact (qap (by repeat (first | (with_reducible first | exact HB.out | apply qaf | apply qaa | apply qae) | exact HB.out))) : w.heap.size ≤ gb272)); have n3_ := Aside0.mk ((by rw [hg]; exact (qap (by repeat (first | (with_reducible first | exact HB.out | apply qaf | apply qaa | apply qae) | exact HB.out))) : w.heap.size ≤ gb272)); clear HB; have HB := n0_; have BK272 := n1_; have GW272 := n2_; have GE272 := n3_; clear n0_ n1_ n2_ n3_; clear hb hbox hg) | ((with_reducible refine qam (f := 20) rfl ?_); refine goesL_ (some 16) rfl rfl Tryz.func20 (by kernel_rfl) rfl #[.string a0] rfl (by (try simp only [List.map_toArray, List.map_cons, List.map_nil]); first | done | rfl | (simp only [List.length_drop, List.length_take]; rfl)) ?_; (with_reducible refine (keelsonref3_cut.calls k a0 t273 t274 true _ (by first | exact hG | exact GL.below hG (by repeat (first | (with_reducible first | exact HB.out | apply qaf | apply qaa | apply qae | refine qad ?_ GE272.out) | exact HB.out)))  A2.out).mono ?_); rintro e w' ⟨rfl, ⟨nd, rfl⟩⟩; refine ⟨_, rfl, ?_⟩) | ((with_reducible refine qam (f := 21) rfl ?_); refine goesL_ (some 21) rfl rfl Tryz.func21 (by kernel_rfl) rfl #[.string t273] rfl (by (try simp only [List.map_toArray, List.map_cons, List.map_nil]); first | done | rfl | (simp only [List.length_drop, List.length_take]; rfl)) ?_; (with_reducible refine (keelsonref3_Name.calls k t273 true _ (by first | exact hG | exact GL.below hG (by repeat (first | (with_reducible first | exact HB.out | apply qaf | apply qaa | apply qae | refine qad ?_ GE272.out) | exact HB.out)))  A3.out).mono ?_); rintro e w' ⟨rfl, ⟨nd, rfl⟩⟩; refine ⟨_, rfl, ?_⟩))
      (try simp only [Act.put, List.setIfInBounds_toArray, List.set_cons_zero, List.set_cons_succ])
      go_cut [44] (fun v44 wc => ∃ (kq : Nat) (x44_5 : Bool), v44 = .bool x44_5 ∧ Aside0 (keelsonref3_Parse.j0 kq t273 t274 x44_5 = some (r1, r2, r3, r4)) ∧ Aside0 (kq ≤ k) ∧ Aside0 (wc.heap[gb272]? = some (.cells #[.string (⟨#[]⟩ : ByteArray), .int .i64 0, .string (⟨#[]⟩ : ByteArray)] 23 (0, 0))) ∧ Aside0 (Below w.heap.size w wc))
      case first =>
        have H := HC6.out
        clear HC6
        by_cases c8 : (t274.size : Int) < 2
        · rw [if_pos c8] at H
          have c8b0 : decide ((t274.size : Int) < 2) = true := decide_eq_true c8
          have c8b1 : decide (t274.size < 2) = true := decide_eq_true (by omega)
          clear c8
          (first | rw [c8b0] | (simp only [i64_w, i32_w]; rw [c8b0]) | skip)
          have H' := Aside0.mk H
          clear H
          go_wp2
          go_meet
          case rel => exact ⟨_, (true), (by first | rfl | (simp; done) | (simp [*]; done) | (simp [qal]; done)), H', ⟨by first | omega | exact Nat.le_refl _⟩, ⟨by (with_reducible repeat (first | refine qac ?_ _ | refine qag ?_ | refine qab ?_ _)); exact BK272.out⟩, ⟨by repeat (first | (with_reducible first | exact HB.out | apply qaf | apply qaa | apply qae | refine qad ?_ GE272.out) | exact HB.out)⟩⟩
        · rw [if_neg c8] at H
          have c8b0 : decide ((t274.size : Int) < 2) = false := decide_eq_false c8
          have c8b1 : decide (t274.size < 2) = false := decide_eq_false (by omega)
          clear c8
          (first | rw [c8b0] | (simp only [i64_w, i32_w]; rw [c8b0]) | skip)
          by_cases c9 : 0 < (t274.size : Int)
          · rw [if_pos c9] at H
            have c9b0 : decide (0 < (t274.size : Int)) = true := decide_eq_true c9
            have c9b1 : decide (0 < t274.size) = true := decide_eq_true (by omega)
            clear c9
            by_cases c11 : (bt t274 0) = 40
            · rw [if_pos c11] at H
              have c11b0 : ((bt t274 0) == 40) = true := beq_iff_eq.mpr c11
              have c11b1 : ((bt t274 0) != 40) = false := bne_eq_false_iff_eq.mpr c11
              clear c11
              obtain ⟨ji12, hji12⟩ : ∃ j_ : Int, (wrap64 ((t274.size : Int) - 1)) = j_ := ⟨_, rfl⟩
              replace H : (if 0 ≤ (ji12) then (if (ji12) < (t274.size : Int) then (keelsonref3_Parse.j0 k t273 t274 ((bt t274 (ji12)) != 41)) else (none)) else (none)) = some (r1, r2, r3, r4) := by first | (rw [hji12] at H; exact H) | (simp only [hji12] at H ⊢; exact H)
              have hji12w : (IntKind.i64.wrap ((t274.size : Int) - 1)) = ji12 := (i64_w _).trans hji12
              by_cases c13 : 0 ≤ (ji12)
              · rw [if_pos c13] at H
                have c13b0 : decide (0 ≤ (ji12)) = true := decide_eq_true c13
                clear c13
                by_cases c14 : (ji12) < (t274.size : Int)
                · rw [if_pos c14] at H
                  have c14b0 : decide ((ji12) < (t274.size : Int)) = true := decide_eq_true c14
                  clear c14
                  have H' := Aside0.mk H
                  clear H
                  have p10 : 0 ≤ (0 : Int) := (by omega)
                  have q10 : 0 < t274.size := (by have : (0 : Int) < (t274.size : Int) := of_decide_eq_true (by first | (with_reducible assumption) | assumption); omega)
                  have hx10 : ∀ h : 0 < t274.size, ((t274[0]'h).toNat : Int) = bt t274 0 := bt_at t274 0
                  clear p10
                  have qi10 : (0 < (t274.size : Int)) = True := eq_true (of_decide_eq_true (by first | (with_reducible assumption) | assumption))
                  replace q10 := eq_true q10
                  have p15 : 0 ≤ ((ji12) : Int) := of_decide_eq_true (by first | (with_reducible assumption) | assumption)
                  have q15 : (ji12) < (t274.size : Int) := of_decide_eq_true (by first | (with_reducible assumption) | assumption)
                  have hx15 := bt_at t274 (ji12)
                  replace p15 := eq_true p15
                  replace q15 := eq_true q15
                  go_wp2
                  go_meet
                  case rel => exact ⟨_, (((bt t274 (ji12)) != 41)), (by first | rfl | (simp; done) | (simp only [← hji12] <;> (first | rfl | simp)) | (simp [*]; done)), H', ⟨by first | omega | exact Nat.le_refl _⟩, ⟨by (with_reducible repeat (first | refine qac ?_ _ | refine qag ?_ | refine qab ?_ _)); exact BK272.out⟩, ⟨by repeat (first | (with_reducible first | exact HB.out | apply qaf | apply qaa | apply qae | refine qad ?_ GE272.out) | exact HB.out)⟩⟩
                · rw [if_neg c14] at H
                  exact absurd H (by simp)
              · rw [if_neg c13] at H
                exact absurd H (by simp)
            · rw [if_neg c11] at H
              have c11b0 : ((bt t274 0) == 40) = false := beq_eq_false_iff_ne.mpr c11
              have c11b1 : ((bt t274 0) != 40) = true := bne_iff_ne.mpr c11
              have H' := Aside0.mk H
              clear H
              have p10 : 0 ≤ (0 : Int) := (by omega)
              have q10 : 0 < t274.size := (by have : (0 : Int) < (t274.size : Int) := of_decide_eq_true (by first | (with_reducible assumption) | assumption); omega)
              have hx10 : ∀ h : 0 < t274.size, ((t274[0]'h).toNat : Int) = bt t274 0 := bt_at t274 0
              clear p10
              have qi10 : (0 < (t274.size : Int)) = True := eq_true (of_decide_eq_true (by first | (with_reducible assumption) | assumption))
              replace q10 := eq_true q10
              go_wp2
              go_meet
              case rel => exact ⟨_, (true), (by first | rfl | (simp; done) | (simp [*]; done) | (simp [qal]; done)), H', ⟨by first | omega | exact Nat.le_refl _⟩, ⟨by (with_reducible repeat (first | refine qac ?_ _ | refine qag ?_ | refine qab ?_ _)); exact BK272.out⟩, ⟨by repeat (first | (with_reducible first | exact HB.out | apply qaf | apply qaa | apply qae | refine qad ?_ GE272.out) | exact HB.out)⟩⟩
          · rw [if_neg c9] at H
            exact absurd H (by simp)
      case rest =>
        clear HC6
        try clear c1
        try clear p1
        try clear q1
        try clear hx1
        try clear qi1
        try clear c2
        try clear p2
        try clear c4
        try clear c5
        try clear p6
        try clear c7
        try clear c8
        try clear c8b0
        try clear c8b1
        try clear c9
        try clear c9b0
        try clear c9b1
        try clear p10
        try clear q10
        try clear hx10
        try clear qi10
        try clear c11
        try clear c11b0
        try clear c11b1
        try clear c13
        try clear c13b0
        try clear c14
        try clear c14b0
        try clear p15
        try clear q15
        try clear hx15
        try clear p10
        try clear p15
        try clear q10
        try clear q15
        obtain ⟨kq, x44_5, rfl, HA, HJ5, BK272, HB⟩ := hcut
        cases kq with
        | zero => exact absurd HA.out (by simp [keelsonref3_Parse.j0])
        | succ kj5 =>
          have H := HA.out
          clear HA
          simp only [keelsonref3_Parse.j0] at H
          by_cases c16 : x44_5 = true
          · subst c16
            have H1 : (some ((⟨#[]⟩ : ByteArray), 0, (⟨#[]⟩ : ByteArray), 5)) = some (r1, r2, r3, r4) := by rw [if_pos rfl] at H; exact H
            clear H
            have H := H1
            clear H1
            simp only [Option.some.injEq, Prod.mk.injEq] at H
            obtain ⟨rfl, rfl, rfl, rfl⟩ := H
            have hcz17_0 : wc.cell? ⟨gb272, 0, none⟩ = some (.string (⟨#[]⟩ : ByteArray)) := (qai BK272.out 0).trans rfl
            have hcz17_1 : wc.cell? ⟨gb272, 1, none⟩ = some (.int .i64 0) := (qai BK272.out 1).trans rfl
            have hcz17_2 : wc.cell? ⟨gb272, 2, none⟩ = some (.string (⟨#[]⟩ : ByteArray)) := (qai BK272.out 2).trans rfl
            have hfz17_0 := qah BK272.out 0
            have hfz17_1 := qah BK272.out 1
            have hfz17_2 := qah BK272.out 2
            go_wp2
            refine bodyPost_ret (results_ct rfl _ _ gb272 23 #[.string (⟨#[]⟩ : ByteArray), .int .i64 0, .string (⟨#[]⟩ : ByteArray)] (0, 0) _ rfl (by (with_reducible repeat (first | refine qac ?_ _ | refine qag ?_ | refine qab ?_ _)); refine blk_put (cs := #[.string (⟨#[]⟩ : ByteArray), .int .i64 0, .string (⟨#[]⟩ : ByteArray)]) ?_ 2 _ rfl; (with_reducible repeat (first | refine qac ?_ _ | refine qag ?_ | refine qab ?_ _)); refine blk_put (cs := #[.string (⟨#[]⟩ : ByteArray), .int .i64 0, .string (⟨#[]⟩ : ByteArray)]) ?_ 1 _ rfl; (with_reducible repeat (first | refine qac ?_ _ | refine qag ?_ | refine qab ?_ _)); refine blk_put (cs := #[.string (⟨#[]⟩ : ByteArray), .int .i64 0, .string (⟨#[]⟩ : ByteArray)]) ?_ 0 _ rfl; (with_reducible repeat (first | refine qac ?_ _ | refine qag ?_ | refine qab ?_ _)); exact BK272.out) Tryz.underlying23 rfl (by kernel_rfl)) rfl ?_
            exact ⟨by first | rfl | (simp [qan, qao] <;> rfl) | (simp [*, qan, qao] <;> rfl), by repeat (first | (with_reducible first | exact HB.out | apply qaf | apply qaa | apply qae | refine qad ?_ GE272.out) | exact HB.out)⟩
          · replace c16 := Bool.eq_false_iff.mpr c16
            subst c16
            have H1 : (if 1 ≤ (wrap64 ((t274.size : Int) - 1)) then (if (wrap64 ((t274.size : Int) - 1)) ≤ (t274.size : Int) then ((keelsonref3_cut.f kj5 (t274.extract 1 ((wrap64 ((t274.size : Int) - 1)) : Int).toNat)).bind fun bt277 => ((keelsonref3_Op.f kj5 bt277.1).bind fun bt280 => (if bt277.2.2 = true then (keelsonref3_Parse.j1 kj5 t273 bt277.2.1 bt280.1 (!bt280.2)) else (keelsonref3_Parse.j1 kj5 t273 bt277.2.1 bt280.1 true)))) else (none)) else (none)) = some (r1, r2, r3, r4) := by rw [if_neg (show ¬ (false = true) by decide)] at H; exact H
            clear H
            have H := H1
            clear H1
            by_cases c18 : 1 ≤ (wrap64 ((t274.size : Int) - 1))
            · rw [if_pos c18] at H
              have c18b0 := eq_true c18
              have c18b1 : decide (1 ≤ (wrap64 ((t274.size : Int) - 1))) = true := decide_eq_true c18
              clear c18
              by_cases c19 : (wrap64 ((t274.size : Int) - 1)) ≤ (t274.size : Int)
              · rw [if_pos c19] at H
                have c19b0 := eq_true c19
                have c19b1 : decide ((wrap64 ((t274.size : Int) - 1)) ≤ (t274.size : Int)) = true := decide_eq_true c19
                clear c19
                replace H := Option.bind_eq_some_iff.mp H
                obtain ⟨⟨t277, t278, t279⟩, A200, H⟩ := H
                replace H : ((keelsonref3_Op.f kj5 t277).bind fun bt280 => (if t279 = true then (keelsonref3_Parse.j1 kj5 t273 t278 bt280.1 (!bt280.2)) else (keelsonref3_Parse.j1 kj5 t273 t278 bt280.1 true))) = some (r1, r2, r3, r4) := H
                have A20 := Aside0.mk A200
                clear A200
                replace H := Option.bind_eq_some_iff.mp H
                obtain ⟨⟨t280, t281⟩, A210, H⟩ := H
                replace H : (if t279 = true then (keelsonref3_Parse.j1 kj5 t273 t278 t280 (!t281)) else (keelsonref3_Parse.j1 kj5 t273 t278 t280 true)) = some (r1, r2, r3, r4) := H
                have A21 := Aside0.mk A210
                clear A210
                have HC22 := Aside0.mk H
                clear H
                go_upto_region 11 with (first | ((with_reducible refine qam (f := 20) rfl ?_); refine goesL_ (some 52) rfl rfl Tryz.func20 (by kernel_rfl) rfl #[.string (t274.extract 1 ((wrap64 ((t274.size : Int) - 1)) : Int).toNat)] rfl (by (try simp only [List.map_toArray, List.map_cons, List.map_nil]); first | done | rfl | (simp only [List.length_drop, List.length_take]; rfl)) ?_; (with_reducible refine (keelsonref3_cut.calls kj5 (t274.extract 1 ((wrap64 ((t274.size : Int) - 1)) : Int).toNat) t277 t278 t279 _ (by first | exact hG | exact GL.below hG (by repeat (first | (with_reducible first | exact HB.out | apply qaf | apply qaa | apply qae | refine qad ?_ GE272.out) | exact HB.out)))  A20.out).mono ?_); rintro e w' ⟨rfl, ⟨nd, rfl⟩⟩; refine ⟨_, rfl, ?_⟩) | ((with_reducible refine qam (f := 22) rfl ?_); refine goesL_ (some 58) rfl rfl Tryz.func22 (by kernel_rfl) rfl #[.string t277] rfl (by (try simp only [List.map_toArray, List.map_cons, List.map_nil]); first | done | rfl | (simp only [List.length_drop, List.length_take]; rfl)) ?_; (with_reducible refine (keelsonref3_Op.calls kj5 t277 t280 t281 _ (by first | exact hG | exact GL.below hG (by repeat (first | (with_reducible first | exact HB.out | apply qaf | apply qaa | apply qae | refine qad ?_ GE272.out) | exact HB.out)))  A21.out).mono ?_); rintro e w' ⟨rfl, ⟨nd, rfl⟩⟩; refine ⟨_, rfl, ?_⟩))
                (try simp only [Act.put, List.setIfInBounds_toArray, List.set_cons_zero, List.set_cons_succ])
                go_cut [66] (fun v66 wc => ∃ (kq : Nat) (x66_21 : Bool), v66 = .bool x66_21 ∧ Aside0 (keelsonref3_Parse.j1 kq t273 t278 t280 x66_21 = some (r1, r2, r3, r4)) ∧ Aside0 (kq ≤ kj5) ∧ Aside0 (wc.heap[gb272]? = some (.cells #[.string (⟨#[]⟩ : ByteArray), .int .i64 0, .string (⟨#[]⟩ : ByteArray)] 23 (0, 0))) ∧ Aside0 (Below w.heap.size w wc))
                case first =>
                  have H := HC22.out
                  clear HC22
                  by_cases c23 : t279 = true
                  · subst c23
                    have H1 : (keelsonref3_Parse.j1 kj5 t273 t278 t280 (!t281)) = some (r1, r2, r3, r4) := by rw [if_pos rfl] at H; exact H
                    clear H
                    have H := H1
                    clear H1
                    have H' := Aside0.mk H
                    clear H
                    go_wp2
                    go_meet
                    case rel => exact ⟨_, (!t281), (by first | rfl | (simp; done) | (simp [*]; done) | (simp [qal]; done)), H', ⟨by have := HJ5.out; first | omega | exact Nat.le_refl _⟩, ⟨by (with_reducible repeat (first | refine qac ?_ _ | refine qag ?_ | refine qab ?_ _)); exact BK272.out⟩, ⟨by repeat (first | (with_reducible first | exact HB.out | apply qaf | apply qaa | apply qae | refine qad ?_ GE272.out) | exact HB.out)⟩⟩
                  · replace c23 := Bool.eq_false_iff.mpr c23
                    subst c23
                    have H1 : (keelsonref3_Parse.j1 kj5 t273 t278 t280 true) = some (r1, r2, r3, r4) := by rw [if_neg (show ¬ (false = true) by decide)] at H; exact H
                    clear H
                    have H := H1
                    clear H1
                    have H' := Aside0.mk H
                    clear H
                    go_wp2
                    go_meet
                    case rel => exact ⟨_, (true), (by first | rfl | (simp; done) | (simp [*]; done) | (simp [qal]; done)), H', ⟨by have := HJ5.out; first | omega | exact Nat.le_refl _⟩, ⟨by (with_reducible repeat (first | refine qac ?_ _ | refine qag ?_ | refine qab ?_ _)); exact BK272.out⟩, ⟨by repeat (first | (with_reducible first | exact HB.out | apply qaf | apply qaa | apply qae | refine qad ?_ GE272.out) | exact HB.out)⟩⟩
                case rest =>
                  clear HC22
                  try clear c1
                  try clear p1
                  try clear q1
                  try clear hx1
                  try clear qi1
                  try clear c2
                  try clear p2
                  try clear c4
                  try clear c5
                  try clear p6
                  try clear c7
                  try clear c8
                  try clear c8b0
                  try clear c8b1
                  try clear c9
                  try clear c9b0
                  try clear c9b1
                  try clear p10
                  try clear q10
                  try clear hx10
                  try clear qi10
                  try clear c11
                  try clear c11b0
                  try clear c11b1
                  try clear c13
                  try clear c13b0
                  try clear c14
                  try clear c14b0
                  try clear p15
                  try clear q15
                  try clear hx15
                  try clear c16
                  try clear c18
                  try clear c18b0
                  try clear c18b1
                  try clear c19
                  try clear c19b0
                  try clear c19b1
                  try clear c20
                  try clear c21
                  try clear c22
                  try clear c23
                  try clear hcz17_0
                  try clear hcz17_1
                  try clear hcz17_2
                  try clear hfz17_0
                  try clear hfz17_1
                  try clear hfz17_2
                  try clear p1
                  try clear p10
                  try clear p15
                  try clear p2
                  try clear p6
                  try clear q1
                  try clear q10
                  try clear q15
                  obtain ⟨kq, x66_21, rfl, HA, HJ21, BK272, HB⟩ := hcut
                  cases kq with
                  | zero => exact absurd HA.out (by simp [keelsonref3_Parse.j1])
                  | succ kj21 =>
                    have H := HA.out
                    clear HA
                    simp only [keelsonref3_Parse.j1] at H
                    by_cases c24 : x66_21 = true
                    · subst c24
                      have H1 : (some ((⟨#[]⟩ : ByteArray), 0, (⟨#[]⟩ : ByteArray), 5)) = some (r1, r2, r3, r4) := by rw [if_pos rfl] at H; exact H
                      clear H
                      have H := H1
                      clear H1
                      simp only [Option.some.injEq, Prod.mk.injEq] at H
                      obtain ⟨rfl, rfl, rfl, rfl⟩ := H
                      have hcz25_0 : wc.cell? ⟨gb272, 0, none⟩ = some (.string (⟨#[]⟩ : ByteArray)) := (qai BK272.out 0).trans rfl
                      have hcz25_1 : wc.cell? ⟨gb272, 1, none⟩ = some (.int .i64 0) := (qai BK272.out 1).trans rfl
                      have hcz25_2 : wc.cell? ⟨gb272, 2, none⟩ = some (.string (⟨#[]⟩ : ByteArray)) := (qai BK272.out 2).trans rfl
                      have hfz25_0 := qah BK272.out 0
                      have hfz25_1 := qah BK272.out 1
                      have hfz25_2 := qah BK272.out 2
                      go_wp2
                      refine bodyPost_ret (results_ct rfl _ _ gb272 23 #[.string (⟨#[]⟩ : ByteArray), .int .i64 0, .string (⟨#[]⟩ : ByteArray)] (0, 0) _ rfl (by (with_reducible repeat (first | refine qac ?_ _ | refine qag ?_ | refine qab ?_ _)); refine blk_put (cs := #[.string (⟨#[]⟩ : ByteArray), .int .i64 0, .string (⟨#[]⟩ : ByteArray)]) ?_ 2 _ rfl; (with_reducible repeat (first | refine qac ?_ _ | refine qag ?_ | refine qab ?_ _)); refine blk_put (cs := #[.string (⟨#[]⟩ : ByteArray), .int .i64 0, .string (⟨#[]⟩ : ByteArray)]) ?_ 1 _ rfl; (with_reducible repeat (first | refine qac ?_ _ | refine qag ?_ | refine qab ?_ _)); refine blk_put (cs := #[.string (⟨#[]⟩ : ByteArray), .int .i64 0, .string (⟨#[]⟩ : ByteArray)]) ?_ 0 _ rfl; (with_reducible repeat (first | refine qac ?_ _ | refine qag ?_ | refine qab ?_ _)); exact BK272.out) Tryz.underlying23 rfl (by kernel_rfl)) rfl ?_
                      exact ⟨by first | rfl | (simp [qan, qao] <;> rfl) | (simp [*, qan, qao] <;> rfl), by repeat (first | (with_reducible first | exact HB.out | apply qaf | apply qaa | apply qae | refine qad ?_ GE272.out) | exact HB.out)⟩
                    · replace c24 := Bool.eq_false_iff.mpr c24
                      subst c24
                      have H1 : ((keelsonref3_plain.f kj21 t278).bind fun t282 => (if t282 = true then (some (t273, t280, t278, 0)) else (some ((⟨#[]⟩ : ByteArray), 0, (⟨#[]⟩ : ByteArray), 4)))) = some (r1, r2, r3, r4) := by rw [if_neg (show ¬ (false = true) by decide)] at H; exact H
                      clear H
                      have H := H1
                      clear H1
                      replace H := Option.bind_eq_some_iff.mp H
                      obtain ⟨t282, A260, H⟩ := H
                      replace H : (if t282 = true then (some (t273, t280, t278, 0)) else (some ((⟨#[]⟩ : ByteArray), 0, (⟨#[]⟩ : ByteArray), 4))) = some (r1, r2, r3, r4) := H
                      have A26 := Aside0.mk A260
                      clear A260
                      by_cases c27 : t282 = true
                      · subst c27
                        have H1 : (some (t273, t280, t278, 0)) = some (r1, r2, r3, r4) := by rw [if_pos rfl] at H; exact H
                        clear H
                        have H := H1
                        clear H1
                        simp only [Option.some.injEq, Prod.mk.injEq] at H
                        obtain ⟨rfl, rfl, rfl, rfl⟩ := H
                        go_wp2_with (first | ((with_reducible refine qam (f := 23) rfl ?_); refine goesL_ (some 69) rfl rfl Tryz.func23 (by kernel_rfl) rfl #[.string t278] rfl (by (try simp only [List.map_toArray, List.map_cons, List.map_nil]); first | done | rfl | (simp only [List.length_drop, List.length_take]; rfl)) ?_; (with_reducible refine (keelsonref3_plain.calls kj21 t278 true _ (by first | exact hG | exact GL.below hG (by repeat (first | (with_reducible first | exact HB.out | apply qaf | apply qaa | apply qae | refine qad ?_ GE272.out) | exact HB.out)))  A26.out).mono ?_); rintro e w28 ⟨rfl, hb⟩; refine ⟨_, rfl, ?_⟩; have n0_ := Aside0.mk (qaj (g := gb272) (o := .cells #[.string (⟨#[]⟩ : ByteArray), .int .i64 0, .string (⟨#[]⟩ : ByteArray)] 23 (0, 0)) (by (with_reducible repeat (first | refine qac ?_ _ | refine qag ?_ | refine qab ?_ _)); exact BK272.out) hb); have n1_ := Aside0.mk (qak (by repeat (first | (with_reducible first | exact HB.out | apply qaf | apply qaa | apply qae | refine qad ?_ GE272.out) | exact HB.out)) hb); clear BK272; clear HB; have BK272 := n0_; have HB := n1_; clear n0_ n1_; (try clear hb); (try clear hb2); (try clear hk); (try clear hi); have hcz29_0 : w28.cell? ⟨gb272, 0, none⟩ = some (.string (⟨#[]⟩ : ByteArray)) := (qai BK272.out 0).trans rfl; have hcz29_1 : w28.cell? ⟨gb272, 1, none⟩ = some (.int .i64 0) := (qai BK272.out 1).trans rfl; have hcz29_2 : w28.cell? ⟨gb272, 2, none⟩ = some (.string (⟨#[]⟩ : ByteArray)) := (qai BK272.out 2).trans rfl; have hfz29_0 := qah BK272.out 0; have hfz29_1 := qah BK272.out 1; have hfz29_2 := qah BK272.out 2))
                        refine bodyPost_ret (results_ct rfl _ _ gb272 23 #[.string t273, .int .i64 t280, .string t278] (0, 0) _ rfl (by (with_reducible repeat (first | refine qac ?_ _ | refine qag ?_ | refine qab ?_ _)); refine blk_put (cs := #[.string t273, .int .i64 t280, .string (⟨#[]⟩ : ByteArray)]) ?_ 2 _ rfl; (with_reducible repeat (first | refine qac ?_ _ | refine qag ?_ | refine qab ?_ _)); refine blk_put (cs := #[.string t273, .int .i64 0, .string (⟨#[]⟩ : ByteArray)]) ?_ 1 _ rfl; (with_reducible repeat (first | refine qac ?_ _ | refine qag ?_ | refine qab ?_ _)); refine blk_put (cs := #[.string (⟨#[]⟩ : ByteArray), .int .i64 0, .string (⟨#[]⟩ : ByteArray)]) ?_ 0 _ rfl; (with_reducible repeat (first | refine qac ?_ _ | refine qag ?_ | refine qab ?_ _)); exact BK272.out) Tryz.underlying23 rfl (by kernel_rfl)) rfl ?_
                        exact ⟨by first | rfl | (simp [qan, qao] <;> rfl) | (simp [*, qan, qao] <;> rfl), by repeat (first | (with_reducible first | exact HB.out | apply qaf | apply qaa | apply qae | refine qad ?_ GE272.out) | exact HB.out)⟩
                      · replace c27 := Bool.eq_false_iff.mpr c27
                        subst c27
                        have H1 : (some ((⟨#[]⟩ : ByteArray), 0, (⟨#[]⟩ : ByteArray), 4)) = some (r1, r2, r3, r4) := by rw [if_neg (show ¬ (false = true) by decide)] at H; exact H
                        clear H
                        have H := H1
                        clear H1
                        simp only [Option.some.injEq, Prod.mk.injEq] at H
                        obtain ⟨rfl, rfl, rfl, rfl⟩ := H
                        go_wp2_with (first | ((with_reducible refine qam (f := 23) rfl ?_); refine goesL_ (some 69) rfl rfl Tryz.func23 (by kernel_rfl) rfl #[.string t278] rfl (by (try simp only [List.map_toArray, List.map_cons, List.map_nil]); first | done | rfl | (simp only [List.length_drop, List.length_take]; rfl)) ?_; (with_reducible refine (keelsonref3_plain.calls kj21 t278 false _ (by first | exact hG | exact GL.below hG (by repeat (first | (with_reducible first | exact HB.out | apply qaf | apply qaa | apply qae | refine qad ?_ GE272.out) | exact HB.out)))  A26.out).mono ?_); rintro e w30 ⟨rfl, hb⟩; refine ⟨_, rfl, ?_⟩; have n0_ := Aside0.mk (qaj (g := gb272) (o := .cells #[.string (⟨#[]⟩ : ByteArray), .int .i64 0, .string (⟨#[]⟩ : ByteArray)] 23 (0, 0)) (by (with_reducible repeat (first | refine qac ?_ _ | refine qag ?_ | refine qab ?_ _)); exact BK272.out) hb); have n1_ := Aside0.mk (qak (by repeat (first | (with_reducible first | exact HB.out | apply qaf | apply qaa | apply qae | refine qad ?_ GE272.out) | exact HB.out)) hb); clear BK272; clear HB; have BK272 := n0_; have HB := n1_; clear n0_ n1_; (try clear hb); (try clear hb2); (try clear hk); (try clear hi); have hcz31_0 : w30.cell? ⟨gb272, 0, none⟩ = some (.string (⟨#[]⟩ : ByteArray)) := (qai BK272.out 0).trans rfl; have hcz31_1 : w30.cell? ⟨gb272, 1, none⟩ = some (.int .i64 0) := (qai BK272.out 1).trans rfl; have hcz31_2 : w30.cell? ⟨gb272, 2, none⟩ = some (.string (⟨#[]⟩ : ByteArray)) := (qai BK272.out 2).trans rfl; have hfz31_0 := qah BK272.out 0; have hfz31_1 := qah BK272.out 1; have hfz31_2 := qah BK272.out 2))
                        refine bodyPost_ret (results_ct rfl _ _ gb272 23 #[.string (⟨#[]⟩ : ByteArray), .int .i64 0, .string (⟨#[]⟩ : ByteArray)] (0, 0) _ rfl (by (with_reducible repeat (first | refine qac ?_ _ | refine qag ?_ | refine qab ?_ _)); refine blk_put (cs := #[.string (⟨#[]⟩ : ByteArray), .int .i64 0, .string (⟨#[]⟩ : ByteArray)]) ?_ 2 _ rfl; (with_reducible repeat (first | refine qac ?_ _ | refine qag ?_ | refine qab ?_ _)); refine blk_put (cs := #[.string (⟨#[]⟩ : ByteArray), .int .i64 0, .string (⟨#[]⟩ : ByteArray)]) ?_ 1 _ rfl; (with_reducible repeat (first | refine qac ?_ _ | refine qag ?_ | refine qab ?_ _)); refine blk_put (cs := #[.string (⟨#[]⟩ : ByteArray), .int .i64 0, .string (⟨#[]⟩ : ByteArray)]) ?_ 0 _ rfl; (with_reducible repeat (first | refine qac ?_ _ | refine qag ?_ | refine qab ?_ _)); exact BK272.out) Tryz.underlying23 rfl (by kernel_rfl)) rfl ?_
                        exact ⟨by first | rfl | (simp [qan, qao] <;> rfl) | (simp [*, qan, qao] <;> rfl), by repeat (first | (with_reducible first | exact HB.out | apply qaf | apply qaa | apply qae | refine qad ?_ GE272.out) | exact HB.out)⟩
              · rw [if_neg c19] at H
                exact absurd H (by simp)
            · rw [if_neg c18] at H
              exact absurd H (by simp)
    · replace c5 := Bool.eq_false_iff.mpr c5
      subst c5
      have H1 : (some (t273, 0, (⟨#[]⟩ : ByteArray), 0)) = some (r1, r2, r3, r4) := by rw [if_neg (show ¬ (false = true) by decide)] at H; exact H
      clear H
      have H := H1
      clear H1
      simp only [Option.some.injEq, Prod.mk.injEq] at H
      obtain ⟨rfl, rfl, rfl, rfl⟩ := H
      go_enter Tryz.func7, Tryz.ntmps7
      go_wp2_with (first | ((with_reducible refine qar (N := 2) rfl ?_); (try (refine gate_guard (by rfl) ?_; dsimp only)); refine qaq ?hg (N := 2) ?hd (cs := #[.string (⟨#[]⟩ : ByteArray), .int .i64 0, .string (⟨#[]⟩ : ByteArray)]) (t := 23) ?hr ?_; (case hd => rfl); (case hg => rfl); (case hr => first | (go_simp; done) | (go_simp; rfl)); intro gb272 hg w32 hbox hb; have n0_ := Aside0.mk (qak (by repeat (first | (with_reducible first | exact HB.out | apply qaf | apply qaa | apply qae) | exact HB.out)) hb); have n1_ := Aside0.mk (hbox); have n2_ := Aside0.mk ((by rw [hg]; exact (qap (by repeat (first | (with_reducible first | exact HB.out | apply qaf | apply qaa | apply qae) | exact HB.out))) : w.heap.size ≤ gb272)); have n3_ := Aside0.mk ((by rw [hg]; exact (qap (by repeat (first | (with_reducible first | exact HB.out | apply qaf | apply qaa | apply qae) | exact HB.out))) : w.heap.size ≤ gb272)); clear HB; have HB := n0_; have BK272 := n1_; have GW272 := n2_; have GE272 := n3_; clear n0_ n1_ n2_ n3_; clear hb hbox hg) | ((with_reducible refine qam (f := 20) rfl ?_); refine goesL_ (some 16) rfl rfl Tryz.func20 (by kernel_rfl) rfl #[.string a0] rfl (by (try simp only [List.map_toArray, List.map_cons, List.map_nil]); first | done | rfl | (simp only [List.length_drop, List.length_take]; rfl)) ?_; (with_reducible refine (keelsonref3_cut.calls k a0 t273 t274 false _ (by first | exact hG | exact GL.below hG (by repeat (first | (with_reducible first | exact HB.out | apply qaf | apply qaa | apply qae | refine qad ?_ GE272.out) | exact HB.out)))  A2.out).mono ?_); rintro e w' ⟨rfl, ⟨nd, rfl⟩⟩; refine ⟨_, rfl, ?_⟩; (try (rw [drewN_self w32]; generalize hq_ : World.drewN w32 _ = w32; have n0_ : Aside0 (w32.heap[gb272]? = some (.cells #[.string (⟨#[]⟩ : ByteArray), .int .i64 0, .string (⟨#[]⟩ : ByteArray)] 23 (0, 0))) := ⟨by rw [← hq_]; exact (by (with_reducible repeat (first | refine qac ?_ _ | refine qag ?_ | refine qab ?_ _)); exact BK272.out)⟩; have n1_ : Aside0 (Below w.heap.size w w32) := ⟨by rw [← hq_]; exact (by repeat (first | (with_reducible first | exact HB.out | apply qaf | apply qaa | apply qae | refine qad ?_ GE272.out) | exact HB.out))⟩; clear BK272 HB hq_; have BK272 := n0_; have HB := n1_; clear n0_ n1_))) | ((with_reducible refine qam (f := 21) rfl ?_); refine goesL_ (some 21) rfl rfl Tryz.func21 (by kernel_rfl) rfl #[.string t273] rfl (by (try simp only [List.map_toArray, List.map_cons, List.map_nil]); first | done | rfl | (simp only [List.length_drop, List.length_take]; rfl)) ?_; (with_reducible refine (keelsonref3_Name.calls k t273 true _ (by first | exact hG | exact GL.below hG (by repeat (first | (with_reducible first | exact HB.out | apply qaf | apply qaa | apply qae | refine qad ?_ GE272.out) | exact HB.out)))  A3.out).mono ?_); rintro e w' ⟨rfl, ⟨nd, rfl⟩⟩; refine ⟨_, rfl, ?_⟩; (try (rw [drewN_self w32]; generalize hq_ : World.drewN w32 _ = w32; have n0_ : Aside0 (w32.heap[gb272]? = some (.cells #[.string (⟨#[]⟩ : ByteArray), .int .i64 0, .string (⟨#[]⟩ : ByteArray)] 23 (0, 0))) := ⟨by rw [← hq_]; exact (by (with_reducible repeat (first | refine qac ?_ _ | refine qag ?_ | refine qab ?_ _)); exact BK272.out)⟩; have n1_ : Aside0 (Below w.heap.size w w32) := ⟨by rw [← hq_]; exact (by repeat (first | (with_reducible first | exact HB.out | apply qaf | apply qaa | apply qae | refine qad ?_ GE272.out) | exact HB.out))⟩; clear BK272 HB hq_; have BK272 := n0_; have HB := n1_; clear n0_ n1_)); have hcz33_0 : w32.cell? ⟨gb272, 0, none⟩ = some (.string (⟨#[]⟩ : ByteArray)) := (qai BK272.out 0).trans rfl; have hcz33_1 : w32.cell? ⟨gb272, 1, none⟩ = some (.int .i64 0) := (qai BK272.out 1).trans rfl; have hcz33_2 : w32.cell? ⟨gb272, 2, none⟩ = some (.string (⟨#[]⟩ : ByteArray)) := (qai BK272.out 2).trans rfl; have hfz33_0 := qah BK272.out 0; have hfz33_1 := qah BK272.out 1; have hfz33_2 := qah BK272.out 2))
      refine bodyPost_ret (results_ct rfl _ _ gb272 23 #[.string t273, .int .i64 0, .string (⟨#[]⟩ : ByteArray)] (0, 0) _ rfl (by (with_reducible repeat (first | refine qac ?_ _ | refine qag ?_ | refine qab ?_ _)); refine blk_put (cs := #[.string t273, .int .i64 0, .string (⟨#[]⟩ : ByteArray)]) ?_ 2 _ rfl; (with_reducible repeat (first | refine qac ?_ _ | refine qag ?_ | refine qab ?_ _)); refine blk_put (cs := #[.string t273, .int .i64 0, .string (⟨#[]⟩ : ByteArray)]) ?_ 1 _ rfl; (with_reducible repeat (first | refine qac ?_ _ | refine qag ?_ | refine qab ?_ _)); refine blk_put (cs := #[.string (⟨#[]⟩ : ByteArray), .int .i64 0, .string (⟨#[]⟩ : ByteArray)]) ?_ 0 _ rfl; (with_reducible repeat (first | refine qac ?_ _ | refine qag ?_ | refine qab ?_ _)); exact BK272.out) Tryz.underlying23 rfl (by kernel_rfl)) rfl ?_
      exact ⟨by first | rfl | (simp [qan, qao] <;> rfl) | (simp [*, qan, qao] <;> rfl), by repeat (first | (with_reducible first | exact HB.out | apply qaf | apply qaa | apply qae | refine qad ?_ GE272.out) | exact HB.out)⟩
  · replace c4 := Bool.eq_false_iff.mpr c4
    subst c4
    have H1 : (some ((⟨#[]⟩ : ByteArray), 0, (⟨#[]⟩ : ByteArray), 3)) = some (r1, r2, r3, r4) := by rw [if_neg (show ¬ (false = true) by decide)] at H; exact H
    clear H
    have H := H1
    clear H1
    simp only [Option.some.injEq, Prod.mk.injEq] at H
    obtain ⟨rfl, rfl, rfl, rfl⟩ := H
    go_enter Tryz.func7, Tryz.ntmps7
    go_wp2_with (first | ((with_reducible refine qar (N := 2) rfl ?_); (try (refine gate_guard (by rfl) ?_; dsimp only)); refine qaq ?hg (N := 2) ?hd (cs := #[.string (⟨#[]⟩ : ByteArray), .int .i64 0, .string (⟨#[]⟩ : ByteArray)]) (t := 23) ?hr ?_; (case hd => rfl); (case hg => rfl); (case hr => first | (go_simp; done) | (go_simp; rfl)); intro gb272 hg w34 hbox hb; have n0_ := Aside0.mk (qak (by repeat (first | (with_reducible first | exact HB.out | apply qaf | apply qaa | apply qae) | exact HB.out)) hb); have n1_ := Aside0.mk (hbox); have n2_ := Aside0.mk ((by rw [hg]; exact (qap (by repeat (first | (with_reducible first | exact HB.out | apply qaf | apply qaa | apply qae) | exact HB.out))) : w.heap.size ≤ gb272)); have n3_ := Aside0.mk ((by rw [hg]; exact (qap (by repeat (first | (with_reducible first | exact HB.out | apply qaf | apply qaa | apply qae) | exact HB.out))) : w.heap.size ≤ gb272)); clear HB; have HB := n0_; have BK272 := n1_; have GW272 := n2_; have GE272 := n3_; clear n0_ n1_ n2_ n3_; clear hb hbox hg) | ((with_reducible refine qam (f := 20) rfl ?_); refine goesL_ (some 16) rfl rfl Tryz.func20 (by kernel_rfl) rfl #[.string a0] rfl (by (try simp only [List.map_toArray, List.map_cons, List.map_nil]); first | done | rfl | (simp only [List.length_drop, List.length_take]; rfl)) ?_; (with_reducible refine (keelsonref3_cut.calls k a0 t273 t274 t275 _ (by first | exact hG | exact GL.below hG (by repeat (first | (with_reducible first | exact HB.out | apply qaf | apply qaa | apply qae | refine qad ?_ GE272.out) | exact HB.out)))  A2.out).mono ?_); rintro e w' ⟨rfl, ⟨nd, rfl⟩⟩; refine ⟨_, rfl, ?_⟩; (try (rw [drewN_self w34]; generalize hq_ : World.drewN w34 _ = w34; have n0_ : Aside0 (w34.heap[gb272]? = some (.cells #[.string (⟨#[]⟩ : ByteArray), .int .i64 0, .string (⟨#[]⟩ : ByteArray)] 23 (0, 0))) := ⟨by rw [← hq_]; exact (by (with_reducible repeat (first | refine qac ?_ _ | refine qag ?_ | refine qab ?_ _)); exact BK272.out)⟩; have n1_ : Aside0 (Below w.heap.size w w34) := ⟨by rw [← hq_]; exact (by repeat (first | (with_reducible first | exact HB.out | apply qaf | apply qaa | apply qae | refine qad ?_ GE272.out) | exact HB.out))⟩; clear BK272 HB hq_; have BK272 := n0_; have HB := n1_; clear n0_ n1_))) | ((with_reducible refine qam (f := 21) rfl ?_); refine goesL_ (some 21) rfl rfl Tryz.func21 (by kernel_rfl) rfl #[.string t273] rfl (by (try simp only [List.map_toArray, List.map_cons, List.map_nil]); first | done | rfl | (simp only [List.length_drop, List.length_take]; rfl)) ?_; (with_reducible refine (keelsonref3_Name.calls k t273 false _ (by first | exact hG | exact GL.below hG (by repeat (first | (with_reducible first | exact HB.out | apply qaf | apply qaa | apply qae | refine qad ?_ GE272.out) | exact HB.out)))  A3.out).mono ?_); rintro e w' ⟨rfl, ⟨nd, rfl⟩⟩; refine ⟨_, rfl, ?_⟩; (try (rw [drewN_self w34]; generalize hq_ : World.drewN w34 _ = w34; have n0_ : Aside0 (w34.heap[gb272]? = some (.cells #[.string (⟨#[]⟩ : ByteArray), .int .i64 0, .string (⟨#[]⟩ : ByteArray)] 23 (0, 0))) := ⟨by rw [← hq_]; exact (by (with_reducible repeat (first | refine qac ?_ _ | refine qag ?_ | refine qab ?_ _)); exact BK272.out)⟩; have n1_ : Aside0 (Below w.heap.size w w34) := ⟨by rw [← hq_]; exact (by repeat (first | (with_reducible first | exact HB.out | apply qaf | apply qaa | apply qae | refine qad ?_ GE272.out) | exact HB.out))⟩; clear BK272 HB hq_; have BK272 := n0_; have HB := n1_; clear n0_ n1_)); have hcz35_0 : w34.cell? ⟨gb272, 0, none⟩ = some (.string (⟨#[]⟩ : ByteArray)) := (qai BK272.out 0).trans rfl; have hcz35_1 : w34.cell? ⟨gb272, 1, none⟩ = some (.int .i64 0) := (qai BK272.out 1).trans rfl; have hcz35_2 : w34.cell? ⟨gb272, 2, none⟩ = some (.string (⟨#[]⟩ : ByteArray)) := (qai BK272.out 2).trans rfl; have hfz35_0 := qah BK272.out 0; have hfz35_1 := qah BK272.out 1; have hfz35_2 := qah BK272.out 2))
    refine bodyPost_ret (results_ct rfl _ _ gb272 23 #[.string (⟨#[]⟩ : ByteArray), .int .i64 0, .string (⟨#[]⟩ : ByteArray)] (0, 0) _ rfl (by (with_reducible repeat (first | refine qac ?_ _ | refine qag ?_ | refine qab ?_ _)); refine blk_put (cs := #[.string (⟨#[]⟩ : ByteArray), .int .i64 0, .string (⟨#[]⟩ : ByteArray)]) ?_ 2 _ rfl; (with_reducible repeat (first | refine qac ?_ _ | refine qag ?_ | refine qab ?_ _)); refine blk_put (cs := #[.string (⟨#[]⟩ : ByteArray), .int .i64 0, .string (⟨#[]⟩ : ByteArray)]) ?_ 1 _ rfl; (with_reducible repeat (first | refine qac ?_ _ | refine qag ?_ | refine qab ?_ _)); refine blk_put (cs := #[.string (⟨#[]⟩ : ByteArray), .int .i64 0, .string (⟨#[]⟩ : ByteArray)]) ?_ 0 _ rfl; (with_reducible repeat (first | refine qac ?_ _ | refine qag ?_ | refine qab ?_ _)); exact BK272.out) Tryz.underlying23 rfl (by kernel_rfl)) rfl ?_
    exact ⟨by first | rfl | (simp [qan, qao] <;> rfl) | (simp [*, qan, qao] <;> rfl), by repeat (first | (with_reducible first | exact HB.out | apply qaf | apply qaa | apply qae | refine qad ?_ GE272.out) | exact HB.out)⟩
def relation_Right.j0 : Nat → Bool → ByteArray → Int → ByteArray → Option (Bool)
  | 0, _, _, _, _ => none
  | k + 1, x3, x284000, x284001, x284002 => if x3 = true then (some false) else (if x284001 = 0 then (some (x284002.toList == ([] : List UInt8))) else ((relation_plain.f k x284002).bind fun t285 => (some t285)))
def relation_Right.f (k : Nat) (a0_0 : ByteArray) (a0_1 : Int) (a0_2 : ByteArray) : Option (Bool) := (relation_Name.f k a0_0).bind fun t284 => (if t284 = true then (if a0_1 < 0 then (relation_Right.j0 k true a0_0 a0_1 a0_2) else (relation_Right.j0 k (decide (a0_1 > 5)) a0_0 a0_1 a0_2)) else (relation_Right.j0 k true a0_0 a0_1 a0_2))
theorem relation_Right.mono_l : ∀ k, (∀ y0 y1 y2 y3, LeO (relation_Right.j0 k y0 y1 y2 y3) (relation_Right.j0 (k + 1) y0 y1 y2 y3))
  | 0 => fun _ _ _ _ r h => by simp [relation_Right.j0] at h
  | k + 1 => by
    have ih0 := relation_Right.mono_l k
    · intro y0 y1 y2 y3
      unfold relation_Right.j0
      repeat' first
      | (with_reducible exact ih0 _ _ _ _)
      | (with_reducible exact relation_Name.mono _ _)
      | (with_reducible exact relation_plain.mono _ _)
      | (with_reducible exact LeO.refl _)
      | (with_reducible exact LeO.none _)
      | (with_reducible refine LeO.ite ?_ ?_)
      | (with_reducible refine LeO.bind ?_ (fun _ => ?_))
      | exact ih0 _ _ _ _
      | exact relation_Name.mono _ _
      | exact relation_plain.mono _ _
      | exact LeO.none _
      | refine LeO.ite ?_ ?_
      | refine LeO.bind ?_ (fun _ => ?_)
theorem relation_Right.mono : ∀ a0 a1 a2 k, LeO (relation_Right.f k a0 a1 a2) (relation_Right.f (k + 1) a0 a1 a2) := by
  intro a0 a1 a2 k
  have ih0 := relation_Right.mono_l k
  unfold relation_Right.f
  repeat' first
      | (with_reducible exact ih0 _ _ _ _)
      | (with_reducible exact relation_Name.mono _ _)
      | (with_reducible exact relation_plain.mono _ _)
      | (with_reducible exact LeO.refl _)
      | (with_reducible exact LeO.none _)
      | (with_reducible refine LeO.ite ?_ ?_)
      | (with_reducible refine LeO.bind ?_ (fun _ => ?_))
      | exact ih0 _ _ _ _
      | exact relation_Name.mono _ _
      | exact relation_plain.mono _ _
      | exact LeO.none _
      | refine LeO.ite ?_ ?_
      | refine LeO.bind ?_ (fun _ => ?_)
set_option maxHeartbeats 8000000 in
set_option maxRecDepth 100000 in
theorem relation_Right.calls (k : Nat) (a0_0 : ByteArray) (a0_1 : Int) (a0_2 : ByteArray) (r : Bool) (w : World) (hG : GL w) (h : relation_Right.f k a0_0 a0_1 a0_2 = some r) :
    Calls Tryz.prog 8 #[.agg #[.string a0_0, .int .i64 a0_1, .string a0_2]] w fun e w' => e = .returned (.bool r) ∧ Below w.heap.size w w' := by
  have hu23 := Tryz.underlying23
  have HB := Aside0.mk (Below.refl w.heap.size w)
  have H : ((relation_Name.f k a0_0).bind fun t284 => (if t284 = true then (if a0_1 < 0 then (relation_Right.j0 k true a0_0 a0_1 a0_2) else (relation_Right.j0 k (decide (a0_1 > 5)) a0_0 a0_1 a0_2)) else (relation_Right.j0 k true a0_0 a0_1 a0_2))) = some r := h
  clear h
  have HC2 := Aside0.mk H
  clear H
  go_enter Tryz.func8, Tryz.ntmps8
  go_upto_region 1 with (first | ((with_reducible refine qar (N := 1) rfl ?_); refine qaq ?hg (N := 1) ?hd (cs := #[.string a0_0, .int .i64 a0_1, .string a0_2]) (t := 23) ?hr ?_; (case hd => rfl); (case hg => rfl); (case hr => first | (go_simp; done) | (go_simp; rfl)); intro gb283 hg w3 hbox hb; have n0_ := Aside0.mk (qak (by repeat (first | (with_reducible first | exact HB.out | apply qaf | apply qaa | apply qae) | exact HB.out)) hb); have n1_ := Aside0.mk (hbox); have n2_ := Aside0.mk ((by rw [hg]; exact (qap (by repeat (first | (with_reducible first | exact HB.out | apply qaf | apply qaa | apply qae) | exact HB.out))) : w.heap.size ≤ gb283)); have n3_ := Aside0.mk ((by rw [hg]; exact (qap (by repeat (first | (with_reducible first | exact HB.out | apply qaf | apply qaa | apply qae) | exact HB.out))) : w.heap.size ≤ gb283)); clear HB; have HB := n0_; have BK283 := n1_; have GW283 := n2_; have GE283 := n3_; clear n0_ n1_ n2_ n3_; clear hb hbox hg))
  (try simp only [Act.put, List.setIfInBounds_toArray, List.set_cons_zero, List.set_cons_succ])
  go_cut [3] (fun v3 wc => ∃ (kq : Nat) (x3_1 : Bool), v3 = .bool x3_1 ∧ Aside0 (relation_Right.j0 kq x3_1 a0_0 a0_1 a0_2 = some r) ∧ Aside0 (kq ≤ k) ∧ Aside0 (wc.heap[gb283]? = some (.cells #[.string a0_0, .int .i64 a0_1, .string a0_2] 23 (0, 0))) ∧ Aside0 (Below w.heap.size w wc))
  case first =>
    have H := HC2.out
    clear HC2
    replace H := Option.bind_eq_some_iff.mp H
    obtain ⟨t284, A40, H⟩ := H
    replace H : (if t284 = true then (if a0_1 < 0 then (relation_Right.j0 k true a0_0 a0_1 a0_2) else (relation_Right.j0 k (decide (a0_1 > 5)) a0_0 a0_1 a0_2)) else (relation_Right.j0 k true a0_0 a0_1 a0_2)) = some r := H
    have A4 := Aside0.mk A40
    clear A40
    by_cases c5 : t284 = true
    · subst c5
      have H1 : (if a0_1 < 0 then (relation_Right.j0 k true a0_0 a0_1 a0_2) else (relation_Right.j0 k (decide (a0_1 > 5)) a0_0 a0_1 a0_2)) = some r := by rw [if_pos rfl] at H; exact H
      clear H
      have H := H1
      clear H1
      by_cases c6 : a0_1 < 0
      · rw [if_pos c6] at H
        have c6b0 : decide (a0_1 < 0) = true := decide_eq_true c6
        clear c6
        (first | rw [c6b0] | (simp only [i64_w, i32_w]; rw [c6b0]) | skip)
        have H' := Aside0.mk H
        clear H
        have hcz7_0 : w3.cell? ⟨gb283, 0, none⟩ = some (.string a0_0) := (qai BK283.out 0).trans rfl
        have hcz7_1 : w3.cell? ⟨gb283, 1, none⟩ = some (.int .i64 a0_1) := (qai BK283.out 1).trans rfl
        have hcz7_2 : w3.cell? ⟨gb283, 2, none⟩ = some (.string a0_2) := (qai BK283.out 2).trans rfl
        have hfz7_0 := qah BK283.out 0
        have hfz7_1 := qah BK283.out 1
        have hfz7_2 := qah BK283.out 2
        go_wp2_with (first | ((with_reducible refine qam (f := 15) rfl ?_); refine goesL_ (some 6) rfl rfl Tryz.func15 (by kernel_rfl) rfl #[.string a0_0] rfl (by (try simp only [List.map_toArray, List.map_cons, List.map_nil]); first | done | rfl | (simp only [List.length_drop, List.length_take]; rfl)) ?_; (with_reducible refine (relation_Name.calls k a0_0 true _ (by first | exact hG | exact GL.below hG (by repeat (first | (with_reducible first | exact HB.out | apply qaf | apply qaa | apply qae | refine qad ?_ GE283.out) | exact HB.out)))  A4.out).mono ?_); rintro e w8 ⟨rfl, hb⟩; refine ⟨_, rfl, ?_⟩; have n0_ := Aside0.mk (qaj (g := gb283) (o := .cells #[.string a0_0, .int .i64 a0_1, .string a0_2] 23 (0, 0)) (by (with_reducible repeat (first | refine qac ?_ _ | refine qag ?_ | refine qab ?_ _)); exact BK283.out) hb); have n1_ := Aside0.mk (qak (by repeat (first | (with_reducible first | exact HB.out | apply qaf | apply qaa | apply qae | refine qad ?_ GE283.out) | exact HB.out)) hb); clear BK283; clear HB; have BK283 := n0_; have HB := n1_; clear n0_ n1_; (try clear hb); (try clear hb2); (try clear hk); (try clear hi); have hcz9_0 : w8.cell? ⟨gb283, 0, none⟩ = some (.string a0_0) := (qai BK283.out 0).trans rfl; have hcz9_1 : w8.cell? ⟨gb283, 1, none⟩ = some (.int .i64 a0_1) := (qai BK283.out 1).trans rfl; have hcz9_2 : w8.cell? ⟨gb283, 2, none⟩ = some (.string a0_2) := (qai BK283.out 2).trans rfl; have hfz9_0 := qah BK283.out 0; have hfz9_1 := qah BK283.out 1; have hfz9_2 := qah BK283.out 2))
        go_meet
        case rel => exact ⟨_, (true), (by first | rfl | (simp; done) | (simp [*]; done) | (simp [qal]; done)), H', ⟨by first | omega | exact Nat.le_refl _⟩, ⟨by (with_reducible repeat (first | refine qac ?_ _ | refine qag ?_ | refine qab ?_ _)); exact BK283.out⟩, ⟨by repeat (first | (with_reducible first | exact HB.out | apply qaf | apply qaa | apply qae | refine qad ?_ GE283.out) | exact HB.out)⟩⟩
      · rw [if_neg c6] at H
        have c6b0 : decide (a0_1 < 0) = false := decide_eq_false c6
        clear c6
        (first | rw [c6b0] | (simp only [i64_w, i32_w]; rw [c6b0]) | skip)
        have H' := Aside0.mk H
        clear H
        have hcz10_0 : w3.cell? ⟨gb283, 0, none⟩ = some (.string a0_0) := (qai BK283.out 0).trans rfl
        have hcz10_1 : w3.cell? ⟨gb283, 1, none⟩ = some (.int .i64 a0_1) := (qai BK283.out 1).trans rfl
        have hcz10_2 : w3.cell? ⟨gb283, 2, none⟩ = some (.string a0_2) := (qai BK283.out 2).trans rfl
        have hfz10_0 := qah BK283.out 0
        have hfz10_1 := qah BK283.out 1
        have hfz10_2 := qah BK283.out 2
        go_wp2_with (first | ((with_reducible refine qam (f := 15) rfl ?_); refine goesL_ (some 6) rfl rfl Tryz.func15 (by kernel_rfl) rfl #[.string a0_0] rfl (by (try simp only [List.map_toArray, List.map_cons, List.map_nil]); first | done | rfl | (simp only [List.length_drop, List.length_take]; rfl)) ?_; (with_reducible refine (relation_Name.calls k a0_0 true _ (by first | exact hG | exact GL.below hG (by repeat (first | (with_reducible first | exact HB.out | apply qaf | apply qaa | apply qae | refine qad ?_ GE283.out) | exact HB.out)))  A4.out).mono ?_); rintro e w11 ⟨rfl, hb⟩; refine ⟨_, rfl, ?_⟩; have n0_ := Aside0.mk (qaj (g := gb283) (o := .cells #[.string a0_0, .int .i64 a0_1, .string a0_2] 23 (0, 0)) (by (with_reducible repeat (first | refine qac ?_ _ | refine qag ?_ | refine qab ?_ _)); exact BK283.out) hb); have n1_ := Aside0.mk (qak (by repeat (first | (with_reducible first | exact HB.out | apply qaf | apply qaa | apply qae | refine qad ?_ GE283.out) | exact HB.out)) hb); clear BK283; clear HB; have BK283 := n0_; have HB := n1_; clear n0_ n1_; (try clear hb); (try clear hb2); (try clear hk); (try clear hi); have hcz12_0 : w11.cell? ⟨gb283, 0, none⟩ = some (.string a0_0) := (qai BK283.out 0).trans rfl; have hcz12_1 : w11.cell? ⟨gb283, 1, none⟩ = some (.int .i64 a0_1) := (qai BK283.out 1).trans rfl; have hcz12_2 : w11.cell? ⟨gb283, 2, none⟩ = some (.string a0_2) := (qai BK283.out 2).trans rfl; have hfz12_0 := qah BK283.out 0; have hfz12_1 := qah BK283.out 1; have hfz12_2 := qah BK283.out 2))
        go_meet
        case rel => exact ⟨_, (decide (a0_1 > 5)), (by first | rfl | (simp; done) | (simp [*]; done) | (simp [qal]; done)), H', ⟨by first | omega | exact Nat.le_refl _⟩, ⟨by (with_reducible repeat (first | refine qac ?_ _ | refine qag ?_ | refine qab ?_ _)); exact BK283.out⟩, ⟨by repeat (first | (with_reducible first | exact HB.out | apply qaf | apply qaa | apply qae | refine qad ?_ GE283.out) | exact HB.out)⟩⟩
    · replace c5 := Bool.eq_false_iff.mpr c5
      subst c5
      have H1 : (relation_Right.j0 k true a0_0 a0_1 a0_2) = some r := by rw [if_neg (show ¬ (false = true) by decide)] at H; exact H
      clear H
      have H := H1
      clear H1
      have H' := Aside0.mk H
      clear H
      have hcz13_0 : w3.cell? ⟨gb283, 0, none⟩ = some (.string a0_0) := (qai BK283.out 0).trans rfl
      have hcz13_1 : w3.cell? ⟨gb283, 1, none⟩ = some (.int .i64 a0_1) := (qai BK283.out 1).trans rfl
      have hcz13_2 : w3.cell? ⟨gb283, 2, none⟩ = some (.string a0_2) := (qai BK283.out 2).trans rfl
      have hfz13_0 := qah BK283.out 0
      have hfz13_1 := qah BK283.out 1
      have hfz13_2 := qah BK283.out 2
      go_wp2_with (first | ((with_reducible refine qam (f := 15) rfl ?_); refine goesL_ (some 6) rfl rfl Tryz.func15 (by kernel_rfl) rfl #[.string a0_0] rfl (by (try simp only [List.map_toArray, List.map_cons, List.map_nil]); first | done | rfl | (simp only [List.length_drop, List.length_take]; rfl)) ?_; (with_reducible refine (relation_Name.calls k a0_0 false _ (by first | exact hG | exact GL.below hG (by repeat (first | (with_reducible first | exact HB.out | apply qaf | apply qaa | apply qae | refine qad ?_ GE283.out) | exact HB.out)))  A4.out).mono ?_); rintro e w14 ⟨rfl, hb⟩; refine ⟨_, rfl, ?_⟩; have n0_ := Aside0.mk (qaj (g := gb283) (o := .cells #[.string a0_0, .int .i64 a0_1, .string a0_2] 23 (0, 0)) (by (with_reducible repeat (first | refine qac ?_ _ | refine qag ?_ | refine qab ?_ _)); exact BK283.out) hb); have n1_ := Aside0.mk (qak (by repeat (first | (with_reducible first | exact HB.out | apply qaf | apply qaa | apply qae | refine qad ?_ GE283.out) | exact HB.out)) hb); clear BK283; clear HB; have BK283 := n0_; have HB := n1_; clear n0_ n1_; (try clear hb); (try clear hb2); (try clear hk); (try clear hi)))
      go_meet
      case rel => exact ⟨_, (true), (by first | rfl | (simp; done) | (simp [*]; done) | (simp [qal]; done)), H', ⟨by first | omega | exact Nat.le_refl _⟩, ⟨by (with_reducible repeat (first | refine qac ?_ _ | refine qag ?_ | refine qab ?_ _)); exact BK283.out⟩, ⟨by repeat (first | (with_reducible first | exact HB.out | apply qaf | apply qaa | apply qae | refine qad ?_ GE283.out) | exact HB.out)⟩⟩
  case rest =>
    clear HC2
    try clear c1
    try clear p2
    try clear c5
    try clear c6
    try clear c6b0
    try clear c8
    try clear hcz10_0
    try clear hcz10_1
    try clear hcz10_2
    try clear hcz12_0
    try clear hcz12_1
    try clear hcz12_2
    try clear hcz13_0
    try clear hcz13_1
    try clear hcz13_2
    try clear hcz7_0
    try clear hcz7_1
    try clear hcz7_2
    try clear hcz9_0
    try clear hcz9_1
    try clear hcz9_2
    try clear hfz10_0
    try clear hfz10_1
    try clear hfz10_2
    try clear hfz12_0
    try clear hfz12_1
    try clear hfz12_2
    try clear hfz13_0
    try clear hfz13_1
    try clear hfz13_2
    try clear hfz7_0
    try clear hfz7_1
    try clear hfz7_2
    try clear hfz9_0
    try clear hfz9_1
    try clear hfz9_2
    obtain ⟨kq, x3_1, rfl, HA, HJ1, BK283, HB⟩ := hcut
    cases kq with
    | zero => exact absurd HA.out (by simp [relation_Right.j0])
    | succ kj1 =>
      have H := HA.out
      clear HA
      simp only [relation_Right.j0] at H
      by_cases c15 : x3_1 = true
      · subst c15
        have H1 : (some false) = some r := by rw [if_pos rfl] at H; exact H
        clear H
        have H := H1
        clear H1
        obtain rfl := Option.some.inj H
        go_wp2
        go_ret
        exact ⟨by first | rfl | (simp [qan, qao] <;> rfl) | (simp [*, qan, qao] <;> rfl), by repeat (first | (with_reducible first | exact HB.out | apply qaf | apply qaa | apply qae | refine qad ?_ GE283.out) | exact HB.out)⟩
      · replace c15 := Bool.eq_false_iff.mpr c15
        subst c15
        have H1 : (if a0_1 = 0 then (some (a0_2.toList == ([] : List UInt8))) else ((relation_plain.f kj1 a0_2).bind fun t285 => (some t285))) = some r := by rw [if_neg (show ¬ (false = true) by decide)] at H; exact H
        clear H
        have H := H1
        clear H1
        by_cases c16 : a0_1 = 0
        · rw [if_pos c16] at H
          have c16b0 : (a0_1 == 0) = true := beq_iff_eq.mpr c16
          have c16b1 : (a0_1 != 0) = false := bne_eq_false_iff_eq.mpr c16
          clear c16
          obtain rfl := Option.some.inj H
          have hcz17_0 : wc.cell? ⟨gb283, 0, none⟩ = some (.string a0_0) := (qai BK283.out 0).trans rfl
          have hcz17_1 : wc.cell? ⟨gb283, 1, none⟩ = some (.int .i64 a0_1) := (qai BK283.out 1).trans rfl
          have hcz17_2 : wc.cell? ⟨gb283, 2, none⟩ = some (.string a0_2) := (qai BK283.out 2).trans rfl
          have hfz17_0 := qah BK283.out 0
          have hfz17_1 := qah BK283.out 1
          have hfz17_2 := qah BK283.out 2
          go_wp2
          go_ret
          exact ⟨by first | rfl | (simp [qan, qao] <;> rfl) | (simp [*, qan, qao] <;> rfl), by repeat (first | (with_reducible first | exact HB.out | apply qaf | apply qaa | apply qae | refine qad ?_ GE283.out) | exact HB.out)⟩
        · rw [if_neg c16] at H
          have c16b0 : (a0_1 == 0) = false := beq_eq_false_iff_ne.mpr c16
          have c16b1 : (a0_1 != 0) = true := bne_iff_ne.mpr c16
          replace H := Option.bind_eq_some_iff.mp H
          obtain ⟨t285, A180, H⟩ := H
          replace H : (some t285) = some r := H
          have A18 := Aside0.mk A180
          clear A180
          obtain rfl := Option.some.inj H
          have hcz19_0 : wc.cell? ⟨gb283, 0, none⟩ = some (.string a0_0) := (qai BK283.out 0).trans rfl
          have hcz19_1 : wc.cell? ⟨gb283, 1, none⟩ = some (.int .i64 a0_1) := (qai BK283.out 1).trans rfl
          have hcz19_2 : wc.cell? ⟨gb283, 2, none⟩ = some (.string a0_2) := (qai BK283.out 2).trans rfl
          have hfz19_0 := qah BK283.out 0
          have hfz19_1 := qah BK283.out 1
          have hfz19_2 := qah BK283.out 2
          go_wp2_with (first | ((with_reducible refine qam (f := 19) rfl ?_); refine goesL_ (some 27) rfl rfl Tryz.func19 (by kernel_rfl) rfl #[.string a0_2] rfl (by (try simp only [List.map_toArray, List.map_cons, List.map_nil]); first | done | rfl | (simp only [List.length_drop, List.length_take]; rfl)) ?_; (with_reducible refine (relation_plain.calls kj1 a0_2 t285 _ (by first | exact hG | exact GL.below hG (by repeat (first | (with_reducible first | exact HB.out | apply qaf | apply qaa | apply qae | refine qad ?_ GE283.out) | exact HB.out)))  A18.out).mono ?_); rintro e w20 ⟨rfl, hb⟩; refine ⟨_, rfl, ?_⟩; have n0_ := Aside0.mk (qaj (g := gb283) (o := .cells #[.string a0_0, .int .i64 a0_1, .string a0_2] 23 (0, 0)) (by (with_reducible repeat (first | refine qac ?_ _ | refine qag ?_ | refine qab ?_ _)); exact BK283.out) hb); have n1_ := Aside0.mk (qak (by repeat (first | (with_reducible first | exact HB.out | apply qaf | apply qaa | apply qae | refine qad ?_ GE283.out) | exact HB.out)) hb); clear BK283; clear HB; have BK283 := n0_; have HB := n1_; clear n0_ n1_; (try clear hb); (try clear hb2); (try clear hk); (try clear hi)))
          go_ret
          exact ⟨by first | rfl | (simp [qan, qao] <;> rfl) | (simp [*, qan, qao] <;> rfl), by repeat (first | (with_reducible first | exact HB.out | apply qaf | apply qaa | apply qae | refine qad ?_ GE283.out) | exact HB.out)⟩
def keelsonref3_Right.j0 : Nat → Bool → ByteArray → Int → ByteArray → Option (Bool)
  | 0, _, _, _, _ => none
  | k + 1, x18, x287000, x287001, x287002 => if x18 = true then (some false) else (if x287001 = 0 then (some (x287002.toList == ([] : List UInt8))) else ((keelsonref3_plain.f k x287002).bind fun t288 => (some t288)))
def keelsonref3_Right.f (k : Nat) (a0_0 : ByteArray) (a0_1 : Int) (a0_2 : ByteArray) : Option (Bool) := (keelsonref3_Name.f k a0_0).bind fun t287 => (if t287 = true then (if a0_1 < 0 then (keelsonref3_Right.j0 k true a0_0 a0_1 a0_2) else (keelsonref3_Right.j0 k (decide (a0_1 > 5)) a0_0 a0_1 a0_2)) else (keelsonref3_Right.j0 k true a0_0 a0_1 a0_2))
theorem keelsonref3_Right.mono_l : ∀ k, (∀ y0 y1 y2 y3, LeO (keelsonref3_Right.j0 k y0 y1 y2 y3) (keelsonref3_Right.j0 (k + 1) y0 y1 y2 y3))
  | 0 => fun _ _ _ _ r h => by simp [keelsonref3_Right.j0] at h
  | k + 1 => by
    have ih0 := keelsonref3_Right.mono_l k
    · intro y0 y1 y2 y3
      unfold keelsonref3_Right.j0
      repeat' first
      | (with_reducible exact ih0 _ _ _ _)
      | (with_reducible exact keelsonref3_Name.mono _ _)
      | (with_reducible exact keelsonref3_plain.mono _ _)
      | (with_reducible exact LeO.refl _)
      | (with_reducible exact LeO.none _)
      | (with_reducible refine LeO.ite ?_ ?_)
      | (with_reducible refine LeO.bind ?_ (fun _ => ?_))
      | exact ih0 _ _ _ _
      | exact keelsonref3_Name.mono _ _
      | exact keelsonref3_plain.mono _ _
      | exact LeO.none _
      | refine LeO.ite ?_ ?_
      | refine LeO.bind ?_ (fun _ => ?_)
theorem keelsonref3_Right.mono : ∀ a0 a1 a2 k, LeO (keelsonref3_Right.f k a0 a1 a2) (keelsonref3_Right.f (k + 1) a0 a1 a2) := by
  intro a0 a1 a2 k
  have ih0 := keelsonref3_Right.mono_l k
  unfold keelsonref3_Right.f
  repeat' first
      | (with_reducible exact ih0 _ _ _ _)
      | (with_reducible exact keelsonref3_Name.mono _ _)
      | (with_reducible exact keelsonref3_plain.mono _ _)
      | (with_reducible exact LeO.refl _)
      | (with_reducible exact LeO.none _)
      | (with_reducible refine LeO.ite ?_ ?_)
      | (with_reducible refine LeO.bind ?_ (fun _ => ?_))
      | exact ih0 _ _ _ _
      | exact keelsonref3_Name.mono _ _
      | exact keelsonref3_plain.mono _ _
      | exact LeO.none _
      | refine LeO.ite ?_ ?_
      | refine LeO.bind ?_ (fun _ => ?_)
set_option maxHeartbeats 8000000 in
set_option maxRecDepth 100000 in
theorem keelsonref3_Right.calls (k : Nat) (a0_0 : ByteArray) (a0_1 : Int) (a0_2 : ByteArray) (r : Bool) (w : World) (hG : GL w) (h : keelsonref3_Right.f k a0_0 a0_1 a0_2 = some r) :
    Calls Tryz.prog 9 #[.agg #[.string a0_0, .int .i64 a0_1, .string a0_2]] w fun e w' => e = .returned (.bool r) ∧ Below w.heap.size w w' := by
  have hu23 := Tryz.underlying23
  have HB := Aside0.mk (Below.refl w.heap.size w)
  have H : ((keelsonref3_Name.f k a0_0).bind fun t287 => (if t287 = true then (if a0_1 < 0 then (keelsonref3_Right.j0 k true a0_0 a0_1 a0_2) else (keelsonref3_Right.j0 k (decide (a0_1 > 5)) a0_0 a0_1 a0_2)) else (keelsonref3_Right.j0 k true a0_0 a0_1 a0_2))) = some r := h
  clear h
  replace H := Option.bind_eq_some_iff.mp H
  obtain ⟨t287, A20, H⟩ := H
  replace H : (if t287 = true then (if a0_1 < 0 then (keelsonref3_Right.j0 k true a0_0 a0_1 a0_2) else (keelsonref3_Right.j0 k (decide (a0_1 > 5)) a0_0 a0_1 a0_2)) else (keelsonref3_Right.j0 k true a0_0 a0_1 a0_2)) = some r := H
  have A2 := Aside0.mk A20
  clear A20
  have HC3 := Aside0.mk H
  clear H
  go_enter Tryz.func9, Tryz.ntmps9
  go_upto_region 2 with (first | ((with_reducible refine qar (N := 1) rfl ?_); refine qaq ?hg (N := 1) ?hd (cs := #[.string a0_0, .int .i64 a0_1, .string a0_2]) (t := 23) ?hr ?_; (case hd => rfl); (case hg => rfl); (case hr => first | (go_simp; done) | (go_simp; rfl)); intro gb286 hg w4 hbox hb; have n0_ := Aside0.mk (qak (by repeat (first | (with_reducible first | exact HB.out | apply qaf | apply qaa | apply qae) | exact HB.out)) hb); have n1_ := Aside0.mk (hbox); have n2_ := Aside0.mk ((by rw [hg]; exact (qap (by repeat (first | (with_reducible first | exact HB.out | apply qaf | apply qaa | apply qae) | exact HB.out))) : w.heap.size ≤ gb286)); have n3_ := Aside0.mk ((by rw [hg]; exact (qap (by repeat (first | (with_reducible first | exact HB.out | apply qaf | apply qaa | apply qae) | exact HB.out))) : w.heap.size ≤ gb286)); clear HB; have HB := n0_; have BK286 := n1_; have GW286 := n2_; have GE286 := n3_; clear n0_ n1_ n2_ n3_; clear hb hbox hg; have hcz5_0 : w4.cell? ⟨gb286, 0, none⟩ = some (.string a0_0) := (qai BK286.out 0).trans rfl; have hcz5_1 : w4.cell? ⟨gb286, 1, none⟩ = some (.int .i64 a0_1) := (qai BK286.out 1).trans rfl; have hcz5_2 : w4.cell? ⟨gb286, 2, none⟩ = some (.string a0_2) := (qai BK286.out 2).trans rfl; have hfz5_0 := qah BK286.out 0; have hfz5_1 := qah BK286.out 1; have hfz5_2 := qah BK286.out 2) | ((with_reducible refine qam (f := 21) rfl ?_); refine goesL_ (some 6) rfl rfl Tryz.func21 (by kernel_rfl) rfl #[.string a0_0] rfl (by (try simp only [List.map_toArray, List.map_cons, List.map_nil]); first | done | rfl | (simp only [List.length_drop, List.length_take]; rfl)) ?_; (with_reducible refine (keelsonref3_Name.calls k a0_0 t287 _ (by first | exact hG | exact GL.below hG (by repeat (first | (with_reducible first | exact HB.out | apply qaf | apply qaa | apply qae | refine qad ?_ GE286.out) | exact HB.out)))  A2.out).mono ?_); rintro e w' ⟨rfl, ⟨nd, rfl⟩⟩; refine ⟨_, rfl, ?_⟩))
  (try simp only [Act.put, List.setIfInBounds_toArray, List.set_cons_zero, List.set_cons_succ])
  go_cut [18] (fun v18 wc => ∃ (kq : Nat) (x18_2 : Bool), v18 = .bool x18_2 ∧ Aside0 (keelsonref3_Right.j0 kq x18_2 a0_0 a0_1 a0_2 = some r) ∧ Aside0 (kq ≤ k) ∧ Aside0 (wc.heap[gb286]? = some (.cells #[.string a0_0, .int .i64 a0_1, .string a0_2] 23 (0, 0))) ∧ Aside0 (Below w.heap.size w wc))
  case first =>
    have H := HC3.out
    clear HC3
    by_cases c6 : t287 = true
    · subst c6
      have H1 : (if a0_1 < 0 then (keelsonref3_Right.j0 k true a0_0 a0_1 a0_2) else (keelsonref3_Right.j0 k (decide (a0_1 > 5)) a0_0 a0_1 a0_2)) = some r := by rw [if_pos rfl] at H; exact H
      clear H
      have H := H1
      clear H1
      by_cases c7 : a0_1 < 0
      · rw [if_pos c7] at H
        have c7b0 : decide (a0_1 < 0) = true := decide_eq_true c7
        clear c7
        (first | rw [c7b0] | (simp only [i64_w, i32_w]; rw [c7b0]) | skip)
        have H' := Aside0.mk H
        clear H
        have hcz8_0 : w4.cell? ⟨gb286, 0, none⟩ = some (.string a0_0) := (qai BK286.out 0).trans rfl
        have hcz8_1 : w4.cell? ⟨gb286, 1, none⟩ = some (.int .i64 a0_1) := (qai BK286.out 1).trans rfl
        have hcz8_2 : w4.cell? ⟨gb286, 2, none⟩ = some (.string a0_2) := (qai BK286.out 2).trans rfl
        have hfz8_0 := qah BK286.out 0
        have hfz8_1 := qah BK286.out 1
        have hfz8_2 := qah BK286.out 2
        go_wp2
        go_meet
        case rel => exact ⟨_, (true), (by first | rfl | (simp; done) | (simp [*]; done) | (simp [qal]; done)), H', ⟨by first | omega | exact Nat.le_refl _⟩, ⟨by (with_reducible repeat (first | refine qac ?_ _ | refine qag ?_ | refine qab ?_ _)); exact BK286.out⟩, ⟨by repeat (first | (with_reducible first | exact HB.out | apply qaf | apply qaa | apply qae | refine qad ?_ GE286.out) | exact HB.out)⟩⟩
      · rw [if_neg c7] at H
        have c7b0 : decide (a0_1 < 0) = false := decide_eq_false c7
        clear c7
        (first | rw [c7b0] | (simp only [i64_w, i32_w]; rw [c7b0]) | skip)
        have H' := Aside0.mk H
        clear H
        have hcz9_0 : w4.cell? ⟨gb286, 0, none⟩ = some (.string a0_0) := (qai BK286.out 0).trans rfl
        have hcz9_1 : w4.cell? ⟨gb286, 1, none⟩ = some (.int .i64 a0_1) := (qai BK286.out 1).trans rfl
        have hcz9_2 : w4.cell? ⟨gb286, 2, none⟩ = some (.string a0_2) := (qai BK286.out 2).trans rfl
        have hfz9_0 := qah BK286.out 0
        have hfz9_1 := qah BK286.out 1
        have hfz9_2 := qah BK286.out 2
        go_wp2
        go_meet
        case rel => exact ⟨_, (decide (a0_1 > 5)), (by first | rfl | (simp; done) | (simp [*]; done) | (simp [qal]; done)), H', ⟨by first | omega | exact Nat.le_refl _⟩, ⟨by (with_reducible repeat (first | refine qac ?_ _ | refine qag ?_ | refine qab ?_ _)); exact BK286.out⟩, ⟨by repeat (first | (with_reducible first | exact HB.out | apply qaf | apply qaa | apply qae | refine qad ?_ GE286.out) | exact HB.out)⟩⟩
    · replace c6 := Bool.eq_false_iff.mpr c6
      subst c6
      have H1 : (keelsonref3_Right.j0 k true a0_0 a0_1 a0_2) = some r := by rw [if_neg (show ¬ (false = true) by decide)] at H; exact H
      clear H
      have H := H1
      clear H1
      have H' := Aside0.mk H
      clear H
      go_wp2
      go_meet
      case rel => exact ⟨_, (true), (by first | rfl | (simp; done) | (simp [*]; done) | (simp [qal]; done)), H', ⟨by first | omega | exact Nat.le_refl _⟩, ⟨by (with_reducible repeat (first | refine qac ?_ _ | refine qag ?_ | refine qab ?_ _)); exact BK286.out⟩, ⟨by repeat (first | (with_reducible first | exact HB.out | apply qaf | apply qaa | apply qae | refine qad ?_ GE286.out) | exact HB.out)⟩⟩
  case rest =>
    clear HC3
    try clear c2
    try clear p2
    try clear c6
    try clear c7
    try clear c7b0
    try clear c9
    try clear hcz5_0
    try clear hcz5_1
    try clear hcz5_2
    try clear hcz8_0
    try clear hcz8_1
    try clear hcz8_2
    try clear hcz9_0
    try clear hcz9_1
    try clear hcz9_2
    try clear hfz5_0
    try clear hfz5_1
    try clear hfz5_2
    try clear hfz8_0
    try clear hfz8_1
    try clear hfz8_2
    try clear hfz9_0
    try clear hfz9_1
    try clear hfz9_2
    obtain ⟨kq, x18_2, rfl, HA, HJ2, BK286, HB⟩ := hcut
    cases kq with
    | zero => exact absurd HA.out (by simp [keelsonref3_Right.j0])
    | succ kj2 =>
      have H := HA.out
      clear HA
      simp only [keelsonref3_Right.j0] at H
      by_cases c10 : x18_2 = true
      · subst c10
        have H1 : (some false) = some r := by rw [if_pos rfl] at H; exact H
        clear H
        have H := H1
        clear H1
        obtain rfl := Option.some.inj H
        go_wp2
        go_ret
        exact ⟨by first | rfl | (simp [qan, qao] <;> rfl) | (simp [*, qan, qao] <;> rfl), by repeat (first | (with_reducible first | exact HB.out | apply qaf | apply qaa | apply qae | refine qad ?_ GE286.out) | exact HB.out)⟩
      · replace c10 := Bool.eq_false_iff.mpr c10
        subst c10
        have H1 : (if a0_1 = 0 then (some (a0_2.toList == ([] : List UInt8))) else ((keelsonref3_plain.f kj2 a0_2).bind fun t288 => (some t288))) = some r := by rw [if_neg (show ¬ (false = true) by decide)] at H; exact H
        clear H
        have H := H1
        clear H1
        by_cases c11 : a0_1 = 0
        · rw [if_pos c11] at H
          have c11b0 : (a0_1 == 0) = true := beq_iff_eq.mpr c11
          have c11b1 : (a0_1 != 0) = false := bne_eq_false_iff_eq.mpr c11
          clear c11
          obtain rfl := Option.some.inj H
          have hcz12_0 : wc.cell? ⟨gb286, 0, none⟩ = some (.string a0_0) := (qai BK286.out 0).trans rfl
          have hcz12_1 : wc.cell? ⟨gb286, 1, none⟩ = some (.int .i64 a0_1) := (qai BK286.out 1).trans rfl
          have hcz12_2 : wc.cell? ⟨gb286, 2, none⟩ = some (.string a0_2) := (qai BK286.out 2).trans rfl
          have hfz12_0 := qah BK286.out 0
          have hfz12_1 := qah BK286.out 1
          have hfz12_2 := qah BK286.out 2
          go_wp2
          go_ret
          exact ⟨by first | rfl | (simp [qan, qao] <;> rfl) | (simp [*, qan, qao] <;> rfl), by repeat (first | (with_reducible first | exact HB.out | apply qaf | apply qaa | apply qae | refine qad ?_ GE286.out) | exact HB.out)⟩
        · rw [if_neg c11] at H
          have c11b0 : (a0_1 == 0) = false := beq_eq_false_iff_ne.mpr c11
          have c11b1 : (a0_1 != 0) = true := bne_iff_ne.mpr c11
          replace H := Option.bind_eq_some_iff.mp H
          obtain ⟨t288, A130, H⟩ := H
          replace H : (some t288) = some r := H
          have A13 := Aside0.mk A130
          clear A130
          obtain rfl := Option.some.inj H
          have hcz14_0 : wc.cell? ⟨gb286, 0, none⟩ = some (.string a0_0) := (qai BK286.out 0).trans rfl
          have hcz14_1 : wc.cell? ⟨gb286, 1, none⟩ = some (.int .i64 a0_1) := (qai BK286.out 1).trans rfl
          have hcz14_2 : wc.cell? ⟨gb286, 2, none⟩ = some (.string a0_2) := (qai BK286.out 2).trans rfl
          have hfz14_0 := qah BK286.out 0
          have hfz14_1 := qah BK286.out 1
          have hfz14_2 := qah BK286.out 2
          go_wp2_with (first | ((with_reducible refine qam (f := 23) rfl ?_); refine goesL_ (some 27) rfl rfl Tryz.func23 (by kernel_rfl) rfl #[.string a0_2] rfl (by (try simp only [List.map_toArray, List.map_cons, List.map_nil]); first | done | rfl | (simp only [List.length_drop, List.length_take]; rfl)) ?_; (with_reducible refine (keelsonref3_plain.calls kj2 a0_2 t288 _ (by first | exact hG | exact GL.below hG (by repeat (first | (with_reducible first | exact HB.out | apply qaf | apply qaa | apply qae | refine qad ?_ GE286.out) | exact HB.out)))  A13.out).mono ?_); rintro e w15 ⟨rfl, hb⟩; refine ⟨_, rfl, ?_⟩; have n0_ := Aside0.mk (qaj (g := gb286) (o := .cells #[.string a0_0, .int .i64 a0_1, .string a0_2] 23 (0, 0)) (by (with_reducible repeat (first | refine qac ?_ _ | refine qag ?_ | refine qab ?_ _)); exact BK286.out) hb); have n1_ := Aside0.mk (qak (by repeat (first | (with_reducible first | exact HB.out | apply qaf | apply qaa | apply qae | refine qad ?_ GE286.out) | exact HB.out)) hb); clear BK286; clear HB; have BK286 := n0_; have HB := n1_; clear n0_ n1_; (try clear hb); (try clear hb2); (try clear hk); (try clear hi)))
          go_ret
          exact ⟨by first | rfl | (simp [qan, qao] <;> rfl) | (simp [*, qan, qao] <;> rfl), by repeat (first | (with_reducible first | exact HB.out | apply qaf | apply qaa | apply qae | refine qad ?_ GE286.out) | exact HB.out)⟩
end Go.Proofs.YtohijjobmmibcaaGreatDoor.PA
