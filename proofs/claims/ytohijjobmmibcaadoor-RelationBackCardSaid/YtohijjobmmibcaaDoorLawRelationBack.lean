import Derived.Test.YtohijjobmmibcaaDoorRow
import Derived.Test.YtohijjobmmibcaaDoorPAx12
import Derived.Test.YtohijjobmmibcaaDoorPureRelationBack
import Derived.Test.YtohijjobmmibcaaDoorTie
import Derived.Test.YtohijjobmmibcaaDoorCards
import Derived.SevenTiedAt
namespace Go.Proofs.YtohijjobmmibcaaDoor.relationBack
open Go.ChangeShapes Go.WideShapes Go.ChangeAt Go.RowKit
open Go.ChangeMaps (open_string shut_string)
set_option maxRecDepth 100000 in
theorem lifted (os : Os) (started : os.Started) (H : Type) (enc : TypeId × Value → H) :
    ReturnsInHanded {} Tryd.checked os 6 .any (fun w args => (Rows.relationBackSpec.pre enc Tryd.prog Tryd.f6 Rows.relationBackRow.domain false w args ∧ laidMetH Tryd.prog laidHere w) ∧ sizedMet enc Tryd.prog Tryd.f6 (OpenSpec.ofChange Rows.relationBackSpec) false w args)
      (Rows.relationBackSpec.post enc Tryd.prog Tryd.f6 false true false false) := by
  refine returnsInHanded_of_change_and_shaped (C := Tryd.checked) (X := fun w _ => laidMetH Tryd.prog laidHere w) (fun _ _ _ hh h => h.of_heap hh) own started (by kernel_rfl) Tryd.func6
    (ChangeSpec.witness_shaped (enc := enc) (C := Tryd.checked) (os := os) (X := fun w _ => laidMetH Tryd.prog laidHere w) false (World.laidAll Tryd.prog os laidHere) #[.string ByteArray.empty, .agg #[.string ByteArray.empty, .int .i64 0, .string ByteArray.empty]] 8 (World.laidAll_os _ _ _)
      (World.shaped_of_ZipB (by kernel_rfl) (by kernel_rfl)) (by kernel_rfl) (by kernel_rfl) (by kernel_rfl)
      (by rw [MakeChecks.laidMetH_plain _ _ _ (by kernel_rfl)]; exact laidMet_laidAll _ (by kernel_rfl) (by kernel_rfl))) ?_
  intro W base args ds gs before hval0 hW hcnd hsz0 hL hSh _
  have hG := GL_of hL hSh
  have hsz : (DataW.weightsEach Tryd.prog (Tryd.f6.params.toList ++ Rows.relationBackSpec.plain.varTypes Tryd.prog) (ds ++ gs)).all (· ≤ reachBytes) = true := hsz0
  have hval : ∀ (j : Nat) t v, Tryd.f6.params[j]? = some t → args[j]? = some v → Value.okWide Tryd.prog W .any base t v := hval0
  have hW' := hW
  obtain ⟨p, q, hA0, hV, rfl, hfz, hnd⟩ := hW
  have hA : DataW.TrodAll enc Tryd.prog W 0 (fun _ => true) true Tryd.f6.params.toList args.toList ds p := hA0
  rw [Tryd.params6] at hA hval hsz
  obtain ⟨v0, vs0, d0, ds0, p0, q0, hargs, rfl, rfl, h0, r0⟩ := trodAll_cons hA
  obtain ⟨v1, vs1, d1, ds1, p1, q1, rfl, rfl, rfl, h1, r1⟩ := trodAll_cons r0
  obtain ⟨rfl, rfl, rfl⟩ := trodAll_nil r1
  obtain rfl : args = #[v0, v1] := by cases args; simp_all
  obtain ⟨rfl, rfl⟩ := trodVars_none hV
  have k0 := h0
  have lt0 : ∀ x ∈ p0, x.block < W.heap.size := by obtain ⟨m, hm⟩ := k0; exact DataW.trod_lt m _ _ _ hm
  obtain ⟨a0, rfl, rfl, rfl, y0⟩ := open_string Tryd.underlying9 (hval 0 9 v0 rfl rfl) h0
  have w0 : a0.size ≤ 140737488351232 := by
    have z := sized_string hsz (j := 0) (t := 9) rfl rfl
    rw [Array.length_toList] at z
    exact z
  have k1 := h1
  have lt1 : ∀ x ∈ p1, x.block < W.heap.size := by obtain ⟨m, hm⟩ := k1; exact DataW.trod_lt m _ _ _ hm
  obtain ⟨v1_0, v1_1, v1_2, x1_0, x1_1, x1_2, m1, rfl, _, _, t1_0, t1_1, t1_2⟩ := Joins.open_agg3 Tryd.underlying26 (by kernel_rfl) (by kernel_rfl) (hval 1 26 v1 rfl rfl) h1
  obtain ⟨a1_0, e1_0, _, w1_0⟩ := DataW.trod_string Tryd.underlying9 t1_0
  obtain rfl : v1_0 = .string a1_0 := by simpa using e1_0
  obtain ⟨a1_1, e1_1, _, w1_1⟩ := DataW.trod_int Tryd.underlying3 t1_1
  obtain rfl : v1_1 = .int .i64 a1_1 := by simpa using e1_1
  obtain ⟨a1_2, e1_2, _, w1_2⟩ := DataW.trod_string Tryd.underlying9 t1_2
  obtain rfl : v1_2 = .string a1_2 := by simpa using e1_2
  clear hA0 hval0 hsz0 hsz
  obtain ⟨k, hk⟩ := Pure.RelationBack a0 a1_0 a1_1 a1_2 w0 w1_0 w1_1 w1_2
  refine (PA.keelsonlaw3_RelationBack.calls k a0 a1_0 a1_1 a1_2 true W hG  hk).mono fun e W' hpost => ?_
  obtain ⟨he, bel⟩ := hpost
  subst he
  exact ⟨_, rfl, _, _, _, [], _, [], hW', trodAll_mk1 (shut_bool Tryd.underlying4 _), (trodAll_cons_mk (Below.trod laidOut (by kernel_rfl) (of_decide_eq_true (by kernel_rfl)) k0 bel lt0) (trodAll_cons_mk (Below.trod laidOut (by kernel_rfl) (of_decide_eq_true (by kernel_rfl)) k1 bel lt1) trodAll_mk0)), rfl, bel.frame _, fun h => by cases h⟩
theorem over : Rows.relationBackRow.holds Tryd.pinned (OpenSpec.ofChange Rows.relationBackSpec) :=
  OpenClaim.holds_of_wide 6 Tryd.f6 rfl rfl rfl rfl rfl rfl rfl ⟨rfl, rfl, rfl, rfl, rfl⟩ rfl rfl rfl rfl rfl (by kernel_rfl) Tryd.func6 (by kernel_rfl)
    (of_decide_eq_true (by kernel_rfl)) (by unfold Func.isWrapper; first | (rw [if_pos (by decide +kernel)]; kernel_rfl) | (rw [if_neg (by decide +kernel)]; exact ⟨rfl, rfl⟩))
    (fun os started H enc _ => lifted os started H enc)
theorem card : Rows.RelationBackCardSaid :=
  Claim7.holds_tied_plain_at .later [] [.data, .data, .data, .data, .sentinel, .sentinel, .pinned] true (true, "563991aa43abebc4f107f76db5815970b9ac3b8c9c2f382eed6fe840dd47f877") true over (fun _ h => by cases h) (by kernel_rfl) (fun _ h => by cases h) relationBack_row_tie rfl ⟨rfl, rfl⟩ (by kernel_rfl) rfl
    (fun f fn hf hfn => by
      obtain rfl : f = 6 := Option.some.inj ((show Tryd.prog.funcNamed "keelson/keelsonlaw3.RelationBack" = some 6 by kernel_rfl).symm.trans hf) |>.symm
      obtain rfl : fn = Tryd.f6 := (Option.some.inj (Tryd.func6.symm.trans hfn)).symm
      exact ⟨by kernel_rfl, fun j t ht => by
        rw [Tryd.params6] at ht
        have hm : t ∈ [9, 26] := by simpa using Array.mem_of_getElem? ht
        have hall : ([9, 26].all fun u => !Tryd.prog.wantsStandIn u) = true := by kernel_rfl
        exact (show Tryd.prog.wantsStandIn t = false by simpa using List.all_eq_true.1 hall t hm)⟩)
    (by kernel_rfl)
#print axioms card
end Go.Proofs.YtohijjobmmibcaaDoor.relationBack
namespace Go.Proofs.YtohijjobmmibcaaDoor
theorem relationBack_holds : Rows.RelationBackCardSaid := relationBack.card
end Go.Proofs.YtohijjobmmibcaaDoor
