import Derived.Test.YtjbbgekkombpnaaGreatDoorDepRowV
import Derived.Test.YtjbbgekkombpnaaGreatDoorPAx24
import Derived.Test.YtjbbgekkombpnaaGreatDoorPureDependsMore
import Derived.Test.YtjbbgekkombpnaaGreatDoorTie
import Derived.Test.YtjbbgekkombpnaaGreatDoorCards
import Derived.SevenTiedAt
namespace Go.Proofs.YtjbbgekkombpnaaGreatDoor.dependsMore
open Go.ChangeShapes Go.WideShapes Go.ChangeAt Go.RowKit
open Go.ChangeMaps (open_string shut_string)
set_option maxRecDepth 100000 in
theorem lifted (os : Os) (started : os.Started) (H : Type) (enc : TypeId × Value → H) :
    ReturnsInHanded {} Tryz.checked os 6 .any (fun w args => (Rows.dependsMoreSpec.pre enc Tryz.prog Tryz.f6 Rows.dependsMoreRow.domain false w args ∧ laidMetH Tryz.prog laidHere w) ∧ sizedMet enc Tryz.prog Tryz.f6 (OpenSpec.ofChange Rows.dependsMoreSpec) false w args)
      (Rows.dependsMoreSpec.post enc Tryz.prog Tryz.f6 false true false false) := by
  refine returnsInHanded_of_change_and_shaped (C := Tryz.checked) (X := fun w _ => laidMetH Tryz.prog laidHere w) (fun _ _ _ hh h => h.of_heap hh) own started (by kernel_rfl) Tryz.func6
    (ChangeSpec.witness_shaped (enc := enc) (C := Tryz.checked) (os := os) (X := fun w _ => laidMetH Tryz.prog laidHere w) false (World.laidAll Tryz.prog os laidHere) #[.slice none 0 0, .slice none 0 0, .slice none 0 0, .agg #[.string ByteArray.empty, .int .i64 0, .string ByteArray.empty]] 8 (World.laidAll_os _ _ _)
      (World.shaped_of_ZipB (by kernel_rfl) (by kernel_rfl)) (by kernel_rfl) (by kernel_rfl) (by kernel_rfl)
      (by rw [MakeChecks.laidMetH_plain _ _ _ (by kernel_rfl)]; exact laidMet_laidAll _ (by kernel_rfl) (by kernel_rfl))) ?_
  intro W base args ds gs before hval0 hW hcnd hsz0 hL hSh _
  have hG := GL_of hL hSh
  have hsz : (DataW.weightsEach Tryz.prog (Tryz.f6.params.toList ++ Rows.dependsMoreSpec.plain.varTypes Tryz.prog) (ds ++ gs)).all (· ≤ reachBytes) = true := hsz0
  have hval : ∀ (j : Nat) t v, Tryz.f6.params[j]? = some t → args[j]? = some v → Value.okWide Tryz.prog W .any base t v := hval0
  have hW' := hW
  obtain ⟨p, q, hA0, hV, rfl, hfz, hnd⟩ := hW
  have hA : DataW.TrodAll enc Tryz.prog W 0 (fun _ => true) true Tryz.f6.params.toList args.toList ds p := hA0
  rw [Tryz.params6] at hA hval hsz
  obtain ⟨v0, vs0, d0, ds0, p0, q0, hargs, rfl, rfl, h0, r0⟩ := trodAll_cons hA
  obtain ⟨v1, vs1, d1, ds1, p1, q1, rfl, rfl, rfl, h1, r1⟩ := trodAll_cons r0
  obtain ⟨v2, vs2, d2, ds2, p2, q2, rfl, rfl, rfl, h2, r2⟩ := trodAll_cons r1
  obtain ⟨v3, vs3, d3, ds3, p3, q3, rfl, rfl, rfl, h3, r3⟩ := trodAll_cons r2
  obtain ⟨rfl, rfl, rfl⟩ := trodAll_nil r3
  obtain rfl : args = #[v0, v1, v2, v3] := by cases args; simp_all
  obtain ⟨rfl, rfl⟩ := trodVars_none hV
  have k0 := h0
  have lt0 : ∀ x ∈ p0, x.block < W.heap.size := by obtain ⟨m, hm⟩ := k0; exact DataW.trod_lt m _ _ _ hm
  obtain ⟨A0, c0, l0, rfl, hr0, hc0, w0⟩ := groups_of (hval 0 23 v0 rfl rfl) h0
  have k1 := h1
  have lt1 : ∀ x ∈ p1, x.block < W.heap.size := by obtain ⟨m, hm⟩ := k1; exact DataW.trod_lt m _ _ _ hm
  obtain ⟨A1, c1, l1, rfl, hr1, hc1, w1⟩ := groups_of (hval 1 23 v1 rfl rfl) h1
  have k2 := h2
  have lt2 : ∀ x ∈ p2, x.block < W.heap.size := by obtain ⟨m, hm⟩ := k2; exact DataW.trod_lt m _ _ _ hm
  obtain ⟨A2, c2, l2, rfl, hr2, hc2, w2⟩ := atoms_of (hval 2 27 v2 rfl rfl) h2
  have z2 := slice_sized hsz (j := 2) (t := 27) rfl rfl Tryz.underlying27 (e := 39) (B := 40) (by kernel_rfl) k2
  have k3 := h3
  have lt3 : ∀ x ∈ p3, x.block < W.heap.size := by obtain ⟨m, hm⟩ := k3; exact DataW.trod_lt m _ _ _ hm
  obtain ⟨v3_0, v3_1, v3_2, x3_0, x3_1, x3_2, m3, rfl, _, _, t3_0, t3_1, t3_2⟩ := Joins.open_agg3 Tryz.underlying39 (by kernel_rfl) (by kernel_rfl) (hval 3 39 v3 rfl rfl) h3
  obtain ⟨a3_0, e3_0, _, w3_0⟩ := DataW.trod_string Tryz.underlying9 t3_0
  obtain rfl : v3_0 = .string a3_0 := by simpa using e3_0
  obtain ⟨a3_1, e3_1, _, w3_1⟩ := DataW.trod_int Tryz.underlying3 t3_1
  obtain rfl : v3_1 = .int .i64 a3_1 := by simpa using e3_1
  obtain ⟨a3_2, e3_2, _, w3_2⟩ := DataW.trod_string Tryz.underlying9 t3_2
  obtain rfl : v3_2 = .string a3_2 := by simpa using e3_2
  clear hA0 hval0 hsz0 hsz
  obtain ⟨k, hk⟩ := Pure.DependsMore l0 l1 l2 a3_0 a3_1 a3_2 (by omega) w3_0 w3_1 w3_2
  refine (PA.keelsonlaw4_DependsMore.calls k _ A0 c0 l0 _ A1 c1 l1 A2 c2 l2 a3_0 a3_1 a3_2 true W hG (V_of heap_group hr0 hc0 _ _) (V_of heap_group hr1 hc1 _ _) hr2 hc2 hk).mono fun e W' hpost => ?_
  obtain ⟨he, bel⟩ := hpost
  subst he
  exact ⟨_, rfl, _, _, _, [], _, [], hW', trodAll_mk1 (shut_bool Tryz.underlying4 _), (trodAll_cons_mk (Below.trod laidOut (by kernel_rfl) (of_decide_eq_true (by kernel_rfl)) k0 bel lt0) (trodAll_cons_mk (Below.trod laidOut (by kernel_rfl) (of_decide_eq_true (by kernel_rfl)) k1 bel lt1) (trodAll_cons_mk (Below.trod laidOut (by kernel_rfl) (of_decide_eq_true (by kernel_rfl)) k2 bel lt2) (trodAll_cons_mk (Below.trod laidOut (by kernel_rfl) (of_decide_eq_true (by kernel_rfl)) k3 bel lt3) trodAll_mk0)))), rfl, bel.frame _, fun h => by cases h⟩
theorem over : Rows.dependsMoreRow.holds Tryz.pinned (OpenSpec.ofChange Rows.dependsMoreSpec) :=
  OpenClaim.holds_of_wide 6 Tryz.f6 rfl rfl rfl rfl rfl rfl rfl ⟨rfl, rfl, rfl, rfl, rfl⟩ rfl rfl rfl rfl rfl (by kernel_rfl) Tryz.func6 (by kernel_rfl)
    (of_decide_eq_true (by kernel_rfl)) (by unfold Func.isWrapper; first | (rw [if_pos (by decide +kernel)]; kernel_rfl) | (rw [if_neg (by decide +kernel)]; exact ⟨rfl, rfl⟩))
    (fun os started H enc _ => lifted os started H enc)
theorem card : Rows.DependsMoreCardSaid :=
  Claim7.holds_tied_plain_at .later [] [.data, .data, .data, .data, .sentinel, .sentinel, .pinned] true (true, "00701fb512792ae0fe19b6421f9bd4a6c7f399a4c8014d5fc530b223784c1de3") true over (fun _ h => by cases h) (by kernel_rfl) (fun _ h => by cases h) dependsMore_row_tie rfl ⟨rfl, rfl⟩ (by kernel_rfl) rfl
    (fun f fn hf hfn => by
      obtain rfl : f = 6 := Option.some.inj ((show Tryz.prog.funcNamed "keelson/keelsonlaw4.DependsMore" = some 6 by kernel_rfl).symm.trans hf) |>.symm
      obtain rfl : fn = Tryz.f6 := (Option.some.inj (Tryz.func6.symm.trans hfn)).symm
      exact ⟨by kernel_rfl, fun j t ht => by
        rw [Tryz.params6] at ht
        have hm : t ∈ [23, 23, 27, 39] := by simpa using Array.mem_of_getElem? ht
        have hall : ([23, 23, 27, 39].all fun u => !Tryz.prog.wantsStandIn u) = true := by kernel_rfl
        exact (show Tryz.prog.wantsStandIn t = false by simpa using List.all_eq_true.1 hall t hm)⟩)
    (by kernel_rfl)
#print axioms card
end Go.Proofs.YtjbbgekkombpnaaGreatDoor.dependsMore
namespace Go.Proofs.YtjbbgekkombpnaaGreatDoor
theorem dependsMore_holds : Rows.DependsMoreCardSaid := dependsMore.card
end Go.Proofs.YtjbbgekkombpnaaGreatDoor
