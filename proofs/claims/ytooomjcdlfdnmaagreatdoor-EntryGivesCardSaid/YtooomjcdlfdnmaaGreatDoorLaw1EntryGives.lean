import Derived.Test.YtooomjcdlfdnmaaGreatDoorEntRow
import Derived.Test.YtooomjcdlfdnmaaGreatDoorEntLawGives
import Derived.Test.YtooomjcdlfdnmaaGreatDoorTie
import Derived.Test.YtooomjcdlfdnmaaGreatDoorCards
import Derived.SevenTiedAt
namespace Go.Proofs.YtooomjcdlfdnmaaGreatDoor.entryGives
open Go.ChangeShapes Go.WideShapes Go.ChangeAt Go.RowKit
open Go.ChangeMaps (open_string shut_string)
set_option maxRecDepth 100000 in
theorem lifted (os : Os) (started : os.Started) (H : Type) (enc : TypeId × Value → H) :
    ReturnsInHanded {} Tryz.checked os 3 .any (fun w args => (Rows.entryGivesSpec.pre enc Tryz.prog Tryz.f3 Rows.entryGivesRow.domain false w args ∧ laidMetH Tryz.prog laidHere w) ∧ sizedMet enc Tryz.prog Tryz.f3 (OpenSpec.ofChange Rows.entryGivesSpec) false w args)
      (Rows.entryGivesSpec.post enc Tryz.prog Tryz.f3 false true false false) := by
  refine returnsInHanded_of_change_and_shaped (C := Tryz.checked) (X := fun w _ => laidMetH Tryz.prog laidHere w) (fun _ _ _ hh h => h.of_heap hh) own started (by kernel_rfl) Tryz.func3
    (ChangeSpec.witness_shaped (enc := enc) (C := Tryz.checked) (os := os) (X := fun w _ => laidMetH Tryz.prog laidHere w) false (World.laidAll Tryz.prog os laidHere) #[.agg #[.string ByteArray.empty, .string ByteArray.empty, .slice none 0 0, .slice none 0 0, .slice none 0 0, .slice none 0 0], .agg #[.string ByteArray.empty, .string ByteArray.empty, .slice none 0 0, .slice none 0 0, .slice none 0 0, .slice none 0 0], .agg #[.string ByteArray.empty, .int .i64 0, .string ByteArray.empty]] 8 (World.laidAll_os _ _ _)
      (World.shaped_of_ZipB (by kernel_rfl) (by kernel_rfl)) (by kernel_rfl) (by kernel_rfl) (by kernel_rfl)
      (by rw [MakeChecks.laidMetH_plain _ _ _ (by kernel_rfl)]; exact laidMet_laidAll _ (by kernel_rfl) (by kernel_rfl))) ?_
  intro W base args ds gs before hval0 hW hcnd hsz0 hL hSh _
  have hG := GL_of hL hSh
  have hsz : (DataW.weightsEach Tryz.prog (Tryz.f3.params.toList ++ Rows.entryGivesSpec.plain.varTypes Tryz.prog) (ds ++ gs)).all (· ≤ reachBytes) = true := hsz0
  have hval : ∀ (j : Nat) t v, Tryz.f3.params[j]? = some t → args[j]? = some v → Value.okWide Tryz.prog W .any base t v := hval0
  have hW' := hW
  obtain ⟨p, q, hA0, hV, rfl, hfz, hnd⟩ := hW
  have hA : DataW.TrodAll enc Tryz.prog W 0 (fun _ => true) true Tryz.f3.params.toList args.toList ds p := hA0
  rw [Tryz.params3] at hA hval hsz
  obtain ⟨v0, vs0, d0, ds0, p0, q0, hargs, rfl, rfl, h0, r0⟩ := trodAll_cons hA
  obtain ⟨v1, vs1, d1, ds1, p1, q1, rfl, rfl, rfl, h1, r1⟩ := trodAll_cons r0
  obtain ⟨v2, vs2, d2, ds2, p2, q2, rfl, rfl, rfl, h2, r2⟩ := trodAll_cons r1
  obtain ⟨rfl, rfl, rfl⟩ := trodAll_nil r2
  obtain rfl : args = #[v0, v1, v2] := by cases args; simp_all
  obtain ⟨rfl, rfl⟩ := trodVars_none hV
  have k0 := h0
  have lt0 : ∀ x ∈ p0, x.block < W.heap.size := by obtain ⟨m, hm⟩ := k0; exact DataW.trod_lt m _ _ _ hm
  obtain ⟨e0, a0, rfl, y0⟩ := Ent.entry_of (hval 0 25 v0 rfl rfl) h0
  have k1 := h1
  have lt1 : ∀ x ∈ p1, x.block < W.heap.size := by obtain ⟨m, hm⟩ := k1; exact DataW.trod_lt m _ _ _ hm
  obtain ⟨e1, a1, rfl, y1⟩ := Ent.entry_of (hval 1 25 v1 rfl rfl) h1
  have k2 := h2
  have lt2 : ∀ x ∈ p2, x.block < W.heap.size := by obtain ⟨m, hm⟩ := k2; exact DataW.trod_lt m _ _ _ hm
  obtain ⟨v2_0, v2_1, v2_2, x2_0, x2_1, x2_2, m2, rfl, _, _, t2_0, t2_1, t2_2⟩ := Joins.open_agg3 Tryz.underlying27 (by kernel_rfl) (by kernel_rfl) (hval 2 27 v2 rfl rfl) h2
  obtain ⟨a2_0, e2_0, _, w2_0⟩ := DataW.trod_string Tryz.underlying9 t2_0
  obtain rfl : v2_0 = .string a2_0 := by simpa using e2_0
  obtain ⟨a2_1, e2_1, _, w2_1⟩ := DataW.trod_int Tryz.underlying3 t2_1
  obtain rfl : v2_1 = .int .i64 a2_1 := by simpa using e2_1
  obtain ⟨a2_2, e2_2, _, w2_2⟩ := DataW.trod_string Tryz.underlying9 t2_2
  obtain rfl : v2_2 = .string a2_2 := by simpa using e2_2
  clear hA0 hval0 hsz0 hsz
  refine (Ent.law_gives hG y0 y1).mono fun e W' hpost => ?_
  obtain ⟨he, bel⟩ := hpost
  subst he
  exact ⟨_, rfl, _, _, _, [], _, [], hW', trodAll_mk1 (shut_bool Tryz.underlying4 _), (trodAll_cons_mk (Below.trod laidOut (by kernel_rfl) (of_decide_eq_true (by kernel_rfl)) k0 bel lt0) (trodAll_cons_mk (Below.trod laidOut (by kernel_rfl) (of_decide_eq_true (by kernel_rfl)) k1 bel lt1) (trodAll_cons_mk (Below.trod laidOut (by kernel_rfl) (of_decide_eq_true (by kernel_rfl)) k2 bel lt2) trodAll_mk0))), rfl, bel.frame _, fun h => by cases h⟩
end Go.Proofs.YtooomjcdlfdnmaaGreatDoor.entryGives
