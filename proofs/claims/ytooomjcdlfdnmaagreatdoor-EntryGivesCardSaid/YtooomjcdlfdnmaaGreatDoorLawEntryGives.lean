import Derived.Test.YtooomjcdlfdnmaaGreatDoorLaw2EntryGives
import Derived.Test.YtooomjcdlfdnmaaGreatDoorLaw6EntryGives
namespace Go.Proofs.YtooomjcdlfdnmaaGreatDoor.entryGives
open Go.ChangeShapes Go.WideShapes Go.ChangeAt Go.RowKit
open Go.ChangeMaps (open_string shut_string)
theorem card : Rows.EntryGivesCardSaid :=
  Claim7.holds_tied_plain_at .later [] [.data, .data, .data, .data, .sentinel, .sentinel, .pinned] true (true, "aa5aea048f65e65345174dc0fcb8c85e5127c196f6322f892dc02ce8ac990515") true over (fun _ h => by cases h) wf (fun _ h => by cases h) entryGives_row_tie rfl ⟨rfl, rfl⟩ mainAt rfl
    (fun f fn hf hfn => by
      obtain rfl : f = 3 := Option.some.inj ((show Tryz.prog.funcNamed "keelson/keelsonlaw6.EntryGives" = some 3 by kernel_rfl).symm.trans hf) |>.symm
      obtain rfl : fn = Tryz.f3 := (Option.some.inj (Tryz.func3.symm.trans hfn)).symm
      exact ⟨looksAt, fun j t ht => by
        rw [Tryz.params3] at ht
        have hm : t ∈ [25, 25, 27] := by simpa using Array.mem_of_getElem? ht
        have hall : ([25, 25, 27].all fun u => !Tryz.prog.wantsStandIn u) = true := by kernel_rfl
        exact (show Tryz.prog.wantsStandIn t = false by simpa using List.all_eq_true.1 hall t hm)⟩)
    goes
#print axioms card
end Go.Proofs.YtooomjcdlfdnmaaGreatDoor.entryGives
namespace Go.Proofs.YtooomjcdlfdnmaaGreatDoor
theorem entryGives_holds : Rows.EntryGivesCardSaid := entryGives.card
end Go.Proofs.YtooomjcdlfdnmaaGreatDoor
