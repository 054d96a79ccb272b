import Derived.Test.YtooomjcdlfdnmaaGreatDoorLaw2EntryLess
import Derived.Test.YtooomjcdlfdnmaaGreatDoorLaw6EntryLess
namespace Go.Proofs.YtooomjcdlfdnmaaGreatDoor.entryLess
open Go.ChangeShapes Go.WideShapes Go.ChangeAt Go.RowKit
open Go.ChangeMaps (open_string shut_string)
theorem card : Rows.EntryLessCardSaid :=
  Claim7.holds_tied_plain_at .later [] [.data, .data, .data, .data, .sentinel, .sentinel, .pinned] true (true, "aa5aea048f65e65345174dc0fcb8c85e5127c196f6322f892dc02ce8ac990515") true over (fun _ h => by cases h) wf (fun _ h => by cases h) entryLess_row_tie rfl ⟨rfl, rfl⟩ mainAt rfl
    (fun f fn hf hfn => by
      obtain rfl : f = 4 := Option.some.inj ((show Tryz.prog.funcNamed "keelson/keelsonlaw6.EntryLess" = some 4 by kernel_rfl).symm.trans hf) |>.symm
      obtain rfl : fn = Tryz.f4 := (Option.some.inj (Tryz.func4.symm.trans hfn)).symm
      exact ⟨looksAt, fun j t ht => by
        rw [Tryz.params4] at ht
        have hm : t ∈ [25, 25, 25] := by simpa using Array.mem_of_getElem? ht
        have hall : ([25, 25, 25].all fun u => !Tryz.prog.wantsStandIn u) = true := by kernel_rfl
        exact (show Tryz.prog.wantsStandIn t = false by simpa using List.all_eq_true.1 hall t hm)⟩)
    goes
#print axioms card
end Go.Proofs.YtooomjcdlfdnmaaGreatDoor.entryLess
namespace Go.Proofs.YtooomjcdlfdnmaaGreatDoor
theorem entryLess_holds : Rows.EntryLessCardSaid := entryLess.card
end Go.Proofs.YtooomjcdlfdnmaaGreatDoor
