import Derived.Test.YtiidmjmkgjfaeaaGreatDoorLaw2JournalMakes
import Derived.Test.YtiidmjmkgjfaeaaGreatDoorLaw6JournalMakes
namespace Go.Proofs.YtiidmjmkgjfaeaaGreatDoor.journalMakes
open Go.ChangeShapes Go.WideShapes Go.ChangeAt Go.RowKit
open Go.ChangeMaps (open_string shut_string)
theorem card : Rows.JournalMakesCardSaid :=
  Claim7.holds_tied_plain_at .later [] [.data, .data, .data, .data, .sentinel, .sentinel, .pinned] true (true, "671b7b9477730ccd58d9a4015196bf24b6731c0f67c6f995195b554f7c97ca11") true over (fun _ h => by cases h) wf (fun _ h => by cases h) journalMakes_row_tie rfl ⟨rfl, rfl⟩ mainAt rfl
    (fun f fn hf hfn => by
      obtain rfl : f = 5 := Option.some.inj ((show Tryz.prog.funcNamed "keelson/keelsonlaw22.JournalMakes" = some 5 by kernel_rfl).symm.trans hf) |>.symm
      obtain rfl : fn = Tryz.f5 := (Option.some.inj (Tryz.func5.symm.trans hfn)).symm
      exact ⟨looksAt, fun j t ht => by
        rw [Tryz.params5] at ht
        have hm : t ∈ [22, 22] := by simpa using Array.mem_of_getElem? ht
        have hall : ([22, 22].all fun u => !Tryz.prog.wantsStandIn u) = true := by kernel_rfl
        exact (show Tryz.prog.wantsStandIn t = false by simpa using List.all_eq_true.1 hall t hm)⟩)
    goes
#print axioms card
end Go.Proofs.YtiidmjmkgjfaeaaGreatDoor.journalMakes
namespace Go.Proofs.YtiidmjmkgjfaeaaGreatDoor
theorem journalMakes_holds : Rows.JournalMakesCardSaid := journalMakes.card
end Go.Proofs.YtiidmjmkgjfaeaaGreatDoor
