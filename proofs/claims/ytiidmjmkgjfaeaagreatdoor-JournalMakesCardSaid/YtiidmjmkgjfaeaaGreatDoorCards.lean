/-
  DERIVED. GIVEN WITH THE SEED: THE CARDS: each row of YtiidmjmkgjfaeaaGreatDoorRows.lean that lists a variable, with what it lists TIED to the program's text (the seventh form; the later family's looks); each row that meets fmt, with fmt's text TOLD by the authors' own Lean function (tested against real Go, not proved from fmt's source: count such statements apart). THE CARD IS WHAT COUNTS. Prove the row's statement (the work); the ties are given (YtiidmjmkgjfaeaaGreatDoorTie.lean); close each card by the builder's one call (the guide's Derived/Test/ToyasCard.lean, 'card_holds'). Laid BY PROGRAM, IN A SANDBOX (cutbox-door.mjs). By AI agents, Wed Nov 11 2026. No macro, syntax, notation, axiom, sorry.
-/
import Derived.Test.YtiidmjmkgjfaeaaGreatDoorRows
import GoSem.ClaimSeven
namespace Go.Proofs.YtiidmjmkgjfaeaaGreatDoor
namespace Rows

/-- THE TIED CARD OF 'keelsonlaw22.JournalPlans'. -/
def journalPlansCard : Claim7 := { stood := { row := journalPlansRow, standIns := [], harness := (true, "671b7b9477730ccd58d9a4015196bf24b6731c0f67c6f995195b554f7c97ca11"), looks := true }, kinds := [], alts := [], laidByText := true, laidKinds := [.data, .data, .data, .data, .sentinel, .sentinel, .pinned], laidTests := true, laidLooks := .later }
def JournalPlansCardSaid : Prop := Claim7.holds Tryz.pinned (.plain (OpenSpec.ofChange journalPlansSpec)) journalPlansCard

/-- THE TIED CARD OF 'keelsonlaw22.JournalOrders'. -/
def journalOrdersCard : Claim7 := { stood := { row := journalOrdersRow, standIns := [], harness := (true, "671b7b9477730ccd58d9a4015196bf24b6731c0f67c6f995195b554f7c97ca11"), looks := true }, kinds := [], alts := [], laidByText := true, laidKinds := [.data, .data, .data, .data, .sentinel, .sentinel, .pinned], laidTests := true, laidLooks := .later }
def JournalOrdersCardSaid : Prop := Claim7.holds Tryz.pinned (.plain (OpenSpec.ofChange journalOrdersSpec)) journalOrdersCard

/-- THE TIED CARD OF 'keelsonlaw22.JournalMakes'. -/
def journalMakesCard : Claim7 := { stood := { row := journalMakesRow, standIns := [], harness := (true, "671b7b9477730ccd58d9a4015196bf24b6731c0f67c6f995195b554f7c97ca11"), looks := true }, kinds := [], alts := [], laidByText := true, laidKinds := [.data, .data, .data, .data, .sentinel, .sentinel, .pinned], laidTests := true, laidLooks := .later }
def JournalMakesCardSaid : Prop := Claim7.holds Tryz.pinned (.plain (OpenSpec.ofChange journalMakesSpec)) journalMakesCard

/-- THE SECOND FORM's CARD OF 'keelsonlaw22.JournalPlans'. -/
def journalPlansUptoCard : Claim7 := { stood := { row := journalPlansUptoRow, standIns := [], harness := (true, "671b7b9477730ccd58d9a4015196bf24b6731c0f67c6f995195b554f7c97ca11"), looks := true }, kinds := [], alts := [], laidByText := true, laidKinds := [.data, .data, .data, .data, .sentinel, .sentinel, .pinned], laidTests := true, laidLooks := .later }
def JournalPlansUptoCardSaid : Prop := Claim7.holds Tryz.pinned (.plain (OpenSpec.upto journalPlansSpec)) journalPlansUptoCard

/-- THE SECOND FORM's CARD OF 'keelsonlaw22.JournalOrders'. -/
def journalOrdersUptoCard : Claim7 := { stood := { row := journalOrdersUptoRow, standIns := [], harness := (true, "671b7b9477730ccd58d9a4015196bf24b6731c0f67c6f995195b554f7c97ca11"), looks := true }, kinds := [], alts := [], laidByText := true, laidKinds := [.data, .data, .data, .data, .sentinel, .sentinel, .pinned], laidTests := true, laidLooks := .later }
def JournalOrdersUptoCardSaid : Prop := Claim7.holds Tryz.pinned (.plain (OpenSpec.upto journalOrdersSpec)) journalOrdersUptoCard

/-- THE SECOND FORM's CARD OF 'keelsonlaw22.JournalMakes'. -/
def journalMakesUptoCard : Claim7 := { stood := { row := journalMakesUptoRow, standIns := [], harness := (true, "671b7b9477730ccd58d9a4015196bf24b6731c0f67c6f995195b554f7c97ca11"), looks := true }, kinds := [], alts := [], laidByText := true, laidKinds := [.data, .data, .data, .data, .sentinel, .sentinel, .pinned], laidTests := true, laidLooks := .later }
def JournalMakesUptoCardSaid : Prop := Claim7.holds Tryz.pinned (.plain (OpenSpec.upto journalMakesSpec)) journalMakesUptoCard
end Rows
end Go.Proofs.YtiidmjmkgjfaeaaGreatDoor
