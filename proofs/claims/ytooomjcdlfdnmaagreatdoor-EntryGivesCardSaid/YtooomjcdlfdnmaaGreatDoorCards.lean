/-
  DERIVED. GIVEN WITH THE SEED: THE CARDS: each row of YtooomjcdlfdnmaaGreatDoorRows.lean that lists a variable, with what it lists TIED to the program's text (the seventh form; the later family's looks); each row that meets fmt, with fmt's text TOLD by the authors' own Lean function (tested against real Go, not proved from fmt's source: count such statements apart). THE CARD IS WHAT COUNTS. Prove the row's statement (the work); the ties are given (YtooomjcdlfdnmaaGreatDoorTie.lean); close each card by the builder's one call (the guide's Derived/Test/ToyasCard.lean, 'card_holds'). Laid BY PROGRAM, IN A SANDBOX (cutbox-door.mjs). By AI agents, Wed Nov 11 2026. No macro, syntax, notation, axiom, sorry.
-/
import Derived.Test.YtooomjcdlfdnmaaGreatDoorRows
import GoSem.ClaimSeven
namespace Go.Proofs.YtooomjcdlfdnmaaGreatDoor
namespace Rows

/-- THE TIED CARD OF 'keelsonlaw6.EntryGives'. -/
def entryGivesCard : Claim7 := { stood := { row := entryGivesRow, standIns := [], harness := (true, "aa5aea048f65e65345174dc0fcb8c85e5127c196f6322f892dc02ce8ac990515"), looks := true }, kinds := [], alts := [], laidByText := true, laidKinds := [.data, .data, .data, .data, .sentinel, .sentinel, .pinned], laidTests := true, laidLooks := .later }
def EntryGivesCardSaid : Prop := Claim7.holds Tryz.pinned (.plain (OpenSpec.ofChange entryGivesSpec)) entryGivesCard

/-- THE TIED CARD OF 'keelsonlaw6.EntryLess'. -/
def entryLessCard : Claim7 := { stood := { row := entryLessRow, standIns := [], harness := (true, "aa5aea048f65e65345174dc0fcb8c85e5127c196f6322f892dc02ce8ac990515"), looks := true }, kinds := [], alts := [], laidByText := true, laidKinds := [.data, .data, .data, .data, .sentinel, .sentinel, .pinned], laidTests := true, laidLooks := .later }
def EntryLessCardSaid : Prop := Claim7.holds Tryz.pinned (.plain (OpenSpec.ofChange entryLessSpec)) entryLessCard

/-- THE TIED CARD OF 'keelsonlaw6.EntryWrites'. -/
def entryWritesCard : Claim7 := { stood := { row := entryWritesRow, standIns := [], harness := (true, "aa5aea048f65e65345174dc0fcb8c85e5127c196f6322f892dc02ce8ac990515"), looks := true }, kinds := [], alts := [], laidByText := true, laidKinds := [.data, .data, .data, .data, .sentinel, .sentinel, .pinned], laidTests := true, laidLooks := .later }
def EntryWritesCardSaid : Prop := Claim7.holds Tryz.pinned (.plain (OpenSpec.ofChange entryWritesSpec)) entryWritesCard

/-- THE TIED CARD OF 'keelsonlaw6.EntryBack'. -/
def entryBackCard : Claim7 := { stood := { row := entryBackRow, standIns := [], harness := (true, "aa5aea048f65e65345174dc0fcb8c85e5127c196f6322f892dc02ce8ac990515"), looks := true }, kinds := [], alts := [], laidByText := true, laidKinds := [.data, .data, .data, .data, .sentinel, .sentinel, .pinned], laidTests := true, laidLooks := .later }
def EntryBackCardSaid : Prop := Claim7.holds Tryz.pinned (.plain (OpenSpec.ofChange entryBackSpec)) entryBackCard

/-- THE TIED CARD OF 'keelsonlaw7.StateParses'. -/
def stateParsesCard : Claim7 := { stood := { row := stateParsesRow, standIns := [], harness := (true, "aa5aea048f65e65345174dc0fcb8c85e5127c196f6322f892dc02ce8ac990515"), looks := true }, kinds := [], alts := [], laidByText := true, laidKinds := [.data, .data, .data, .data, .sentinel, .sentinel, .pinned], laidTests := true, laidLooks := .later }
def StateParsesCardSaid : Prop := Claim7.holds Tryz.pinned (.plain (OpenSpec.ofChange stateParsesSpec)) stateParsesCard

/-- THE TIED CARD OF 'keelsonlaw7.StateTurns'. -/
def stateTurnsCard : Claim7 := { stood := { row := stateTurnsRow, standIns := [], harness := (true, "aa5aea048f65e65345174dc0fcb8c85e5127c196f6322f892dc02ce8ac990515"), looks := true }, kinds := [], alts := [], laidByText := true, laidKinds := [.data, .data, .data, .data, .sentinel, .sentinel, .pinned], laidTests := true, laidLooks := .later }
def StateTurnsCardSaid : Prop := Claim7.holds Tryz.pinned (.plain (OpenSpec.ofChange stateTurnsSpec)) stateTurnsCard

/-- THE TIED CARD OF 'keelsonlaw7.StateTurned'. -/
def stateTurnedCard : Claim7 := { stood := { row := stateTurnedRow, standIns := [], harness := (true, "aa5aea048f65e65345174dc0fcb8c85e5127c196f6322f892dc02ce8ac990515"), looks := true }, kinds := [], alts := [], laidByText := true, laidKinds := [.data, .data, .data, .data, .sentinel, .sentinel, .pinned], laidTests := true, laidLooks := .later }
def StateTurnedCardSaid : Prop := Claim7.holds Tryz.pinned (.plain (OpenSpec.ofChange stateTurnedSpec)) stateTurnedCard

/-- THE TIED CARD OF 'keelsonlaw7.StateKeeps'. -/
def stateKeepsCard : Claim7 := { stood := { row := stateKeepsRow, standIns := [], harness := (true, "aa5aea048f65e65345174dc0fcb8c85e5127c196f6322f892dc02ce8ac990515"), looks := true }, kinds := [], alts := [], laidByText := true, laidKinds := [.data, .data, .data, .data, .sentinel, .sentinel, .pinned], laidTests := true, laidLooks := .later }
def StateKeepsCardSaid : Prop := Claim7.holds Tryz.pinned (.plain (OpenSpec.ofChange stateKeepsSpec)) stateKeepsCard

/-- THE TIED CARD OF 'keelsonlaw7.StatePrints'. -/
def statePrintsCard : Claim7 := { stood := { row := statePrintsRow, standIns := [], harness := (true, "aa5aea048f65e65345174dc0fcb8c85e5127c196f6322f892dc02ce8ac990515"), looks := true }, kinds := [], alts := [], laidByText := true, laidKinds := [.data, .data, .data, .data, .sentinel, .sentinel, .pinned], laidTests := true, laidLooks := .later }
def StatePrintsCardSaid : Prop := Claim7.holds Tryz.pinned (.plain (OpenSpec.ofChange statePrintsSpec)) statePrintsCard

/-- THE TIED CARD OF 'keelsonlaw7.StateBack'. -/
def stateBackCard : Claim7 := { stood := { row := stateBackRow, standIns := [], harness := (true, "aa5aea048f65e65345174dc0fcb8c85e5127c196f6322f892dc02ce8ac990515"), looks := true }, kinds := [], alts := [], laidByText := true, laidKinds := [.data, .data, .data, .data, .sentinel, .sentinel, .pinned], laidTests := true, laidLooks := .later }
def StateBackCardSaid : Prop := Claim7.holds Tryz.pinned (.plain (OpenSpec.ofChange stateBackSpec)) stateBackCard

/-- THE SECOND FORM's CARD OF 'keelsonlaw6.EntryGives'. -/
def entryGivesUptoCard : Claim7 := { stood := { row := entryGivesUptoRow, standIns := [], harness := (true, "aa5aea048f65e65345174dc0fcb8c85e5127c196f6322f892dc02ce8ac990515"), looks := true }, kinds := [], alts := [], laidByText := true, laidKinds := [.data, .data, .data, .data, .sentinel, .sentinel, .pinned], laidTests := true, laidLooks := .later }
def EntryGivesUptoCardSaid : Prop := Claim7.holds Tryz.pinned (.plain (OpenSpec.upto entryGivesSpec)) entryGivesUptoCard

/-- THE SECOND FORM's CARD OF 'keelsonlaw6.EntryLess'. -/
def entryLessUptoCard : Claim7 := { stood := { row := entryLessUptoRow, standIns := [], harness := (true, "aa5aea048f65e65345174dc0fcb8c85e5127c196f6322f892dc02ce8ac990515"), looks := true }, kinds := [], alts := [], laidByText := true, laidKinds := [.data, .data, .data, .data, .sentinel, .sentinel, .pinned], laidTests := true, laidLooks := .later }
def EntryLessUptoCardSaid : Prop := Claim7.holds Tryz.pinned (.plain (OpenSpec.upto entryLessSpec)) entryLessUptoCard

/-- THE SECOND FORM's CARD OF 'keelsonlaw6.EntryWrites'. -/
def entryWritesUptoCard : Claim7 := { stood := { row := entryWritesUptoRow, standIns := [], harness := (true, "aa5aea048f65e65345174dc0fcb8c85e5127c196f6322f892dc02ce8ac990515"), looks := true }, kinds := [], alts := [], laidByText := true, laidKinds := [.data, .data, .data, .data, .sentinel, .sentinel, .pinned], laidTests := true, laidLooks := .later }
def EntryWritesUptoCardSaid : Prop := Claim7.holds Tryz.pinned (.plain (OpenSpec.upto entryWritesSpec)) entryWritesUptoCard

/-- THE SECOND FORM's CARD OF 'keelsonlaw6.EntryBack'. -/
def entryBackUptoCard : Claim7 := { stood := { row := entryBackUptoRow, standIns := [], harness := (true, "aa5aea048f65e65345174dc0fcb8c85e5127c196f6322f892dc02ce8ac990515"), looks := true }, kinds := [], alts := [], laidByText := true, laidKinds := [.data, .data, .data, .data, .sentinel, .sentinel, .pinned], laidTests := true, laidLooks := .later }
def EntryBackUptoCardSaid : Prop := Claim7.holds Tryz.pinned (.plain (OpenSpec.upto entryBackSpec)) entryBackUptoCard

/-- THE SECOND FORM's CARD OF 'keelsonlaw7.StateParses'. -/
def stateParsesUptoCard : Claim7 := { stood := { row := stateParsesUptoRow, standIns := [], harness := (true, "aa5aea048f65e65345174dc0fcb8c85e5127c196f6322f892dc02ce8ac990515"), looks := true }, kinds := [], alts := [], laidByText := true, laidKinds := [.data, .data, .data, .data, .sentinel, .sentinel, .pinned], laidTests := true, laidLooks := .later }
def StateParsesUptoCardSaid : Prop := Claim7.holds Tryz.pinned (.plain (OpenSpec.upto stateParsesSpec)) stateParsesUptoCard

/-- THE SECOND FORM's CARD OF 'keelsonlaw7.StateTurns'. -/
def stateTurnsUptoCard : Claim7 := { stood := { row := stateTurnsUptoRow, standIns := [], harness := (true, "aa5aea048f65e65345174dc0fcb8c85e5127c196f6322f892dc02ce8ac990515"), looks := true }, kinds := [], alts := [], laidByText := true, laidKinds := [.data, .data, .data, .data, .sentinel, .sentinel, .pinned], laidTests := true, laidLooks := .later }
def StateTurnsUptoCardSaid : Prop := Claim7.holds Tryz.pinned (.plain (OpenSpec.upto stateTurnsSpec)) stateTurnsUptoCard

/-- THE SECOND FORM's CARD OF 'keelsonlaw7.StateTurned'. -/
def stateTurnedUptoCard : Claim7 := { stood := { row := stateTurnedUptoRow, standIns := [], harness := (true, "aa5aea048f65e65345174dc0fcb8c85e5127c196f6322f892dc02ce8ac990515"), looks := true }, kinds := [], alts := [], laidByText := true, laidKinds := [.data, .data, .data, .data, .sentinel, .sentinel, .pinned], laidTests := true, laidLooks := .later }
def StateTurnedUptoCardSaid : Prop := Claim7.holds Tryz.pinned (.plain (OpenSpec.upto stateTurnedSpec)) stateTurnedUptoCard

/-- THE SECOND FORM's CARD OF 'keelsonlaw7.StateKeeps'. -/
def stateKeepsUptoCard : Claim7 := { stood := { row := stateKeepsUptoRow, standIns := [], harness := (true, "aa5aea048f65e65345174dc0fcb8c85e5127c196f6322f892dc02ce8ac990515"), looks := true }, kinds := [], alts := [], laidByText := true, laidKinds := [.data, .data, .data, .data, .sentinel, .sentinel, .pinned], laidTests := true, laidLooks := .later }
def StateKeepsUptoCardSaid : Prop := Claim7.holds Tryz.pinned (.plain (OpenSpec.upto stateKeepsSpec)) stateKeepsUptoCard

/-- THE SECOND FORM's CARD OF 'keelsonlaw7.StatePrints'. -/
def statePrintsUptoCard : Claim7 := { stood := { row := statePrintsUptoRow, standIns := [], harness := (true, "aa5aea048f65e65345174dc0fcb8c85e5127c196f6322f892dc02ce8ac990515"), looks := true }, kinds := [], alts := [], laidByText := true, laidKinds := [.data, .data, .data, .data, .sentinel, .sentinel, .pinned], laidTests := true, laidLooks := .later }
def StatePrintsUptoCardSaid : Prop := Claim7.holds Tryz.pinned (.plain (OpenSpec.upto statePrintsSpec)) statePrintsUptoCard

/-- THE SECOND FORM's CARD OF 'keelsonlaw7.StateBack'. -/
def stateBackUptoCard : Claim7 := { stood := { row := stateBackUptoRow, standIns := [], harness := (true, "aa5aea048f65e65345174dc0fcb8c85e5127c196f6322f892dc02ce8ac990515"), looks := true }, kinds := [], alts := [], laidByText := true, laidKinds := [.data, .data, .data, .data, .sentinel, .sentinel, .pinned], laidTests := true, laidLooks := .later }
def StateBackUptoCardSaid : Prop := Claim7.holds Tryz.pinned (.plain (OpenSpec.upto stateBackSpec)) stateBackUptoCard
end Rows
end Go.Proofs.YtooomjcdlfdnmaaGreatDoor
