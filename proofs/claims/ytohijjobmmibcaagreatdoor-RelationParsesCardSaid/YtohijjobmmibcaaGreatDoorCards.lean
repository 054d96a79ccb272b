/-
  DERIVED. GIVEN WITH THE SEED: THE CARDS: each row of YtohijjobmmibcaaGreatDoorRows.lean that lists a variable, with what it lists TIED to the program's text (the seventh form; the later family's looks); each row that meets fmt, with fmt's text TOLD by the authors' own Lean function (tested against real Go, not proved from fmt's source: count such statements apart). THE CARD IS WHAT COUNTS. Prove the row's statement (the work); the ties are given (YtohijjobmmibcaaGreatDoorTie.lean); close each card by the builder's one call (the guide's Derived/Test/ToyasCard.lean, 'card_holds'). Laid BY PROGRAM, IN A SANDBOX (cutbox-door.mjs). By AI agents, Wed Nov 11 2026. No macro, syntax, notation, axiom, sorry.
-/
import Derived.Test.YtohijjobmmibcaaGreatDoorRows
import GoSem.ClaimSeven
namespace Go.Proofs.YtohijjobmmibcaaGreatDoor
namespace Rows

/-- THE TIED CARD OF 'keelsonlaw3.RelationParses'. -/
def relationParsesCard : Claim7 := { stood := { row := relationParsesRow, standIns := [], harness := (true, "18e5a45d243ccbb860d520a84b926d1d4741298fbeb38858b68b176d34457524"), looks := true }, kinds := [], alts := [], laidByText := true, laidKinds := [.data, .data, .data, .data, .sentinel, .sentinel, .pinned], laidTests := true, laidLooks := .later }
def RelationParsesCardSaid : Prop := Claim7.holds Tryz.pinned (.plain (OpenSpec.ofChange relationParsesSpec)) relationParsesCard

/-- THE SECOND FORM's CARD OF 'keelsonlaw3.RelationParses'. -/
def relationParsesUptoCard : Claim7 := { stood := { row := relationParsesUptoRow, standIns := [], harness := (true, "18e5a45d243ccbb860d520a84b926d1d4741298fbeb38858b68b176d34457524"), looks := true }, kinds := [], alts := [], laidByText := true, laidKinds := [.data, .data, .data, .data, .sentinel, .sentinel, .pinned], laidTests := true, laidLooks := .later }
def RelationParsesUptoCardSaid : Prop := Claim7.holds Tryz.pinned (.plain (OpenSpec.upto relationParsesSpec)) relationParsesUptoCard
end Rows
end Go.Proofs.YtohijjobmmibcaaGreatDoor
