/-
  DERIVED. GIVEN WITH THE SEED: THE CARDS: each row of YtohijjobmmibcaaDoorRows.lean that lists a variable, with what it lists TIED to the program's text (the seventh form; the later family's looks); each row that meets fmt, with fmt's text TOLD by the authors' own Lean function (tested against real Go, not proved from fmt's source: count such statements apart). THE CARD IS WHAT COUNTS. Prove the row's statement (the work); the ties are given (YtohijjobmmibcaaDoorTie.lean); close each card by the builder's one call (the guide's Derived/Test/ToyasCard.lean, 'card_holds'). Laid BY PROGRAM, IN A SANDBOX (cutbox-door.mjs). By AI agents, Wed Nov 11 2026. No macro, syntax, notation, axiom, sorry.
-/
import Derived.Test.YtohijjobmmibcaaDoorRows
import GoSem.ClaimSeven
namespace Go.Proofs.YtohijjobmmibcaaDoor
namespace Rows

/-- THE TIED CARD OF 'keelsonlaw3.RelationOne'. -/
def relationOneCard : Claim7 := { stood := { row := relationOneRow, standIns := [], harness := (true, "563991aa43abebc4f107f76db5815970b9ac3b8c9c2f382eed6fe840dd47f877"), looks := true }, kinds := [], alts := [], laidByText := true, laidKinds := [.data, .data, .data, .data, .sentinel, .sentinel, .pinned], laidTests := true, laidLooks := .later }
def RelationOneCardSaid : Prop := Claim7.holds Tryd.pinned (.plain (OpenSpec.ofChange relationOneSpec)) relationOneCard

/-- THE TIED CARD OF 'keelsonlaw3.RelationGives'. -/
def relationGivesCard : Claim7 := { stood := { row := relationGivesRow, standIns := [], harness := (true, "563991aa43abebc4f107f76db5815970b9ac3b8c9c2f382eed6fe840dd47f877"), looks := true }, kinds := [], alts := [], laidByText := true, laidKinds := [.data, .data, .data, .data, .sentinel, .sentinel, .pinned], laidTests := true, laidLooks := .later }
def RelationGivesCardSaid : Prop := Claim7.holds Tryd.pinned (.plain (OpenSpec.ofChange relationGivesSpec)) relationGivesCard

/-- THE TIED CARD OF 'keelsonlaw3.RelationNames'. -/
def relationNamesCard : Claim7 := { stood := { row := relationNamesRow, standIns := [], harness := (true, "563991aa43abebc4f107f76db5815970b9ac3b8c9c2f382eed6fe840dd47f877"), looks := true }, kinds := [], alts := [], laidByText := true, laidKinds := [.data, .data, .data, .data, .sentinel, .sentinel, .pinned], laidTests := true, laidLooks := .later }
def RelationNamesCardSaid : Prop := Claim7.holds Tryd.pinned (.plain (OpenSpec.ofChange relationNamesSpec)) relationNamesCard

/-- THE TIED CARD OF 'keelsonlaw3.RelationBack'. -/
def relationBackCard : Claim7 := { stood := { row := relationBackRow, standIns := [], harness := (true, "563991aa43abebc4f107f76db5815970b9ac3b8c9c2f382eed6fe840dd47f877"), looks := true }, kinds := [], alts := [], laidByText := true, laidKinds := [.data, .data, .data, .data, .sentinel, .sentinel, .pinned], laidTests := true, laidLooks := .later }
def RelationBackCardSaid : Prop := Claim7.holds Tryd.pinned (.plain (OpenSpec.ofChange relationBackSpec)) relationBackCard

/-- THE SECOND FORM's CARD OF 'keelsonlaw3.RelationOne'. -/
def relationOneUptoCard : Claim7 := { stood := { row := relationOneUptoRow, standIns := [], harness := (true, "563991aa43abebc4f107f76db5815970b9ac3b8c9c2f382eed6fe840dd47f877"), looks := true }, kinds := [], alts := [], laidByText := true, laidKinds := [.data, .data, .data, .data, .sentinel, .sentinel, .pinned], laidTests := true, laidLooks := .later }
def RelationOneUptoCardSaid : Prop := Claim7.holds Tryd.pinned (.plain (OpenSpec.upto relationOneSpec)) relationOneUptoCard

/-- THE SECOND FORM's CARD OF 'keelsonlaw3.RelationGives'. -/
def relationGivesUptoCard : Claim7 := { stood := { row := relationGivesUptoRow, standIns := [], harness := (true, "563991aa43abebc4f107f76db5815970b9ac3b8c9c2f382eed6fe840dd47f877"), looks := true }, kinds := [], alts := [], laidByText := true, laidKinds := [.data, .data, .data, .data, .sentinel, .sentinel, .pinned], laidTests := true, laidLooks := .later }
def RelationGivesUptoCardSaid : Prop := Claim7.holds Tryd.pinned (.plain (OpenSpec.upto relationGivesSpec)) relationGivesUptoCard

/-- THE SECOND FORM's CARD OF 'keelsonlaw3.RelationNames'. -/
def relationNamesUptoCard : Claim7 := { stood := { row := relationNamesUptoRow, standIns := [], harness := (true, "563991aa43abebc4f107f76db5815970b9ac3b8c9c2f382eed6fe840dd47f877"), looks := true }, kinds := [], alts := [], laidByText := true, laidKinds := [.data, .data, .data, .data, .sentinel, .sentinel, .pinned], laidTests := true, laidLooks := .later }
def RelationNamesUptoCardSaid : Prop := Claim7.holds Tryd.pinned (.plain (OpenSpec.upto relationNamesSpec)) relationNamesUptoCard

/-- THE SECOND FORM's CARD OF 'keelsonlaw3.RelationBack'. -/
def relationBackUptoCard : Claim7 := { stood := { row := relationBackUptoRow, standIns := [], harness := (true, "563991aa43abebc4f107f76db5815970b9ac3b8c9c2f382eed6fe840dd47f877"), looks := true }, kinds := [], alts := [], laidByText := true, laidKinds := [.data, .data, .data, .data, .sentinel, .sentinel, .pinned], laidTests := true, laidLooks := .later }
def RelationBackUptoCardSaid : Prop := Claim7.holds Tryd.pinned (.plain (OpenSpec.upto relationBackSpec)) relationBackUptoCard
end Rows
end Go.Proofs.YtohijjobmmibcaaDoor
