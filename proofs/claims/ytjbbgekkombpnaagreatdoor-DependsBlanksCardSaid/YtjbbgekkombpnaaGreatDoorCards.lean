/-
  DERIVED. GIVEN WITH THE SEED: THE CARDS: each row of YtjbbgekkombpnaaGreatDoorRows.lean that lists a variable, with what it lists TIED to the program's text (the seventh form; the later family's looks); each row that meets fmt, with fmt's text TOLD by the authors' own Lean function (tested against real Go, not proved from fmt's source: count such statements apart). THE CARD IS WHAT COUNTS. Prove the row's statement (the work); the ties are given (YtjbbgekkombpnaaGreatDoorTie.lean); close each card by the builder's one call (the guide's Derived/Test/ToyasCard.lean, 'card_holds'). Laid BY PROGRAM, IN A SANDBOX (cutbox-door.mjs). By AI agents, Wed Nov 11 2026. No macro, syntax, notation, axiom, sorry.
-/
import Derived.Test.YtjbbgekkombpnaaGreatDoorRows
import GoSem.ClaimSeven
namespace Go.Proofs.YtjbbgekkombpnaaGreatDoor
namespace Rows

/-- THE TIED CARD OF 'keelsonlaw4.DependsParses'. -/
def dependsParsesCard : Claim7 := { stood := { row := dependsParsesRow, standIns := [], harness := (true, "00701fb512792ae0fe19b6421f9bd4a6c7f399a4c8014d5fc530b223784c1de3"), looks := true }, kinds := [], alts := [], laidByText := true, laidKinds := [.data, .data, .data, .data, .sentinel, .sentinel, .pinned], laidTests := true, laidLooks := .later }
def DependsParsesCardSaid : Prop := Claim7.holds Tryz.pinned (.plain (OpenSpec.ofChange dependsParsesSpec)) dependsParsesCard

/-- THE TIED CARD OF 'keelsonlaw4.DependsBack'. -/
def dependsBackCard : Claim7 := { stood := { row := dependsBackRow, standIns := [], harness := (true, "00701fb512792ae0fe19b6421f9bd4a6c7f399a4c8014d5fc530b223784c1de3"), looks := true }, kinds := [], alts := [], laidByText := true, laidKinds := [.data, .data, .data, .data, .sentinel, .sentinel, .pinned], laidTests := true, laidLooks := .later }
def DependsBackCardSaid : Prop := Claim7.holds Tryz.pinned (.plain (OpenSpec.ofChange dependsBackSpec)) dependsBackCard

/-- THE TIED CARD OF 'keelsonlaw4.DependsBlanks'. -/
def dependsBlanksCard : Claim7 := { stood := { row := dependsBlanksRow, standIns := [], harness := (true, "00701fb512792ae0fe19b6421f9bd4a6c7f399a4c8014d5fc530b223784c1de3"), looks := true }, kinds := [], alts := [], laidByText := true, laidKinds := [.data, .data, .data, .data, .sentinel, .sentinel, .pinned], laidTests := true, laidLooks := .later }
def DependsBlanksCardSaid : Prop := Claim7.holds Tryz.pinned (.plain (OpenSpec.ofChange dependsBlanksSpec)) dependsBlanksCard

/-- THE TIED CARD OF 'keelsonlaw4.DependsMore'. -/
def dependsMoreCard : Claim7 := { stood := { row := dependsMoreRow, standIns := [], harness := (true, "00701fb512792ae0fe19b6421f9bd4a6c7f399a4c8014d5fc530b223784c1de3"), looks := true }, kinds := [], alts := [], laidByText := true, laidKinds := [.data, .data, .data, .data, .sentinel, .sentinel, .pinned], laidTests := true, laidLooks := .later }
def DependsMoreCardSaid : Prop := Claim7.holds Tryz.pinned (.plain (OpenSpec.ofChange dependsMoreSpec)) dependsMoreCard

/-- THE TIED CARD OF 'keelsonlaw4.DependsPrints'. -/
def dependsPrintsCard : Claim7 := { stood := { row := dependsPrintsRow, standIns := [], harness := (true, "00701fb512792ae0fe19b6421f9bd4a6c7f399a4c8014d5fc530b223784c1de3"), looks := true }, kinds := [], alts := [], laidByText := true, laidKinds := [.data, .data, .data, .data, .sentinel, .sentinel, .pinned], laidTests := true, laidLooks := .later }
def DependsPrintsCardSaid : Prop := Claim7.holds Tryz.pinned (.plain (OpenSpec.ofChange dependsPrintsSpec)) dependsPrintsCard

/-- THE TIED CARD OF 'keelsonlaw4.DependsJoins'. -/
def dependsJoinsCard : Claim7 := { stood := { row := dependsJoinsRow, standIns := [], harness := (true, "00701fb512792ae0fe19b6421f9bd4a6c7f399a4c8014d5fc530b223784c1de3"), looks := true }, kinds := [], alts := [], laidByText := true, laidKinds := [.data, .data, .data, .data, .sentinel, .sentinel, .pinned], laidTests := true, laidLooks := .later }
def DependsJoinsCardSaid : Prop := Claim7.holds Tryz.pinned (.plain (OpenSpec.ofChange dependsJoinsSpec)) dependsJoinsCard

/-- THE SECOND FORM's CARD OF 'keelsonlaw4.DependsParses'. -/
def dependsParsesUptoCard : Claim7 := { stood := { row := dependsParsesUptoRow, standIns := [], harness := (true, "00701fb512792ae0fe19b6421f9bd4a6c7f399a4c8014d5fc530b223784c1de3"), looks := true }, kinds := [], alts := [], laidByText := true, laidKinds := [.data, .data, .data, .data, .sentinel, .sentinel, .pinned], laidTests := true, laidLooks := .later }
def DependsParsesUptoCardSaid : Prop := Claim7.holds Tryz.pinned (.plain (OpenSpec.upto dependsParsesSpec)) dependsParsesUptoCard

/-- THE SECOND FORM's CARD OF 'keelsonlaw4.DependsBack'. -/
def dependsBackUptoCard : Claim7 := { stood := { row := dependsBackUptoRow, standIns := [], harness := (true, "00701fb512792ae0fe19b6421f9bd4a6c7f399a4c8014d5fc530b223784c1de3"), looks := true }, kinds := [], alts := [], laidByText := true, laidKinds := [.data, .data, .data, .data, .sentinel, .sentinel, .pinned], laidTests := true, laidLooks := .later }
def DependsBackUptoCardSaid : Prop := Claim7.holds Tryz.pinned (.plain (OpenSpec.upto dependsBackSpec)) dependsBackUptoCard

/-- THE SECOND FORM's CARD OF 'keelsonlaw4.DependsBlanks'. -/
def dependsBlanksUptoCard : Claim7 := { stood := { row := dependsBlanksUptoRow, standIns := [], harness := (true, "00701fb512792ae0fe19b6421f9bd4a6c7f399a4c8014d5fc530b223784c1de3"), looks := true }, kinds := [], alts := [], laidByText := true, laidKinds := [.data, .data, .data, .data, .sentinel, .sentinel, .pinned], laidTests := true, laidLooks := .later }
def DependsBlanksUptoCardSaid : Prop := Claim7.holds Tryz.pinned (.plain (OpenSpec.upto dependsBlanksSpec)) dependsBlanksUptoCard

/-- THE SECOND FORM's CARD OF 'keelsonlaw4.DependsMore'. -/
def dependsMoreUptoCard : Claim7 := { stood := { row := dependsMoreUptoRow, standIns := [], harness := (true, "00701fb512792ae0fe19b6421f9bd4a6c7f399a4c8014d5fc530b223784c1de3"), looks := true }, kinds := [], alts := [], laidByText := true, laidKinds := [.data, .data, .data, .data, .sentinel, .sentinel, .pinned], laidTests := true, laidLooks := .later }
def DependsMoreUptoCardSaid : Prop := Claim7.holds Tryz.pinned (.plain (OpenSpec.upto dependsMoreSpec)) dependsMoreUptoCard

/-- THE SECOND FORM's CARD OF 'keelsonlaw4.DependsPrints'. -/
def dependsPrintsUptoCard : Claim7 := { stood := { row := dependsPrintsUptoRow, standIns := [], harness := (true, "00701fb512792ae0fe19b6421f9bd4a6c7f399a4c8014d5fc530b223784c1de3"), looks := true }, kinds := [], alts := [], laidByText := true, laidKinds := [.data, .data, .data, .data, .sentinel, .sentinel, .pinned], laidTests := true, laidLooks := .later }
def DependsPrintsUptoCardSaid : Prop := Claim7.holds Tryz.pinned (.plain (OpenSpec.upto dependsPrintsSpec)) dependsPrintsUptoCard

/-- THE SECOND FORM's CARD OF 'keelsonlaw4.DependsJoins'. -/
def dependsJoinsUptoCard : Claim7 := { stood := { row := dependsJoinsUptoRow, standIns := [], harness := (true, "00701fb512792ae0fe19b6421f9bd4a6c7f399a4c8014d5fc530b223784c1de3"), looks := true }, kinds := [], alts := [], laidByText := true, laidKinds := [.data, .data, .data, .data, .sentinel, .sentinel, .pinned], laidTests := true, laidLooks := .later }
def DependsJoinsUptoCardSaid : Prop := Claim7.holds Tryz.pinned (.plain (OpenSpec.upto dependsJoinsSpec)) dependsJoinsUptoCard
end Rows
end Go.Proofs.YtjbbgekkombpnaaGreatDoor
