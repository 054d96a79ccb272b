/-
  DERIVED. GIVEN WITH THE SEED: THE CARDS: each row of YtpjhaaifgiicoaaDoorRows.lean that lists a variable, with what it lists TIED to the program's text (the seventh form; the later family's looks); each row that meets fmt, with fmt's text TOLD by the authors' own Lean function (tested against real Go, not proved from fmt's source: count such statements apart). THE CARD IS WHAT COUNTS. Prove the row's statement (the work); the ties are given (YtpjhaaifgiicoaaDoorTie.lean); close each card by the builder's one call (the guide's Derived/Test/ToyasCard.lean, 'card_holds'). Laid BY PROGRAM, IN A SANDBOX (cutbox-door.mjs). By AI agents, Wed Nov 11 2026. No macro, syntax, notation, axiom, sorry.
-/
import Derived.Test.YtpjhaaifgiicoaaDoorRows
import GoSem.ClaimSeven
namespace Go.Proofs.YtpjhaaifgiicoaaDoor
namespace Rows

/-- THE TIED CARD OF 'keelsonlaw2.VersionEnds'. -/
def versionEndsCard : Claim7 := { stood := { row := versionEndsRow, standIns := [], harness := (true, "539f95f1b1615ddc1cd194a50331830863b018266d6623248a479116ef44766a"), looks := true }, kinds := [], alts := [], laidByText := true, laidKinds := [.data, .data, .data, .data, .sentinel, .sentinel, .pinned], laidTests := true, laidLooks := .later }
def VersionEndsCardSaid : Prop := Claim7.holds Tryd.pinned (.plain (OpenSpec.ofChange versionEndsSpec)) versionEndsCard

/-- THE TIED CARD OF 'keelsonlaw2.VersionParses'. -/
def versionParsesCard : Claim7 := { stood := { row := versionParsesRow, standIns := [], harness := (true, "539f95f1b1615ddc1cd194a50331830863b018266d6623248a479116ef44766a"), looks := true }, kinds := [], alts := [], laidByText := true, laidKinds := [.data, .data, .data, .data, .sentinel, .sentinel, .pinned], laidTests := true, laidLooks := .later }
def VersionParsesCardSaid : Prop := Claim7.holds Tryd.pinned (.plain (OpenSpec.ofChange versionParsesSpec)) versionParsesCard

/-- THE TIED CARD OF 'keelsonlaw2.VersionBack'. -/
def versionBackCard : Claim7 := { stood := { row := versionBackRow, standIns := [], harness := (true, "539f95f1b1615ddc1cd194a50331830863b018266d6623248a479116ef44766a"), looks := true }, kinds := [], alts := [], laidByText := true, laidKinds := [.data, .data, .data, .data, .sentinel, .sentinel, .pinned], laidTests := true, laidLooks := .later }
def VersionBackCardSaid : Prop := Claim7.holds Tryd.pinned (.plain (OpenSpec.ofChange versionBackSpec)) versionBackCard

/-- THE TIED CARD OF 'keelsonlaw2.VersionOrders'. -/
def versionOrdersCard : Claim7 := { stood := { row := versionOrdersRow, standIns := [], harness := (true, "539f95f1b1615ddc1cd194a50331830863b018266d6623248a479116ef44766a"), looks := true }, kinds := [], alts := [], laidByText := true, laidKinds := [.data, .data, .data, .data, .sentinel, .sentinel, .pinned], laidTests := true, laidLooks := .later }
def VersionOrdersCardSaid : Prop := Claim7.holds Tryd.pinned (.plain (OpenSpec.ofChange versionOrdersSpec)) versionOrdersCard

/-- THE TIED CARD OF 'keelsonlaw2.VersionNewest'. -/
def versionNewestCard : Claim7 := { stood := { row := versionNewestRow, standIns := [], harness := (true, "539f95f1b1615ddc1cd194a50331830863b018266d6623248a479116ef44766a"), looks := true }, kinds := [], alts := [], laidByText := true, laidKinds := [.data, .data, .data, .data, .sentinel, .sentinel, .pinned], laidTests := true, laidLooks := .later }
def VersionNewestCardSaid : Prop := Claim7.holds Tryd.pinned (.plain (OpenSpec.ofChange versionNewestSpec)) versionNewestCard

/-- THE SECOND FORM's CARD OF 'keelsonlaw2.VersionEnds'. -/
def versionEndsUptoCard : Claim7 := { stood := { row := versionEndsUptoRow, standIns := [], harness := (true, "539f95f1b1615ddc1cd194a50331830863b018266d6623248a479116ef44766a"), looks := true }, kinds := [], alts := [], laidByText := true, laidKinds := [.data, .data, .data, .data, .sentinel, .sentinel, .pinned], laidTests := true, laidLooks := .later }
def VersionEndsUptoCardSaid : Prop := Claim7.holds Tryd.pinned (.plain (OpenSpec.upto versionEndsSpec)) versionEndsUptoCard

/-- THE SECOND FORM's CARD OF 'keelsonlaw2.VersionParses'. -/
def versionParsesUptoCard : Claim7 := { stood := { row := versionParsesUptoRow, standIns := [], harness := (true, "539f95f1b1615ddc1cd194a50331830863b018266d6623248a479116ef44766a"), looks := true }, kinds := [], alts := [], laidByText := true, laidKinds := [.data, .data, .data, .data, .sentinel, .sentinel, .pinned], laidTests := true, laidLooks := .later }
def VersionParsesUptoCardSaid : Prop := Claim7.holds Tryd.pinned (.plain (OpenSpec.upto versionParsesSpec)) versionParsesUptoCard

/-- THE SECOND FORM's CARD OF 'keelsonlaw2.VersionBack'. -/
def versionBackUptoCard : Claim7 := { stood := { row := versionBackUptoRow, standIns := [], harness := (true, "539f95f1b1615ddc1cd194a50331830863b018266d6623248a479116ef44766a"), looks := true }, kinds := [], alts := [], laidByText := true, laidKinds := [.data, .data, .data, .data, .sentinel, .sentinel, .pinned], laidTests := true, laidLooks := .later }
def VersionBackUptoCardSaid : Prop := Claim7.holds Tryd.pinned (.plain (OpenSpec.upto versionBackSpec)) versionBackUptoCard

/-- THE SECOND FORM's CARD OF 'keelsonlaw2.VersionOrders'. -/
def versionOrdersUptoCard : Claim7 := { stood := { row := versionOrdersUptoRow, standIns := [], harness := (true, "539f95f1b1615ddc1cd194a50331830863b018266d6623248a479116ef44766a"), looks := true }, kinds := [], alts := [], laidByText := true, laidKinds := [.data, .data, .data, .data, .sentinel, .sentinel, .pinned], laidTests := true, laidLooks := .later }
def VersionOrdersUptoCardSaid : Prop := Claim7.holds Tryd.pinned (.plain (OpenSpec.upto versionOrdersSpec)) versionOrdersUptoCard

/-- THE SECOND FORM's CARD OF 'keelsonlaw2.VersionNewest'. -/
def versionNewestUptoCard : Claim7 := { stood := { row := versionNewestUptoRow, standIns := [], harness := (true, "539f95f1b1615ddc1cd194a50331830863b018266d6623248a479116ef44766a"), looks := true }, kinds := [], alts := [], laidByText := true, laidKinds := [.data, .data, .data, .data, .sentinel, .sentinel, .pinned], laidTests := true, laidLooks := .later }
def VersionNewestUptoCardSaid : Prop := Claim7.holds Tryd.pinned (.plain (OpenSpec.upto versionNewestSpec)) versionNewestUptoCard
end Rows
end Go.Proofs.YtpjhaaifgiicoaaDoor
