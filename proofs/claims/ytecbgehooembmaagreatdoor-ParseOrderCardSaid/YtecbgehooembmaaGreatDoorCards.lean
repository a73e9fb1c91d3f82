/-
  DERIVED. GIVEN WITH THE SEED: THE CARDS: each row of YtecbgehooembmaaGreatDoorRows.lean that lists a variable, with what it lists TIED to the program's text (the seventh form; the later family's looks); each row that meets fmt, with fmt's text TOLD by the authors' own Lean function (tested against real Go, not proved from fmt's source: count such statements apart). THE CARD IS WHAT COUNTS. Prove the row's statement (the work); the ties are given (YtecbgehooembmaaGreatDoorTie.lean); close each card by the builder's one call (the guide's Derived/Test/ToyasCard.lean, 'card_holds'). Laid BY PROGRAM, IN A SANDBOX (cutbox-door.mjs). By AI agents, Wed Nov 11 2026. No macro, syntax, notation, axiom, sorry.
-/
import Derived.Test.YtecbgehooembmaaGreatDoorRows
import GoSem.ClaimSeven
namespace Go.Proofs.YtecbgehooembmaaGreatDoor
namespace Rows

/-- THE TIED CARD OF 'pinfoldlaw10.ParseHeads'. -/
def parseHeadsCard : Claim7 := { stood := { row := parseHeadsRow, standIns := [], harness := (true, "ba94dcd94726fcef4b649c420de00993e3ac0788f623c6461e7bacf7529dd9b9"), looks := false }, kinds := [], alts := [], laidByText := true, laidKinds := [.data, .pinned], laidTests := true, laidLooks := .later }
def ParseHeadsCardSaid : Prop := Claim7.holds Tryz.pinned (.plain (OpenSpec.ofChange parseHeadsSpec)) parseHeadsCard

/-- THE TIED CARD OF 'pinfoldlaw10.ParseLines'. -/
def parseLinesCard : Claim7 := { stood := { row := parseLinesRow, standIns := [], harness := (true, "ba94dcd94726fcef4b649c420de00993e3ac0788f623c6461e7bacf7529dd9b9"), looks := false }, kinds := [], alts := [], laidByText := true, laidKinds := [.data, .pinned], laidTests := true, laidLooks := .later }
def ParseLinesCardSaid : Prop := Claim7.holds Tryz.pinned (.plain (OpenSpec.ofChange parseLinesSpec)) parseLinesCard

/-- THE TIED CARD OF 'pinfoldlaw10.ParseOrder'. -/
def parseOrderCard : Claim7 := { stood := { row := parseOrderRow, standIns := [], harness := (true, "ba94dcd94726fcef4b649c420de00993e3ac0788f623c6461e7bacf7529dd9b9"), looks := false }, kinds := [], alts := [], laidByText := true, laidKinds := [.data, .pinned], laidTests := true, laidLooks := .later }
def ParseOrderCardSaid : Prop := Claim7.holds Tryz.pinned (.plain (OpenSpec.ofChange parseOrderSpec)) parseOrderCard

/-- THE TIED CARD OF 'pinfoldlaw10.ParseBack'. -/
def parseBackCard : Claim7 := { stood := { row := parseBackRow, standIns := [], harness := (true, "ba94dcd94726fcef4b649c420de00993e3ac0788f623c6461e7bacf7529dd9b9"), looks := false }, kinds := [], alts := [], laidByText := true, laidKinds := [.data, .pinned], laidTests := true, laidLooks := .later }
def ParseBackCardSaid : Prop := Claim7.holds Tryz.pinned (.plain (OpenSpec.ofChange parseBackSpec)) parseBackCard

/-- THE TIED CARD OF 'pinfoldlaw10.ParseAny'. -/
def parseAnyCard : Claim7 := { stood := { row := parseAnyRow, standIns := [], harness := (true, "ba94dcd94726fcef4b649c420de00993e3ac0788f623c6461e7bacf7529dd9b9"), looks := false }, kinds := [], alts := [], laidByText := true, laidKinds := [.data, .pinned], laidTests := true, laidLooks := .later }
def ParseAnyCardSaid : Prop := Claim7.holds Tryz.pinned (.plain (OpenSpec.ofChange parseAnySpec)) parseAnyCard

/-- THE SECOND FORM's CARD OF 'pinfoldlaw10.ParseHeads'. -/
def parseHeadsUptoCard : Claim7 := { stood := { row := parseHeadsUptoRow, standIns := [], harness := (true, "ba94dcd94726fcef4b649c420de00993e3ac0788f623c6461e7bacf7529dd9b9"), looks := false }, kinds := [], alts := [], laidByText := true, laidKinds := [.data, .pinned], laidTests := true, laidLooks := .later }
def ParseHeadsUptoCardSaid : Prop := Claim7.holds Tryz.pinned (.plain (OpenSpec.upto parseHeadsSpec)) parseHeadsUptoCard

/-- THE SECOND FORM's CARD OF 'pinfoldlaw10.ParseLines'. -/
def parseLinesUptoCard : Claim7 := { stood := { row := parseLinesUptoRow, standIns := [], harness := (true, "ba94dcd94726fcef4b649c420de00993e3ac0788f623c6461e7bacf7529dd9b9"), looks := false }, kinds := [], alts := [], laidByText := true, laidKinds := [.data, .pinned], laidTests := true, laidLooks := .later }
def ParseLinesUptoCardSaid : Prop := Claim7.holds Tryz.pinned (.plain (OpenSpec.upto parseLinesSpec)) parseLinesUptoCard

/-- THE SECOND FORM's CARD OF 'pinfoldlaw10.ParseOrder'. -/
def parseOrderUptoCard : Claim7 := { stood := { row := parseOrderUptoRow, standIns := [], harness := (true, "ba94dcd94726fcef4b649c420de00993e3ac0788f623c6461e7bacf7529dd9b9"), looks := false }, kinds := [], alts := [], laidByText := true, laidKinds := [.data, .pinned], laidTests := true, laidLooks := .later }
def ParseOrderUptoCardSaid : Prop := Claim7.holds Tryz.pinned (.plain (OpenSpec.upto parseOrderSpec)) parseOrderUptoCard

/-- THE SECOND FORM's CARD OF 'pinfoldlaw10.ParseBack'. -/
def parseBackUptoCard : Claim7 := { stood := { row := parseBackUptoRow, standIns := [], harness := (true, "ba94dcd94726fcef4b649c420de00993e3ac0788f623c6461e7bacf7529dd9b9"), looks := false }, kinds := [], alts := [], laidByText := true, laidKinds := [.data, .pinned], laidTests := true, laidLooks := .later }
def ParseBackUptoCardSaid : Prop := Claim7.holds Tryz.pinned (.plain (OpenSpec.upto parseBackSpec)) parseBackUptoCard

/-- THE SECOND FORM's CARD OF 'pinfoldlaw10.ParseAny'. -/
def parseAnyUptoCard : Claim7 := { stood := { row := parseAnyUptoRow, standIns := [], harness := (true, "ba94dcd94726fcef4b649c420de00993e3ac0788f623c6461e7bacf7529dd9b9"), looks := false }, kinds := [], alts := [], laidByText := true, laidKinds := [.data, .pinned], laidTests := true, laidLooks := .later }
def ParseAnyUptoCardSaid : Prop := Claim7.holds Tryz.pinned (.plain (OpenSpec.upto parseAnySpec)) parseAnyUptoCard
end Rows
end Go.Proofs.YtecbgehooembmaaGreatDoor
