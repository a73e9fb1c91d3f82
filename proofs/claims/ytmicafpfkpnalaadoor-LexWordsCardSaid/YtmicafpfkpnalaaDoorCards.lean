/-
  DERIVED. GIVEN WITH THE SEED: THE CARDS: each row of YtmicafpfkpnalaaDoorRows.lean that lists a variable, with what it lists TIED to the program's text (the seventh form; the later family's looks); each row that meets fmt, with fmt's text TOLD by the authors' own Lean function (tested against real Go, not proved from fmt's source: count such statements apart). THE CARD IS WHAT COUNTS. Prove the row's statement (the work); the ties are given (YtmicafpfkpnalaaDoorTie.lean); close each card by the builder's one call (the guide's Derived/Test/ToyasCard.lean, 'card_holds'). Laid BY PROGRAM, IN A SANDBOX (cutbox-door.mjs). By AI agents, Wed Nov 11 2026. No macro, syntax, notation, axiom, sorry.
-/
import Derived.Test.YtmicafpfkpnalaaDoorRows
import GoSem.ClaimSeven
namespace Go.Proofs.YtmicafpfkpnalaaDoor
namespace Rows

/-- THE TIED CARD OF 'pinfoldlaw07.AsmNumbers'. -/
def asmNumbersCard : Claim7 := { stood := { row := asmNumbersRow, standIns := [], harness := (true, "8d9d0d04277255d2e672ba218646a938bf1bb4d996e09ed5d2c50bc71d46cc38"), looks := false }, kinds := [], alts := [], laidByText := true, laidKinds := [.data, .listed, .data, .pinned], laidTests := true, laidLooks := .later }
def AsmNumbersCardSaid : Prop := Claim7.holds Tryd.pinned (.plain (OpenSpec.ofChange asmNumbersSpec)) asmNumbersCard

/-- THE TIED CARD OF 'pinfoldlaw07.AsmLines'. -/
def asmLinesCard : Claim7 := { stood := { row := asmLinesRow, standIns := [], harness := (true, "8d9d0d04277255d2e672ba218646a938bf1bb4d996e09ed5d2c50bc71d46cc38"), looks := false }, kinds := [], alts := [], laidByText := true, laidKinds := [.data, .listed, .data, .pinned], laidTests := true, laidLooks := .later }
def AsmLinesCardSaid : Prop := Claim7.holds Tryd.pinned (.plain (OpenSpec.ofChange asmLinesSpec)) asmLinesCard

/-- THE TIED CARD OF 'pinfoldlaw07.AsmMany'. -/
def asmManyCard : Claim7 := { stood := { row := asmManyRow, standIns := [], harness := (true, "8d9d0d04277255d2e672ba218646a938bf1bb4d996e09ed5d2c50bc71d46cc38"), looks := false }, kinds := [], alts := [], laidByText := true, laidKinds := [.data, .listed, .data, .pinned], laidTests := true, laidLooks := .later }
def AsmManyCardSaid : Prop := Claim7.holds Tryd.pinned (.plain (OpenSpec.ofChange asmManySpec)) asmManyCard

/-- THE TIED CARD OF 'pinfoldlaw07.AsmBack'. -/
def asmBackCard : Claim7 := { stood := { row := asmBackRow, standIns := [], harness := (true, "8d9d0d04277255d2e672ba218646a938bf1bb4d996e09ed5d2c50bc71d46cc38"), looks := false }, kinds := [], alts := [], laidByText := true, laidKinds := [.data, .listed, .data, .pinned], laidTests := true, laidLooks := .later }
def AsmBackCardSaid : Prop := Claim7.holds Tryd.pinned (.plain (OpenSpec.ofChange asmBackSpec)) asmBackCard

/-- THE TIED CARD OF 'pinfoldlaw07.AsmLists'. -/
def asmListsCard : Claim7 := { stood := { row := asmListsRow, standIns := [], harness := (true, "8d9d0d04277255d2e672ba218646a938bf1bb4d996e09ed5d2c50bc71d46cc38"), looks := false }, kinds := [], alts := [], laidByText := true, laidKinds := [.data, .listed, .data, .pinned], laidTests := true, laidLooks := .later }
def AsmListsCardSaid : Prop := Claim7.holds Tryd.pinned (.plain (OpenSpec.ofChange asmListsSpec)) asmListsCard

/-- THE TIED CARD OF 'pinfoldlaw08.LexWords'. -/
def lexWordsCard : Claim7 := { stood := { row := lexWordsRow, standIns := [], harness := (true, "8d9d0d04277255d2e672ba218646a938bf1bb4d996e09ed5d2c50bc71d46cc38"), looks := false }, kinds := [], alts := [], laidByText := true, laidKinds := [.data, .pinned], laidTests := true, laidLooks := .later }
def LexWordsCardSaid : Prop := Claim7.holds Tryd.pinned (.plain (OpenSpec.ofChange lexWordsSpec)) lexWordsCard

/-- THE TIED CARD OF 'pinfoldlaw08.LexAny'. -/
def lexAnyCard : Claim7 := { stood := { row := lexAnyRow, standIns := [], harness := (true, "8d9d0d04277255d2e672ba218646a938bf1bb4d996e09ed5d2c50bc71d46cc38"), looks := false }, kinds := [], alts := [], laidByText := true, laidKinds := [.data, .pinned], laidTests := true, laidLooks := .later }
def LexAnyCardSaid : Prop := Claim7.holds Tryd.pinned (.plain (OpenSpec.ofChange lexAnySpec)) lexAnyCard

/-- THE TIED CARD OF 'pinfoldlaw08.LexBlanks'. -/
def lexBlanksCard : Claim7 := { stood := { row := lexBlanksRow, standIns := [], harness := (true, "8d9d0d04277255d2e672ba218646a938bf1bb4d996e09ed5d2c50bc71d46cc38"), looks := false }, kinds := [], alts := [], laidByText := true, laidKinds := [.data, .pinned], laidTests := true, laidLooks := .later }
def LexBlanksCardSaid : Prop := Claim7.holds Tryd.pinned (.plain (OpenSpec.ofChange lexBlanksSpec)) lexBlanksCard

/-- THE TIED CARD OF 'pinfoldlaw08.LexLimits'. -/
def lexLimitsCard : Claim7 := { stood := { row := lexLimitsRow, standIns := [], harness := (true, "8d9d0d04277255d2e672ba218646a938bf1bb4d996e09ed5d2c50bc71d46cc38"), looks := false }, kinds := [], alts := [], laidByText := true, laidKinds := [.data, .pinned], laidTests := true, laidLooks := .later }
def LexLimitsCardSaid : Prop := Claim7.holds Tryd.pinned (.plain (OpenSpec.ofChange lexLimitsSpec)) lexLimitsCard

/-- THE TIED CARD OF 'pinfoldlaw09.PolicyChecks'. -/
def policyChecksCard : Claim7 := { stood := { row := policyChecksRow, standIns := [], harness := (true, "8d9d0d04277255d2e672ba218646a938bf1bb4d996e09ed5d2c50bc71d46cc38"), looks := false }, kinds := [], alts := [], laidByText := true, laidKinds := [.data, .pinned], laidTests := true, laidLooks := .later }
def PolicyChecksCardSaid : Prop := Claim7.holds Tryd.pinned (.plain (OpenSpec.ofChange policyChecksSpec)) policyChecksCard

/-- THE SECOND FORM's CARD OF 'pinfoldlaw07.AsmNumbers'. -/
def asmNumbersUptoCard : Claim7 := { stood := { row := asmNumbersUptoRow, standIns := [], harness := (true, "8d9d0d04277255d2e672ba218646a938bf1bb4d996e09ed5d2c50bc71d46cc38"), looks := false }, kinds := [], alts := [], laidByText := true, laidKinds := [.data, .listed, .data, .pinned], laidTests := true, laidLooks := .later }
def AsmNumbersUptoCardSaid : Prop := Claim7.holds Tryd.pinned (.plain (OpenSpec.upto asmNumbersSpec)) asmNumbersUptoCard

/-- THE SECOND FORM's CARD OF 'pinfoldlaw07.AsmLines'. -/
def asmLinesUptoCard : Claim7 := { stood := { row := asmLinesUptoRow, standIns := [], harness := (true, "8d9d0d04277255d2e672ba218646a938bf1bb4d996e09ed5d2c50bc71d46cc38"), looks := false }, kinds := [], alts := [], laidByText := true, laidKinds := [.data, .listed, .data, .pinned], laidTests := true, laidLooks := .later }
def AsmLinesUptoCardSaid : Prop := Claim7.holds Tryd.pinned (.plain (OpenSpec.upto asmLinesSpec)) asmLinesUptoCard

/-- THE SECOND FORM's CARD OF 'pinfoldlaw07.AsmMany'. -/
def asmManyUptoCard : Claim7 := { stood := { row := asmManyUptoRow, standIns := [], harness := (true, "8d9d0d04277255d2e672ba218646a938bf1bb4d996e09ed5d2c50bc71d46cc38"), looks := false }, kinds := [], alts := [], laidByText := true, laidKinds := [.data, .listed, .data, .pinned], laidTests := true, laidLooks := .later }
def AsmManyUptoCardSaid : Prop := Claim7.holds Tryd.pinned (.plain (OpenSpec.upto asmManySpec)) asmManyUptoCard

/-- THE SECOND FORM's CARD OF 'pinfoldlaw07.AsmBack'. -/
def asmBackUptoCard : Claim7 := { stood := { row := asmBackUptoRow, standIns := [], harness := (true, "8d9d0d04277255d2e672ba218646a938bf1bb4d996e09ed5d2c50bc71d46cc38"), looks := false }, kinds := [], alts := [], laidByText := true, laidKinds := [.data, .listed, .data, .pinned], laidTests := true, laidLooks := .later }
def AsmBackUptoCardSaid : Prop := Claim7.holds Tryd.pinned (.plain (OpenSpec.upto asmBackSpec)) asmBackUptoCard

/-- THE SECOND FORM's CARD OF 'pinfoldlaw07.AsmLists'. -/
def asmListsUptoCard : Claim7 := { stood := { row := asmListsUptoRow, standIns := [], harness := (true, "8d9d0d04277255d2e672ba218646a938bf1bb4d996e09ed5d2c50bc71d46cc38"), looks := false }, kinds := [], alts := [], laidByText := true, laidKinds := [.data, .listed, .data, .pinned], laidTests := true, laidLooks := .later }
def AsmListsUptoCardSaid : Prop := Claim7.holds Tryd.pinned (.plain (OpenSpec.upto asmListsSpec)) asmListsUptoCard

/-- THE SECOND FORM's CARD OF 'pinfoldlaw08.LexWords'. -/
def lexWordsUptoCard : Claim7 := { stood := { row := lexWordsUptoRow, standIns := [], harness := (true, "8d9d0d04277255d2e672ba218646a938bf1bb4d996e09ed5d2c50bc71d46cc38"), looks := false }, kinds := [], alts := [], laidByText := true, laidKinds := [.data, .pinned], laidTests := true, laidLooks := .later }
def LexWordsUptoCardSaid : Prop := Claim7.holds Tryd.pinned (.plain (OpenSpec.upto lexWordsSpec)) lexWordsUptoCard

/-- THE SECOND FORM's CARD OF 'pinfoldlaw08.LexAny'. -/
def lexAnyUptoCard : Claim7 := { stood := { row := lexAnyUptoRow, standIns := [], harness := (true, "8d9d0d04277255d2e672ba218646a938bf1bb4d996e09ed5d2c50bc71d46cc38"), looks := false }, kinds := [], alts := [], laidByText := true, laidKinds := [.data, .pinned], laidTests := true, laidLooks := .later }
def LexAnyUptoCardSaid : Prop := Claim7.holds Tryd.pinned (.plain (OpenSpec.upto lexAnySpec)) lexAnyUptoCard

/-- THE SECOND FORM's CARD OF 'pinfoldlaw08.LexBlanks'. -/
def lexBlanksUptoCard : Claim7 := { stood := { row := lexBlanksUptoRow, standIns := [], harness := (true, "8d9d0d04277255d2e672ba218646a938bf1bb4d996e09ed5d2c50bc71d46cc38"), looks := false }, kinds := [], alts := [], laidByText := true, laidKinds := [.data, .pinned], laidTests := true, laidLooks := .later }
def LexBlanksUptoCardSaid : Prop := Claim7.holds Tryd.pinned (.plain (OpenSpec.upto lexBlanksSpec)) lexBlanksUptoCard

/-- THE SECOND FORM's CARD OF 'pinfoldlaw08.LexLimits'. -/
def lexLimitsUptoCard : Claim7 := { stood := { row := lexLimitsUptoRow, standIns := [], harness := (true, "8d9d0d04277255d2e672ba218646a938bf1bb4d996e09ed5d2c50bc71d46cc38"), looks := false }, kinds := [], alts := [], laidByText := true, laidKinds := [.data, .pinned], laidTests := true, laidLooks := .later }
def LexLimitsUptoCardSaid : Prop := Claim7.holds Tryd.pinned (.plain (OpenSpec.upto lexLimitsSpec)) lexLimitsUptoCard

/-- THE SECOND FORM's CARD OF 'pinfoldlaw09.PolicyChecks'. -/
def policyChecksUptoCard : Claim7 := { stood := { row := policyChecksUptoRow, standIns := [], harness := (true, "8d9d0d04277255d2e672ba218646a938bf1bb4d996e09ed5d2c50bc71d46cc38"), looks := false }, kinds := [], alts := [], laidByText := true, laidKinds := [.data, .pinned], laidTests := true, laidLooks := .later }
def PolicyChecksUptoCardSaid : Prop := Claim7.holds Tryd.pinned (.plain (OpenSpec.upto policyChecksSpec)) policyChecksUptoCard
end Rows
end Go.Proofs.YtmicafpfkpnalaaDoor
