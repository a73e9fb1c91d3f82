/-
  DERIVED. GIVEN WITH THE SEED: THE CARDS: each row of YtlhohhhnnffhaaaDoorRows.lean that lists a variable, with what it lists TIED to the program's text (the seventh form; the later family's looks); each row that meets fmt, with fmt's text TOLD by the authors' own Lean function (tested against real Go, not proved from fmt's source: count such statements apart). THE CARD IS WHAT COUNTS. Prove the row's statement (the work); the ties are given (YtlhohhhnnffhaaaDoorTie.lean); close each card by the builder's one call (the guide's Derived/Test/ToyasCard.lean, 'card_holds'). Laid BY PROGRAM, IN A SANDBOX (cutbox-door.mjs). By AI agents, Wed Nov 11 2026. No macro, syntax, notation, axiom, sorry.
-/
import Derived.Test.YtlhohhhnnffhaaaDoorRows
import GoSem.ClaimSeven
namespace Go.Proofs.YtlhohhhnnffhaaaDoor
namespace Rows

/-- THE TIED CARD OF 'pinfoldlaw02.RightTexts'. -/
def rightTextsCard : Claim7 := { stood := { row := rightTextsRow, standIns := [], harness := (true, "b0bc26e77078342a2a9d3e36ecb83c37a6aebbfb861aa255f2d33c520871679a"), looks := false }, kinds := [], alts := [], laidByText := true, laidKinds := [.data, .pinned], laidTests := true, laidLooks := .later }
def RightTextsCardSaid : Prop := Claim7.holds Tryd.pinned (.plain (OpenSpec.ofChange rightTextsSpec)) rightTextsCard

/-- THE TIED CARD OF 'pinfoldlaw02.RightOnce'. -/
def rightOnceCard : Claim7 := { stood := { row := rightOnceRow, standIns := [], harness := (true, "b0bc26e77078342a2a9d3e36ecb83c37a6aebbfb861aa255f2d33c520871679a"), looks := false }, kinds := [], alts := [], laidByText := true, laidKinds := [.data, .pinned], laidTests := true, laidLooks := .later }
def RightOnceCardSaid : Prop := Claim7.holds Tryd.pinned (.plain (OpenSpec.ofChange rightOnceSpec)) rightOnceCard

/-- THE TIED CARD OF 'pinfoldlaw02.RightFits'. -/
def rightFitsCard : Claim7 := { stood := { row := rightFitsRow, standIns := [], harness := (true, "b0bc26e77078342a2a9d3e36ecb83c37a6aebbfb861aa255f2d33c520871679a"), looks := false }, kinds := [], alts := [], laidByText := true, laidKinds := [.data, .pinned], laidTests := true, laidLooks := .later }
def RightFitsCardSaid : Prop := Claim7.holds Tryd.pinned (.plain (OpenSpec.ofChange rightFitsSpec)) rightFitsCard

/-- THE TIED CARD OF 'pinfoldlaw02.RightAlgebra'. -/
def rightAlgebraCard : Claim7 := { stood := { row := rightAlgebraRow, standIns := [], harness := (true, "b0bc26e77078342a2a9d3e36ecb83c37a6aebbfb861aa255f2d33c520871679a"), looks := false }, kinds := [], alts := [], laidByText := true, laidKinds := [.data, .pinned], laidTests := true, laidLooks := .later }
def RightAlgebraCardSaid : Prop := Claim7.holds Tryd.pinned (.plain (OpenSpec.ofChange rightAlgebraSpec)) rightAlgebraCard

/-- THE TIED CARD OF 'pinfoldlaw02.RightOnes'. -/
def rightOnesCard : Claim7 := { stood := { row := rightOnesRow, standIns := [], harness := (true, "b0bc26e77078342a2a9d3e36ecb83c37a6aebbfb861aa255f2d33c520871679a"), looks := false }, kinds := [], alts := [], laidByText := true, laidKinds := [.data, .pinned], laidTests := true, laidLooks := .later }
def RightOnesCardSaid : Prop := Claim7.holds Tryd.pinned (.plain (OpenSpec.ofChange rightOnesSpec)) rightOnesCard

/-- THE TIED CARD OF 'pinfoldlaw09.PolicyPaths'. -/
def policyPathsCard : Claim7 := { stood := { row := policyPathsRow, standIns := [], harness := (true, "b0bc26e77078342a2a9d3e36ecb83c37a6aebbfb861aa255f2d33c520871679a"), looks := false }, kinds := [], alts := [], laidByText := true, laidKinds := [.data, .pinned], laidTests := true, laidLooks := .later }
def PolicyPathsCardSaid : Prop := Claim7.holds Tryd.pinned (.plain (OpenSpec.ofChange policyPathsSpec)) policyPathsCard

/-- THE SECOND FORM's CARD OF 'pinfoldlaw02.RightTexts'. -/
def rightTextsUptoCard : Claim7 := { stood := { row := rightTextsUptoRow, standIns := [], harness := (true, "b0bc26e77078342a2a9d3e36ecb83c37a6aebbfb861aa255f2d33c520871679a"), looks := false }, kinds := [], alts := [], laidByText := true, laidKinds := [.data, .pinned], laidTests := true, laidLooks := .later }
def RightTextsUptoCardSaid : Prop := Claim7.holds Tryd.pinned (.plain (OpenSpec.upto rightTextsSpec)) rightTextsUptoCard

/-- THE SECOND FORM's CARD OF 'pinfoldlaw02.RightOnce'. -/
def rightOnceUptoCard : Claim7 := { stood := { row := rightOnceUptoRow, standIns := [], harness := (true, "b0bc26e77078342a2a9d3e36ecb83c37a6aebbfb861aa255f2d33c520871679a"), looks := false }, kinds := [], alts := [], laidByText := true, laidKinds := [.data, .pinned], laidTests := true, laidLooks := .later }
def RightOnceUptoCardSaid : Prop := Claim7.holds Tryd.pinned (.plain (OpenSpec.upto rightOnceSpec)) rightOnceUptoCard

/-- THE SECOND FORM's CARD OF 'pinfoldlaw02.RightFits'. -/
def rightFitsUptoCard : Claim7 := { stood := { row := rightFitsUptoRow, standIns := [], harness := (true, "b0bc26e77078342a2a9d3e36ecb83c37a6aebbfb861aa255f2d33c520871679a"), looks := false }, kinds := [], alts := [], laidByText := true, laidKinds := [.data, .pinned], laidTests := true, laidLooks := .later }
def RightFitsUptoCardSaid : Prop := Claim7.holds Tryd.pinned (.plain (OpenSpec.upto rightFitsSpec)) rightFitsUptoCard

/-- THE SECOND FORM's CARD OF 'pinfoldlaw02.RightAlgebra'. -/
def rightAlgebraUptoCard : Claim7 := { stood := { row := rightAlgebraUptoRow, standIns := [], harness := (true, "b0bc26e77078342a2a9d3e36ecb83c37a6aebbfb861aa255f2d33c520871679a"), looks := false }, kinds := [], alts := [], laidByText := true, laidKinds := [.data, .pinned], laidTests := true, laidLooks := .later }
def RightAlgebraUptoCardSaid : Prop := Claim7.holds Tryd.pinned (.plain (OpenSpec.upto rightAlgebraSpec)) rightAlgebraUptoCard

/-- THE SECOND FORM's CARD OF 'pinfoldlaw02.RightOnes'. -/
def rightOnesUptoCard : Claim7 := { stood := { row := rightOnesUptoRow, standIns := [], harness := (true, "b0bc26e77078342a2a9d3e36ecb83c37a6aebbfb861aa255f2d33c520871679a"), looks := false }, kinds := [], alts := [], laidByText := true, laidKinds := [.data, .pinned], laidTests := true, laidLooks := .later }
def RightOnesUptoCardSaid : Prop := Claim7.holds Tryd.pinned (.plain (OpenSpec.upto rightOnesSpec)) rightOnesUptoCard

/-- THE SECOND FORM's CARD OF 'pinfoldlaw09.PolicyPaths'. -/
def policyPathsUptoCard : Claim7 := { stood := { row := policyPathsUptoRow, standIns := [], harness := (true, "b0bc26e77078342a2a9d3e36ecb83c37a6aebbfb861aa255f2d33c520871679a"), looks := false }, kinds := [], alts := [], laidByText := true, laidKinds := [.data, .pinned], laidTests := true, laidLooks := .later }
def PolicyPathsUptoCardSaid : Prop := Claim7.holds Tryd.pinned (.plain (OpenSpec.upto policyPathsSpec)) policyPathsUptoCard
end Rows
end Go.Proofs.YtlhohhhnnffhaaaDoor
