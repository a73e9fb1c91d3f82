/-
  DERIVED. GIVEN WITH THE SEED: THE CARDS: each row of YtecbgehooembmaaDoorRows.lean that lists a variable, with what it lists TIED to the program's text (the seventh form; the later family's looks); each row that meets fmt, with fmt's text TOLD by the authors' own Lean function (tested against real Go, not proved from fmt's source: count such statements apart). THE CARD IS WHAT COUNTS. Prove the row's statement (the work); the ties are given (YtecbgehooembmaaDoorTie.lean); close each card by the builder's one call (the guide's Derived/Test/ToyasCard.lean, 'card_holds'). Laid BY PROGRAM, IN A SANDBOX (cutbox-door.mjs). By AI agents, Wed Nov 11 2026. No macro, syntax, notation, axiom, sorry.
-/
import Derived.Test.YtecbgehooembmaaDoorRows
import GoSem.ClaimSeven
namespace Go.Proofs.YtecbgehooembmaaDoor
namespace Rows

/-- THE TIED CARD OF 'pinfoldlaw09.PolicyChecks'. -/
def policyChecksCard : Claim7 := { stood := { row := policyChecksRow, standIns := [], harness := (true, "2f6da4751a3c1f369a7d9edb4b1c99168574a4df4d83d7f2ae6f9688c42d255f"), looks := false }, kinds := [], alts := [], laidByText := true, laidKinds := [.data, .pinned], laidTests := true, laidLooks := .later }
def PolicyChecksCardSaid : Prop := Claim7.holds Tryd.pinned (.plain (OpenSpec.ofChange policyChecksSpec)) policyChecksCard

/-- THE SECOND FORM's CARD OF 'pinfoldlaw09.PolicyChecks'. -/
def policyChecksUptoCard : Claim7 := { stood := { row := policyChecksUptoRow, standIns := [], harness := (true, "2f6da4751a3c1f369a7d9edb4b1c99168574a4df4d83d7f2ae6f9688c42d255f"), looks := false }, kinds := [], alts := [], laidByText := true, laidKinds := [.data, .pinned], laidTests := true, laidLooks := .later }
def PolicyChecksUptoCardSaid : Prop := Claim7.holds Tryd.pinned (.plain (OpenSpec.upto policyChecksSpec)) policyChecksUptoCard
end Rows
end Go.Proofs.YtecbgehooembmaaDoor
