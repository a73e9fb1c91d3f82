/-
  DERIVED. GIVEN WITH THE SEED: THE CARDS: each row of YtpdnigifoaoflaaDoorRows.lean that lists a variable, with what it lists TIED to the program's text (the seventh form; the later family's looks); each row that meets fmt, with fmt's text TOLD by the authors' own Lean function (tested against real Go, not proved from fmt's source: count such statements apart). THE CARD IS WHAT COUNTS. Prove the row's statement (the work); the ties are given (YtpdnigifoaoflaaDoorTie.lean); close each card by the builder's one call (the guide's Derived/Test/ToyasCard.lean, 'card_holds'). Laid BY PROGRAM, IN A SANDBOX (cutbox-door.mjs). By AI agents, Wed Nov 11 2026. No macro, syntax, notation, axiom, sorry.
-/
import Derived.Test.YtpdnigifoaoflaaDoorRows
import GoSem.ClaimSeven
namespace Go.Proofs.YtpdnigifoaoflaaDoor
namespace Rows

/-- THE TIED CARD OF 'pinfoldlaw28.ScriptLines'. -/
def scriptLinesCard : Claim7 := { stood := { row := scriptLinesRow, standIns := [], harness := (true, "690bf6032f7515d294d94c5f7f1b9ed9040c2da249dcad560c7172e651991105"), looks := false }, kinds := [], alts := [], laidByText := true, laidKinds := [.data, .listed, .data, .pinned], laidTests := true, laidLooks := .later }
def ScriptLinesCardSaid : Prop := Claim7.holds Tryd.pinned (.plain (OpenSpec.ofChange scriptLinesSpec)) scriptLinesCard

/-- THE TIED CARD OF 'pinfoldlaw28.ScriptMany'. -/
def scriptManyCard : Claim7 := { stood := { row := scriptManyRow, standIns := [], harness := (true, "690bf6032f7515d294d94c5f7f1b9ed9040c2da249dcad560c7172e651991105"), looks := false }, kinds := [], alts := [], laidByText := true, laidKinds := [.data, .listed, .data, .pinned], laidTests := true, laidLooks := .later }
def ScriptManyCardSaid : Prop := Claim7.holds Tryd.pinned (.plain (OpenSpec.ofChange scriptManySpec)) scriptManyCard

/-- THE TIED CARD OF 'pinfoldlaw28.ScriptQuotes'. -/
def scriptQuotesCard : Claim7 := { stood := { row := scriptQuotesRow, standIns := [], harness := (true, "690bf6032f7515d294d94c5f7f1b9ed9040c2da249dcad560c7172e651991105"), looks := false }, kinds := [], alts := [], laidByText := true, laidKinds := [.data, .listed, .data, .pinned], laidTests := true, laidLooks := .later }
def ScriptQuotesCardSaid : Prop := Claim7.holds Tryd.pinned (.plain (OpenSpec.ofChange scriptQuotesSpec)) scriptQuotesCard

/-- THE TIED CARD OF 'pinfoldlaw28.ScriptBack'. -/
def scriptBackCard : Claim7 := { stood := { row := scriptBackRow, standIns := [], harness := (true, "690bf6032f7515d294d94c5f7f1b9ed9040c2da249dcad560c7172e651991105"), looks := false }, kinds := [], alts := [], laidByText := true, laidKinds := [.data, .listed, .data, .pinned], laidTests := true, laidLooks := .later }
def ScriptBackCardSaid : Prop := Claim7.holds Tryd.pinned (.plain (OpenSpec.ofChange scriptBackSpec)) scriptBackCard

/-- THE SECOND FORM's CARD OF 'pinfoldlaw28.ScriptLines'. -/
def scriptLinesUptoCard : Claim7 := { stood := { row := scriptLinesUptoRow, standIns := [], harness := (true, "690bf6032f7515d294d94c5f7f1b9ed9040c2da249dcad560c7172e651991105"), looks := false }, kinds := [], alts := [], laidByText := true, laidKinds := [.data, .listed, .data, .pinned], laidTests := true, laidLooks := .later }
def ScriptLinesUptoCardSaid : Prop := Claim7.holds Tryd.pinned (.plain (OpenSpec.upto scriptLinesSpec)) scriptLinesUptoCard

/-- THE SECOND FORM's CARD OF 'pinfoldlaw28.ScriptMany'. -/
def scriptManyUptoCard : Claim7 := { stood := { row := scriptManyUptoRow, standIns := [], harness := (true, "690bf6032f7515d294d94c5f7f1b9ed9040c2da249dcad560c7172e651991105"), looks := false }, kinds := [], alts := [], laidByText := true, laidKinds := [.data, .listed, .data, .pinned], laidTests := true, laidLooks := .later }
def ScriptManyUptoCardSaid : Prop := Claim7.holds Tryd.pinned (.plain (OpenSpec.upto scriptManySpec)) scriptManyUptoCard

/-- THE SECOND FORM's CARD OF 'pinfoldlaw28.ScriptQuotes'. -/
def scriptQuotesUptoCard : Claim7 := { stood := { row := scriptQuotesUptoRow, standIns := [], harness := (true, "690bf6032f7515d294d94c5f7f1b9ed9040c2da249dcad560c7172e651991105"), looks := false }, kinds := [], alts := [], laidByText := true, laidKinds := [.data, .listed, .data, .pinned], laidTests := true, laidLooks := .later }
def ScriptQuotesUptoCardSaid : Prop := Claim7.holds Tryd.pinned (.plain (OpenSpec.upto scriptQuotesSpec)) scriptQuotesUptoCard

/-- THE SECOND FORM's CARD OF 'pinfoldlaw28.ScriptBack'. -/
def scriptBackUptoCard : Claim7 := { stood := { row := scriptBackUptoRow, standIns := [], harness := (true, "690bf6032f7515d294d94c5f7f1b9ed9040c2da249dcad560c7172e651991105"), looks := false }, kinds := [], alts := [], laidByText := true, laidKinds := [.data, .listed, .data, .pinned], laidTests := true, laidLooks := .later }
def ScriptBackUptoCardSaid : Prop := Claim7.holds Tryd.pinned (.plain (OpenSpec.upto scriptBackSpec)) scriptBackUptoCard
end Rows
end Go.Proofs.YtpdnigifoaoflaaDoor
