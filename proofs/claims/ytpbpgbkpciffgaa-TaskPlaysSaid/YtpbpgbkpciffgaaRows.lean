/-
  No cell of these rows narrows 'for every input' (looked for: loops, veiled, ifaces, maps, wideKeys, modest, calm, conditions, laid).
  DERIVED. THE GIVEN ROWS OF THIS SEAT. 4 by the template 'for every input the law returns true; each argument reads behind the call as it read before'; 0 by the template 'total and deterministic' (their statements: YtpbpgbkpciffgaaTotals.lean).
  GIVEN WITH THE SEED: the statements are not yours to turn. If you find one false, say at which input.
  Laid BY PROGRAM, IN A SANDBOX (cutbox-rows.mjs): the forced cells as the released guide's own fill.sh prints them over the translation aeb8ede82cc94dae… (all of the seat's roots in one cut). By AI agents, Wed Nov 11 2026. No macro, syntax, notation, axiom, sorry.
-/
import Derived.Test.YtpbpgbkpciffgaaChecked
import GoSem.Claim
import GoSem.ClaimJoined
import GoSem.ClaimMapViews
import Derived.JoinedTies
import Derived.KernelRfl
namespace Go.Proofs.Ytpbpgbkpciffgaa
/- THE CELL 'sum', in the pinned program and in every row, IS THE sha256 OF THE DUMP (.gsa) THAT YtpbpgbkpciffgaaProg.lean LOADS. Nothing in Lean hashes anything: it is a label: what it is worth is what the hold of that sum in a sandbox is worth. -/
noncomputable def Try.pinned : Pinned := { name := "ytpbpgbkpciffgaa", sum := "aeb8ede82cc94dae05e86d9ecaa5de52c019e9f0cda6ae8facbd16fbb8bd1f6f", checked := Try.checked }
namespace Rows
def none {H : Type} : Left H := { results := [], args := [] }

/-- 'pinfoldlaw24.TaskNone': WHATEVER THE INPUT: true; the input reads as it did. -/
def taskNoneSpec : ChangeSpec := { name := "taskNone", fn := fun _ => fun
  | [d1, d2, d3] => { results := [.lit (.bool true)], args := [d1, d2, d3] }
  | _ => none }
def taskNoneRow : OpenClaim := { program := "ytpbpgbkpciffgaa", sum := "aeb8ede82cc94dae05e86d9ecaa5de52c019e9f0cda6ae8facbd16fbb8bd1f6f", func := "pinfold/pinfoldlaw24.TaskNone", spec := "taskNone", inPlace := ["sync/atomic.AddInt64"], recurses := true, apart := false }
def TaskNoneSaid : Prop := taskNoneRow.holds Try.pinned (OpenSpec.ofChange taskNoneSpec)

/-- ITS FALSE NEIGHBOUR: 'it returns false'. Refute it at one input. -/
def taskNoneWrong : ChangeSpec := { name := "taskNone", fn := fun _ => fun
  | [d1, d2, d3] => { results := [.lit (.bool false)], args := [d1, d2, d3] }
  | _ => none }
def TaskNoneWrongFalsely : Prop := taskNoneRow.holds Try.pinned (OpenSpec.ofChange taskNoneWrong)

/-- 'pinfoldlaw24.TaskPlays': WHATEVER THE INPUT: true; the input reads as it did. -/
def taskPlaysSpec : ChangeSpec := { name := "taskPlays", fn := fun _ => fun
  | [d1, d2, d3] => { results := [.lit (.bool true)], args := [d1, d2, d3] }
  | _ => none }
def taskPlaysRow : OpenClaim := { program := "ytpbpgbkpciffgaa", sum := "aeb8ede82cc94dae05e86d9ecaa5de52c019e9f0cda6ae8facbd16fbb8bd1f6f", func := "pinfold/pinfoldlaw24.TaskPlays", spec := "taskPlays", inPlace := ["sync/atomic.AddInt64"], recurses := true, apart := false }
def TaskPlaysSaid : Prop := taskPlaysRow.holds Try.pinned (OpenSpec.ofChange taskPlaysSpec)

/-- ITS FALSE NEIGHBOUR: 'it returns false'. Refute it at one input. -/
def taskPlaysWrong : ChangeSpec := { name := "taskPlays", fn := fun _ => fun
  | [d1, d2, d3] => { results := [.lit (.bool false)], args := [d1, d2, d3] }
  | _ => none }
def TaskPlaysWrongFalsely : Prop := taskPlaysRow.holds Try.pinned (OpenSpec.ofChange taskPlaysWrong)

/-- 'pinfoldlaw13.JumpSizes': WHATEVER THE INPUT: true; the input reads as it did. -/
def jumpSizesSpec : ChangeSpec := { name := "jumpSizes", fn := fun _ => fun
  | [d1, d2, d3] => { results := [.lit (.bool true)], args := [d1, d2, d3] }
  | _ => none }
def jumpSizesRow : OpenClaim := { program := "ytpbpgbkpciffgaa", sum := "aeb8ede82cc94dae05e86d9ecaa5de52c019e9f0cda6ae8facbd16fbb8bd1f6f", func := "pinfold/pinfoldlaw13.JumpSizes", spec := "jumpSizes", inPlace := ["sync/atomic.AddInt64"], apart := false }
def JumpSizesSaid : Prop := jumpSizesRow.holds Try.pinned (OpenSpec.ofChange jumpSizesSpec)

/-- ITS FALSE NEIGHBOUR: 'it returns false'. Refute it at one input. -/
def jumpSizesWrong : ChangeSpec := { name := "jumpSizes", fn := fun _ => fun
  | [d1, d2, d3] => { results := [.lit (.bool false)], args := [d1, d2, d3] }
  | _ => none }
def JumpSizesWrongFalsely : Prop := jumpSizesRow.holds Try.pinned (OpenSpec.ofChange jumpSizesWrong)

/-- 'pinfoldlaw13.JumpMakes': WHATEVER THE INPUT: true; the input reads as it did. -/
def jumpMakesSpec : ChangeSpec := { name := "jumpMakes", fn := fun _ => fun
  | [d1, d2, d3] => { results := [.lit (.bool true)], args := [d1, d2, d3] }
  | _ => none }
def jumpMakesRow : OpenClaim := { program := "ytpbpgbkpciffgaa", sum := "aeb8ede82cc94dae05e86d9ecaa5de52c019e9f0cda6ae8facbd16fbb8bd1f6f", func := "pinfold/pinfoldlaw13.JumpMakes", spec := "jumpMakes", inPlace := ["sync/atomic.AddInt64"], unfollowed := true, recurses := true, apart := false }
def JumpMakesSaid : Prop := jumpMakesRow.holds Try.pinned (OpenSpec.ofChange jumpMakesSpec)

/-- ITS FALSE NEIGHBOUR: 'it returns false'. Refute it at one input. -/
def jumpMakesWrong : ChangeSpec := { name := "jumpMakes", fn := fun _ => fun
  | [d1, d2, d3] => { results := [.lit (.bool false)], args := [d1, d2, d3] }
  | _ => none }
def JumpMakesWrongFalsely : Prop := jumpMakesRow.holds Try.pinned (OpenSpec.ofChange jumpMakesWrong)

/- THE SECOND FORM. 'bulk': how many values and letters a reading holds, each counted each time it is reached (what is shared counts as often as it is met; a slice's spare places count too). A statement '..UptoSaid' is the law's where the arguments, and the package variables that the reading takes, are together of bulk at most 1048576: NARROWER than '..Said'. Prove '..Said' where nothing that the law and all that it calls make is longer than what came in: it says more and counts as full. Else prove '..UptoSaid'. A law counts once. -/
mutual
def uptoBulk {H : Type} : DataW H → Nat
  | .lit (.string bytes) => bytes.length + 1
  | .lit _ => 1
  | .nil => 1
  | .ptr d => uptoBulk d + 1
  | .slice elems spare => uptoBulkAll elems + uptoBulkAll spare + 1
  | .agg parts => uptoBulkAll parts + 1
  | .iface _ d => uptoBulk d + 1
  | .map entries => uptoBulkEntries entries + 1
  | .held _ => 1
def uptoBulkAll {H : Type} : List (DataW H) → Nat
  | [] => 0
  | d :: r => uptoBulk d + uptoBulkAll r
def uptoBulkEntries {H : Type} : List (Lit × DataW H) → Nat
  | [] => 0
  | x :: r => uptoBulkEntry x + uptoBulkEntries r
def uptoBulkEntry {H : Type} : Lit × DataW H → Nat
  | (.string bytes, d) => bytes.length + uptoBulk d + 1
  | (_, d) => uptoBulk d + 1
 end
def uptoSmall : (H : Type) → List (DataW H) → Bool := fun _ ds => decide (uptoBulkAll ds ≤ 1048576)
def OpenSpec.upto (s : _root_.Go.ChangeSpec) : _root_.Go.OpenSpec := { _root_.Go.OpenSpec.ofChange s with cond := some uptoSmall }

/-- 'pinfoldlaw24.TaskNone', WHERE WHAT IT READS IS OF BULK AT MOST 1048576: true; the input reads as it did. -/
def taskNoneUptoRow : OpenClaim := { program := "ytpbpgbkpciffgaa", sum := "aeb8ede82cc94dae05e86d9ecaa5de52c019e9f0cda6ae8facbd16fbb8bd1f6f", func := "pinfold/pinfoldlaw24.TaskNone", spec := "taskNone", inPlace := ["sync/atomic.AddInt64"], recurses := true, apart := false, narrowed := true }
def TaskNoneUptoSaid : Prop := taskNoneUptoRow.holds Try.pinned (OpenSpec.upto taskNoneSpec)

/-- 'pinfoldlaw24.TaskPlays', WHERE WHAT IT READS IS OF BULK AT MOST 1048576: true; the input reads as it did. -/
def taskPlaysUptoRow : OpenClaim := { program := "ytpbpgbkpciffgaa", sum := "aeb8ede82cc94dae05e86d9ecaa5de52c019e9f0cda6ae8facbd16fbb8bd1f6f", func := "pinfold/pinfoldlaw24.TaskPlays", spec := "taskPlays", inPlace := ["sync/atomic.AddInt64"], recurses := true, apart := false, narrowed := true }
def TaskPlaysUptoSaid : Prop := taskPlaysUptoRow.holds Try.pinned (OpenSpec.upto taskPlaysSpec)

/-- 'pinfoldlaw13.JumpSizes', WHERE WHAT IT READS IS OF BULK AT MOST 1048576: true; the input reads as it did. -/
def jumpSizesUptoRow : OpenClaim := { program := "ytpbpgbkpciffgaa", sum := "aeb8ede82cc94dae05e86d9ecaa5de52c019e9f0cda6ae8facbd16fbb8bd1f6f", func := "pinfold/pinfoldlaw13.JumpSizes", spec := "jumpSizes", inPlace := ["sync/atomic.AddInt64"], apart := false, narrowed := true }
def JumpSizesUptoSaid : Prop := jumpSizesUptoRow.holds Try.pinned (OpenSpec.upto jumpSizesSpec)

/-- 'pinfoldlaw13.JumpMakes', WHERE WHAT IT READS IS OF BULK AT MOST 1048576: true; the input reads as it did. -/
def jumpMakesUptoRow : OpenClaim := { program := "ytpbpgbkpciffgaa", sum := "aeb8ede82cc94dae05e86d9ecaa5de52c019e9f0cda6ae8facbd16fbb8bd1f6f", func := "pinfold/pinfoldlaw13.JumpMakes", spec := "jumpMakes", inPlace := ["sync/atomic.AddInt64"], unfollowed := true, recurses := true, apart := false, narrowed := true }
def JumpMakesUptoSaid : Prop := jumpMakesUptoRow.holds Try.pinned (OpenSpec.upto jumpMakesSpec)

end Rows
end Go.Proofs.Ytpbpgbkpciffgaa
