/-
  No cell of these rows narrows 'for every input' (looked for: loops, veiled, ifaces, maps, wideKeys, modest, calm, conditions, laid).
  DERIVED. THE GIVEN ROWS OF THIS SEAT. 11 by the template 'for every input the law returns true; each argument reads behind the call as it read before'; 0 by the template 'total and deterministic' (their statements: YtcimcihhpkedfaaTotals.lean).
  GIVEN WITH THE SEED: the statements are not yours to turn. If you find one false, say at which input.
  Laid BY PROGRAM, IN A SANDBOX (cutbox-rows.mjs): the forced cells as the released guide's own fill.sh prints them over the translation 747777244fb3971f… (all of the seat's roots in one cut). By AI agents, Wed Nov 11 2026. No macro, syntax, notation, axiom, sorry.
-/
import Derived.Test.YtcimcihhpkedfaaChecked
import GoSem.Claim
import GoSem.ClaimJoined
import GoSem.ClaimMapViews
import Derived.JoinedTies
import Derived.KernelRfl
namespace Go.Proofs.Ytcimcihhpkedfaa
/- THE CELL 'sum', in the pinned program and in every row, IS THE sha256 OF THE DUMP (.gsa) THAT YtcimcihhpkedfaaProg.lean LOADS. Nothing in Lean hashes anything: it is a label: what it is worth is what the hold of that sum in a sandbox is worth. -/
noncomputable def Try.pinned : Pinned := { name := "ytcimcihhpkedfaa", sum := "747777244fb3971f5d17ed8b93393f597646810b8c335d78d23e8d432cdb0727", checked := Try.checked }
namespace Rows
def none {H : Type} : Left H := { results := [], args := [] }

/-- 'pinfoldlaw05.CheckMany': WHATEVER THE INPUT: true; the input reads as it did. -/
def checkManySpec : ChangeSpec := { name := "checkMany", fn := fun _ => fun
  | [d1, d2] => { results := [.lit (.bool true)], args := [d1, d2] }
  | _ => none }
def checkManyRow : OpenClaim := { program := "ytcimcihhpkedfaa", sum := "747777244fb3971f5d17ed8b93393f597646810b8c335d78d23e8d432cdb0727", func := "pinfold/pinfoldlaw05.CheckMany", spec := "checkMany", apart := false }
def CheckManySaid : Prop := checkManyRow.holds Try.pinned (OpenSpec.ofChange checkManySpec)

/-- ITS FALSE NEIGHBOUR: 'it returns false'. Refute it at one input. -/
def checkManyWrong : ChangeSpec := { name := "checkMany", fn := fun _ => fun
  | [d1, d2] => { results := [.lit (.bool false)], args := [d1, d2] }
  | _ => none }
def CheckManyWrongFalsely : Prop := checkManyRow.holds Try.pinned (OpenSpec.ofChange checkManyWrong)

/-- 'pinfoldlaw05.CheckScratch': WHATEVER THE INPUT: true; the input reads as it did. -/
def checkScratchSpec : ChangeSpec := { name := "checkScratch", fn := fun _ => fun
  | [d1, d2, d3, d4] => { results := [.lit (.bool true)], args := [d1, d2, d3, d4] }
  | _ => none }
def checkScratchRow : OpenClaim := { program := "ytcimcihhpkedfaa", sum := "747777244fb3971f5d17ed8b93393f597646810b8c335d78d23e8d432cdb0727", func := "pinfold/pinfoldlaw05.CheckScratch", spec := "checkScratch", apart := false }
def CheckScratchSaid : Prop := checkScratchRow.holds Try.pinned (OpenSpec.ofChange checkScratchSpec)

/-- ITS FALSE NEIGHBOUR: 'it returns false'. Refute it at one input. -/
def checkScratchWrong : ChangeSpec := { name := "checkScratch", fn := fun _ => fun
  | [d1, d2, d3, d4] => { results := [.lit (.bool false)], args := [d1, d2, d3, d4] }
  | _ => none }
def CheckScratchWrongFalsely : Prop := checkScratchRow.holds Try.pinned (OpenSpec.ofChange checkScratchWrong)

/-- 'pinfoldlaw05.CheckEnds': WHATEVER THE INPUT: true; the input reads as it did. -/
def checkEndsSpec : ChangeSpec := { name := "checkEnds", fn := fun _ => fun
  | [d1, d2, d3, d4] => { results := [.lit (.bool true)], args := [d1, d2, d3, d4] }
  | _ => none }
def checkEndsRow : OpenClaim := { program := "ytcimcihhpkedfaa", sum := "747777244fb3971f5d17ed8b93393f597646810b8c335d78d23e8d432cdb0727", func := "pinfold/pinfoldlaw05.CheckEnds", spec := "checkEnds", apart := false }
def CheckEndsSaid : Prop := checkEndsRow.holds Try.pinned (OpenSpec.ofChange checkEndsSpec)

/-- ITS FALSE NEIGHBOUR: 'it returns false'. Refute it at one input. -/
def checkEndsWrong : ChangeSpec := { name := "checkEnds", fn := fun _ => fun
  | [d1, d2, d3, d4] => { results := [.lit (.bool false)], args := [d1, d2, d3, d4] }
  | _ => none }
def CheckEndsWrongFalsely : Prop := checkEndsRow.holds Try.pinned (OpenSpec.ofChange checkEndsWrong)

/-- 'pinfoldlaw05.CheckStrips': WHATEVER THE INPUT: true; the input reads as it did. -/
def checkStripsSpec : ChangeSpec := { name := "checkStrips", fn := fun _ => fun
  | [d1, d2, d3] => { results := [.lit (.bool true)], args := [d1, d2, d3] }
  | _ => none }
def checkStripsRow : OpenClaim := { program := "ytcimcihhpkedfaa", sum := "747777244fb3971f5d17ed8b93393f597646810b8c335d78d23e8d432cdb0727", func := "pinfold/pinfoldlaw05.CheckStrips", spec := "checkStrips", apart := false }
def CheckStripsSaid : Prop := checkStripsRow.holds Try.pinned (OpenSpec.ofChange checkStripsSpec)

/-- ITS FALSE NEIGHBOUR: 'it returns false'. Refute it at one input. -/
def checkStripsWrong : ChangeSpec := { name := "checkStrips", fn := fun _ => fun
  | [d1, d2, d3] => { results := [.lit (.bool false)], args := [d1, d2, d3] }
  | _ => none }
def CheckStripsWrongFalsely : Prop := checkStripsRow.holds Try.pinned (OpenSpec.ofChange checkStripsWrong)

/-- 'pinfoldlaw06.VmReckons': WHATEVER THE INPUT: true; the input reads as it did. -/
def vmReckonsSpec : ChangeSpec := { name := "vmReckons", fn := fun _ => fun
  | [d1, d2, d3] => { results := [.lit (.bool true)], args := [d1, d2, d3] }
  | _ => none }
def vmReckonsRow : OpenClaim := { program := "ytcimcihhpkedfaa", sum := "747777244fb3971f5d17ed8b93393f597646810b8c335d78d23e8d432cdb0727", func := "pinfold/pinfoldlaw06.VmReckons", spec := "vmReckons", inPlace := ["sync/atomic.AddInt64"], apart := false }
def VmReckonsSaid : Prop := vmReckonsRow.holds Try.pinned (OpenSpec.ofChange vmReckonsSpec)

/-- ITS FALSE NEIGHBOUR: 'it returns false'. Refute it at one input. -/
def vmReckonsWrong : ChangeSpec := { name := "vmReckons", fn := fun _ => fun
  | [d1, d2, d3] => { results := [.lit (.bool false)], args := [d1, d2, d3] }
  | _ => none }
def VmReckonsWrongFalsely : Prop := vmReckonsRow.holds Try.pinned (OpenSpec.ofChange vmReckonsWrong)

/-- 'pinfoldlaw06.VmScratch': WHATEVER THE INPUT: true; the input reads as it did. -/
def vmScratchSpec : ChangeSpec := { name := "vmScratch", fn := fun _ => fun
  | [d1, d2] => { results := [.lit (.bool true)], args := [d1, d2] }
  | _ => none }
def vmScratchRow : OpenClaim := { program := "ytcimcihhpkedfaa", sum := "747777244fb3971f5d17ed8b93393f597646810b8c335d78d23e8d432cdb0727", func := "pinfold/pinfoldlaw06.VmScratch", spec := "vmScratch", inPlace := ["sync/atomic.AddInt64"], apart := false }
def VmScratchSaid : Prop := vmScratchRow.holds Try.pinned (OpenSpec.ofChange vmScratchSpec)

/-- ITS FALSE NEIGHBOUR: 'it returns false'. Refute it at one input. -/
def vmScratchWrong : ChangeSpec := { name := "vmScratch", fn := fun _ => fun
  | [d1, d2] => { results := [.lit (.bool false)], args := [d1, d2] }
  | _ => none }
def VmScratchWrongFalsely : Prop := vmScratchRow.holds Try.pinned (OpenSpec.ofChange vmScratchWrong)

/-- 'pinfoldlaw06.VmNone': WHATEVER THE INPUT: true; the input reads as it did. -/
def vmNoneSpec : ChangeSpec := { name := "vmNone", fn := fun _ => fun
  | [d1, d2, d3] => { results := [.lit (.bool true)], args := [d1, d2, d3] }
  | _ => none }
def vmNoneRow : OpenClaim := { program := "ytcimcihhpkedfaa", sum := "747777244fb3971f5d17ed8b93393f597646810b8c335d78d23e8d432cdb0727", func := "pinfold/pinfoldlaw06.VmNone", spec := "vmNone", inPlace := ["sync/atomic.AddInt64", "sync/atomic.LoadInt64"], apart := false }
def VmNoneSaid : Prop := vmNoneRow.holds Try.pinned (OpenSpec.ofChange vmNoneSpec)

/-- ITS FALSE NEIGHBOUR: 'it returns false'. Refute it at one input. -/
def vmNoneWrong : ChangeSpec := { name := "vmNone", fn := fun _ => fun
  | [d1, d2, d3] => { results := [.lit (.bool false)], args := [d1, d2, d3] }
  | _ => none }
def VmNoneWrongFalsely : Prop := vmNoneRow.holds Try.pinned (OpenSpec.ofChange vmNoneWrong)

/-- 'pinfoldlaw06.VmTraces': WHATEVER THE INPUT: true; the input reads as it did. -/
def vmTracesSpec : ChangeSpec := { name := "vmTraces", fn := fun _ => fun
  | [d1, d2] => { results := [.lit (.bool true)], args := [d1, d2] }
  | _ => none }
def vmTracesRow : OpenClaim := { program := "ytcimcihhpkedfaa", sum := "747777244fb3971f5d17ed8b93393f597646810b8c335d78d23e8d432cdb0727", func := "pinfold/pinfoldlaw06.VmTraces", spec := "vmTraces", inPlace := ["sync/atomic.AddInt64", "sync/atomic.LoadInt64"], apart := false }
def VmTracesSaid : Prop := vmTracesRow.holds Try.pinned (OpenSpec.ofChange vmTracesSpec)

/-- ITS FALSE NEIGHBOUR: 'it returns false'. Refute it at one input. -/
def vmTracesWrong : ChangeSpec := { name := "vmTraces", fn := fun _ => fun
  | [d1, d2] => { results := [.lit (.bool false)], args := [d1, d2] }
  | _ => none }
def VmTracesWrongFalsely : Prop := vmTracesRow.holds Try.pinned (OpenSpec.ofChange vmTracesWrong)

/-- 'pinfoldlaw06.VmRuns': WHATEVER THE INPUT: true; the input reads as it did. -/
def vmRunsSpec : ChangeSpec := { name := "vmRuns", fn := fun _ => fun
  | [d1, d2, d3, d4] => { results := [.lit (.bool true)], args := [d1, d2, d3, d4] }
  | _ => none }
def vmRunsRow : OpenClaim := { program := "ytcimcihhpkedfaa", sum := "747777244fb3971f5d17ed8b93393f597646810b8c335d78d23e8d432cdb0727", func := "pinfold/pinfoldlaw06.VmRuns", spec := "vmRuns", inPlace := ["sync/atomic.AddInt64", "sync/atomic.LoadInt64"], apart := false }
def VmRunsSaid : Prop := vmRunsRow.holds Try.pinned (OpenSpec.ofChange vmRunsSpec)

/-- ITS FALSE NEIGHBOUR: 'it returns false'. Refute it at one input. -/
def vmRunsWrong : ChangeSpec := { name := "vmRuns", fn := fun _ => fun
  | [d1, d2, d3, d4] => { results := [.lit (.bool false)], args := [d1, d2, d3, d4] }
  | _ => none }
def VmRunsWrongFalsely : Prop := vmRunsRow.holds Try.pinned (OpenSpec.ofChange vmRunsWrong)

/-- 'pinfoldlaw06.VmAll': WHATEVER THE INPUT: true; the input reads as it did. -/
def vmAllSpec : ChangeSpec := { name := "vmAll", fn := fun _ => fun
  | [d1, d2] => { results := [.lit (.bool true)], args := [d1, d2] }
  | _ => none }
def vmAllRow : OpenClaim := { program := "ytcimcihhpkedfaa", sum := "747777244fb3971f5d17ed8b93393f597646810b8c335d78d23e8d432cdb0727", func := "pinfold/pinfoldlaw06.VmAll", spec := "vmAll", inPlace := ["sync/atomic.AddInt64"], apart := false }
def VmAllSaid : Prop := vmAllRow.holds Try.pinned (OpenSpec.ofChange vmAllSpec)

/-- ITS FALSE NEIGHBOUR: 'it returns false'. Refute it at one input. -/
def vmAllWrong : ChangeSpec := { name := "vmAll", fn := fun _ => fun
  | [d1, d2] => { results := [.lit (.bool false)], args := [d1, d2] }
  | _ => none }
def VmAllWrongFalsely : Prop := vmAllRow.holds Try.pinned (OpenSpec.ofChange vmAllWrong)

/-- 'pinfoldlaw06.VmStrips': WHATEVER THE INPUT: true; the input reads as it did. -/
def vmStripsSpec : ChangeSpec := { name := "vmStrips", fn := fun _ => fun
  | [d1, d2, d3] => { results := [.lit (.bool true)], args := [d1, d2, d3] }
  | _ => none }
def vmStripsRow : OpenClaim := { program := "ytcimcihhpkedfaa", sum := "747777244fb3971f5d17ed8b93393f597646810b8c335d78d23e8d432cdb0727", func := "pinfold/pinfoldlaw06.VmStrips", spec := "vmStrips", inPlace := ["sync/atomic.AddInt64"], apart := false }
def VmStripsSaid : Prop := vmStripsRow.holds Try.pinned (OpenSpec.ofChange vmStripsSpec)

/-- ITS FALSE NEIGHBOUR: 'it returns false'. Refute it at one input. -/
def vmStripsWrong : ChangeSpec := { name := "vmStrips", fn := fun _ => fun
  | [d1, d2, d3] => { results := [.lit (.bool false)], args := [d1, d2, d3] }
  | _ => none }
def VmStripsWrongFalsely : Prop := vmStripsRow.holds Try.pinned (OpenSpec.ofChange vmStripsWrong)

/- THE SECOND FORM. 'bulk': how many values and letters a reading holds, each counted each time it is reached (what is shared counts as often as it is met; a slice's spare places count too). A statement '..UptoSaid' is the law's where the arguments, and the package variables that the reading takes, are together of bulk at most 1048576: NARROWER than '..Said'. Prove '..Said' where nothing that the law and all that it calls make is longer than what came in: it says more and counts as full. Else prove '..UptoSaid'. A law counts once. -/
mutual
def uptoBulk {H : Type} : DataW H → Nat
  | .lit (.string bytes) => bytes.length + 1
  | .lit _ => 1
  | .nil => 1
  | .ptr d => uptoBulk d + 1
  | .slice elems spare => uptoBulkAll elems + uptoBulkAll spare + 1
  | .agg parts => uptoBulkAll parts + 1
  | .iface _ d => uptoBulk d + 1
  | .map entries => uptoBulkEntries entries + 1
  | .held _ => 1
def uptoBulkAll {H : Type} : List (DataW H) → Nat
  | [] => 0
  | d :: r => uptoBulk d + uptoBulkAll r
def uptoBulkEntries {H : Type} : List (Lit × DataW H) → Nat
  | [] => 0
  | x :: r => uptoBulkEntry x + uptoBulkEntries r
def uptoBulkEntry {H : Type} : Lit × DataW H → Nat
  | (.string bytes, d) => bytes.length + uptoBulk d + 1
  | (_, d) => uptoBulk d + 1
 end
def uptoSmall : (H : Type) → List (DataW H) → Bool := fun _ ds => decide (uptoBulkAll ds ≤ 1048576)
def OpenSpec.upto (s : _root_.Go.ChangeSpec) : _root_.Go.OpenSpec := { _root_.Go.OpenSpec.ofChange s with cond := some uptoSmall }

/-- 'pinfoldlaw05.CheckMany', WHERE WHAT IT READS IS OF BULK AT MOST 1048576: true; the input reads as it did. -/
def checkManyUptoRow : OpenClaim := { program := "ytcimcihhpkedfaa", sum := "747777244fb3971f5d17ed8b93393f597646810b8c335d78d23e8d432cdb0727", func := "pinfold/pinfoldlaw05.CheckMany", spec := "checkMany", apart := false, narrowed := true }
def CheckManyUptoSaid : Prop := checkManyUptoRow.holds Try.pinned (OpenSpec.upto checkManySpec)

/-- 'pinfoldlaw05.CheckScratch', WHERE WHAT IT READS IS OF BULK AT MOST 1048576: true; the input reads as it did. -/
def checkScratchUptoRow : OpenClaim := { program := "ytcimcihhpkedfaa", sum := "747777244fb3971f5d17ed8b93393f597646810b8c335d78d23e8d432cdb0727", func := "pinfold/pinfoldlaw05.CheckScratch", spec := "checkScratch", apart := false, narrowed := true }
def CheckScratchUptoSaid : Prop := checkScratchUptoRow.holds Try.pinned (OpenSpec.upto checkScratchSpec)

/-- 'pinfoldlaw05.CheckEnds', WHERE WHAT IT READS IS OF BULK AT MOST 1048576: true; the input reads as it did. -/
def checkEndsUptoRow : OpenClaim := { program := "ytcimcihhpkedfaa", sum := "747777244fb3971f5d17ed8b93393f597646810b8c335d78d23e8d432cdb0727", func := "pinfold/pinfoldlaw05.CheckEnds", spec := "checkEnds", apart := false, narrowed := true }
def CheckEndsUptoSaid : Prop := checkEndsUptoRow.holds Try.pinned (OpenSpec.upto checkEndsSpec)

/-- 'pinfoldlaw05.CheckStrips', WHERE WHAT IT READS IS OF BULK AT MOST 1048576: true; the input reads as it did. -/
def checkStripsUptoRow : OpenClaim := { program := "ytcimcihhpkedfaa", sum := "747777244fb3971f5d17ed8b93393f597646810b8c335d78d23e8d432cdb0727", func := "pinfold/pinfoldlaw05.CheckStrips", spec := "checkStrips", apart := false, narrowed := true }
def CheckStripsUptoSaid : Prop := checkStripsUptoRow.holds Try.pinned (OpenSpec.upto checkStripsSpec)

/-- 'pinfoldlaw06.VmReckons', WHERE WHAT IT READS IS OF BULK AT MOST 1048576: true; the input reads as it did. -/
def vmReckonsUptoRow : OpenClaim := { program := "ytcimcihhpkedfaa", sum := "747777244fb3971f5d17ed8b93393f597646810b8c335d78d23e8d432cdb0727", func := "pinfold/pinfoldlaw06.VmReckons", spec := "vmReckons", inPlace := ["sync/atomic.AddInt64"], apart := false, narrowed := true }
def VmReckonsUptoSaid : Prop := vmReckonsUptoRow.holds Try.pinned (OpenSpec.upto vmReckonsSpec)

/-- 'pinfoldlaw06.VmScratch', WHERE WHAT IT READS IS OF BULK AT MOST 1048576: true; the input reads as it did. -/
def vmScratchUptoRow : OpenClaim := { program := "ytcimcihhpkedfaa", sum := "747777244fb3971f5d17ed8b93393f597646810b8c335d78d23e8d432cdb0727", func := "pinfold/pinfoldlaw06.VmScratch", spec := "vmScratch", inPlace := ["sync/atomic.AddInt64"], apart := false, narrowed := true }
def VmScratchUptoSaid : Prop := vmScratchUptoRow.holds Try.pinned (OpenSpec.upto vmScratchSpec)

/-- 'pinfoldlaw06.VmNone', WHERE WHAT IT READS IS OF BULK AT MOST 1048576: true; the input reads as it did. -/
def vmNoneUptoRow : OpenClaim := { program := "ytcimcihhpkedfaa", sum := "747777244fb3971f5d17ed8b93393f597646810b8c335d78d23e8d432cdb0727", func := "pinfold/pinfoldlaw06.VmNone", spec := "vmNone", inPlace := ["sync/atomic.AddInt64", "sync/atomic.LoadInt64"], apart := false, narrowed := true }
def VmNoneUptoSaid : Prop := vmNoneUptoRow.holds Try.pinned (OpenSpec.upto vmNoneSpec)

/-- 'pinfoldlaw06.VmTraces', WHERE WHAT IT READS IS OF BULK AT MOST 1048576: true; the input reads as it did. -/
def vmTracesUptoRow : OpenClaim := { program := "ytcimcihhpkedfaa", sum := "747777244fb3971f5d17ed8b93393f597646810b8c335d78d23e8d432cdb0727", func := "pinfold/pinfoldlaw06.VmTraces", spec := "vmTraces", inPlace := ["sync/atomic.AddInt64", "sync/atomic.LoadInt64"], apart := false, narrowed := true }
def VmTracesUptoSaid : Prop := vmTracesUptoRow.holds Try.pinned (OpenSpec.upto vmTracesSpec)

/-- 'pinfoldlaw06.VmRuns', WHERE WHAT IT READS IS OF BULK AT MOST 1048576: true; the input reads as it did. -/
def vmRunsUptoRow : OpenClaim := { program := "ytcimcihhpkedfaa", sum := "747777244fb3971f5d17ed8b93393f597646810b8c335d78d23e8d432cdb0727", func := "pinfold/pinfoldlaw06.VmRuns", spec := "vmRuns", inPlace := ["sync/atomic.AddInt64", "sync/atomic.LoadInt64"], apart := false, narrowed := true }
def VmRunsUptoSaid : Prop := vmRunsUptoRow.holds Try.pinned (OpenSpec.upto vmRunsSpec)

/-- 'pinfoldlaw06.VmAll', WHERE WHAT IT READS IS OF BULK AT MOST 1048576: true; the input reads as it did. -/
def vmAllUptoRow : OpenClaim := { program := "ytcimcihhpkedfaa", sum := "747777244fb3971f5d17ed8b93393f597646810b8c335d78d23e8d432cdb0727", func := "pinfold/pinfoldlaw06.VmAll", spec := "vmAll", inPlace := ["sync/atomic.AddInt64"], apart := false, narrowed := true }
def VmAllUptoSaid : Prop := vmAllUptoRow.holds Try.pinned (OpenSpec.upto vmAllSpec)

/-- 'pinfoldlaw06.VmStrips', WHERE WHAT IT READS IS OF BULK AT MOST 1048576: true; the input reads as it did. -/
def vmStripsUptoRow : OpenClaim := { program := "ytcimcihhpkedfaa", sum := "747777244fb3971f5d17ed8b93393f597646810b8c335d78d23e8d432cdb0727", func := "pinfold/pinfoldlaw06.VmStrips", spec := "vmStrips", inPlace := ["sync/atomic.AddInt64"], apart := false, narrowed := true }
def VmStripsUptoSaid : Prop := vmStripsUptoRow.holds Try.pinned (OpenSpec.upto vmStripsSpec)

end Rows
end Go.Proofs.Ytcimcihhpkedfaa
