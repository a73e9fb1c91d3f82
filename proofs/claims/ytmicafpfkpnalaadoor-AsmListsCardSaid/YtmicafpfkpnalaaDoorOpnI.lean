/- Instructions that came in. -/
import Derived.Test.YtmicafpfkpnalaaDoorOpnS
namespace Go.Proofs.YtmicafpfkpnalaaDoor
open Go Go.RowKit
theorem ins_openI {H : Type} {enc : TypeId × Value → H} {w : World} {base : Nat} {spare : Nat → Bool} {held : Bool} {fuel : Nat} {cs : List Value} {x : DataW H × List MemPlace} (h : DataW.trod enc Tryd.prog w base spare held fuel 32 cs = some x) : ∃ i : Ins, cs = i.cells ∧ i.ok := by
  obtain ⟨a0, a1, a2, a3, rfl, h0, h1, h2, h3⟩ := open_32 h
  exact ⟨⟨a0, a1, a2, a3⟩, rfl, ⟨h0, h1, h2, h3⟩⟩
theorem flat_flat (l : List Ins) : l.flatMap Ins.cells = flat l := rfl
end Go.Proofs.YtmicafpfkpnalaaDoor
