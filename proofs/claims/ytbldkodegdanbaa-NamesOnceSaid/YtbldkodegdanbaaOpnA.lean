/- Texts that came in, as a list. -/
import Derived.Test.YtbldkodegdanbaaOpn
import Derived.Test.YtbldkodegdanbaaTys
namespace Go.Proofs.Ytbldkodegdanbaa
open Go Go.RowKit
def strC (s : ByteArray) : List Value := [.string s]
def strOk (s : ByteArray) : Prop := s.size ≤ maxLen
theorem strC_map (l : List ByteArray) : l.flatMap strC = l.map Value.string := by induction l with | nil => rfl | cons n r ih => simp [strC, ih]
theorem str_openA {H : Type} {enc : TypeId × Value → H} {w : World} {base : Nat} {spare : Nat → Bool} {held : Bool} {fuel : Nat} {cs : List Value} {x : DataW H × List MemPlace} (h : DataW.trod enc Try.prog w base spare held fuel 9 cs = some x) : ∃ s : ByteArray, cs = strC s ∧ strOk s := trod_str_any Try.underlying9 h
end Go.Proofs.Ytbldkodegdanbaa
