/- Bytes that came in. -/
import Derived.Test.YtpdnigifoaoflaaDoorOpn
import Derived.Test.YtpdnigifoaoflaaDoorTys
import Derived.Test.YtpdnigifoaoflaaDoorGb
namespace Go.Proofs.YtpdnigifoaoflaaDoor
open Go Go.RowKit
def u8ok (n : Int) : Prop := 0 ≤ n ∧ n < 256
def u8v (n : Int) : List Value := [.int .u8 n]
theorem u8v_flat (l : List Int) : l.flatMap u8v = u8l l := by induction l with | nil => rfl | cons n r ih => simpa [u8v, u8l] using ih
theorem u8_open {H : Type} {enc : TypeId × Value → H} {w : World} {base : Nat} {spare : Nat → Bool} {held : Bool} {fuel : Nat} {cs : List Value} {x : DataW H × List MemPlace} (h : DataW.trod enc Tryd.prog w base spare held fuel 5 cs = some x) : ∃ n : Int, cs = u8v n ∧ (0 ≤ n ∧ n < 256) := by
  obtain ⟨n, rfl, hw⟩ := trod_int_any Tryd.underlying5 h
  exact ⟨n, rfl, wf_u8 hw⟩
end Go.Proofs.YtpdnigifoaoflaaDoor
