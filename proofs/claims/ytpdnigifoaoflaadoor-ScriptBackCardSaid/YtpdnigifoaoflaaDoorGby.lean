/- A slice of one byte as a text. -/
import Derived.Test.YtpdnigifoaoflaaDoorGb
namespace Go.Proofs.YtpdnigifoaoflaaDoor
open Go Go.RowKit
section
variable {P : Program} {n : Nat} {l : List (Nat × Value)} {S : List Nat} {w0 : World} {L : List Blk} {d : Tmp} {ty : TypeId} {pos : String} {af : Array Edge}
theorem E_byteStrI {src dst e : TypeId} {x : Operand} {b cap i : Nat} {q : Bool} {T : TypeId} {fr : Nat × Nat} {v : Int} (hx : ev l x = some (.slice (some ⟨b, 0, none⟩) 1 cap)) (hs : P.underlying src = some (.slice e)) (he : P.underlying e = some (.int .u8)) (hd : P.underlying dst = some .string)
    (hi : L[i]? = some ⟨q, b, .cells #[.int .u8 v] T fr⟩) : ValOf P n l S w0 L ⟨some d, .convert src dst x, ty, pos, af, none⟩ (.string (strOfNums [v])) :=
  E_bytesStr (xs := [v]) hx hs he hd (Sli.of (i := i) hi (by simp) rfl) rfl
theorem E_byteStr1 {src dst e : TypeId} {x : Operand} {b cap i : Nat} {q : Bool} {T : TypeId} {fr : Nat × Nat} {y : UInt8} (hx : ev l x = some (.slice (some ⟨b, 0, none⟩) 1 cap)) (hs : P.underlying src = some (.slice e)) (he : P.underlying e = some (.int .u8)) (hd : P.underlying dst = some .string)
    (hi : L[i]? = some ⟨q, b, .cells #[.int .u8 (y.toNat : Int)] T fr⟩) : ValOf P n l S w0 L ⟨some d, .convert src dst x, ty, pos, af, none⟩ (.string ⟨#[y]⟩) := by
  have := E_byteStrI (n := n) (S := S) (w0 := w0) (d := d) (ty := ty) (pos := pos) (af := af) hx hs he hd hi
  have e : strOfNums [(y.toNat : Int)] = ⟨#[y]⟩ := by simp [strOfNums]
  rw [e] at this
  exact this
end
end Go.Proofs.YtpdnigifoaoflaaDoor
