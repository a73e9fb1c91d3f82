/- The text of no bytes out of a row that there is not. Conditions: each rule's own premises. -/
import Derived.Test.YtpdnigifoaoflaaDoorGun
namespace Go.Proofs.YtpdnigifoaoflaaDoor
open Go Go.RowKit
section
variable {P : Program} {n : Nat} {l : List (Nat × Value)} {S : List Nat} {w0 : World} {L : List Blk} {d : Tmp} {ty : TypeId} {pos : String} {af : Array Edge}
theorem E_sliceDataN {x : Operand} {ats : Array TypeId} (hx : ev l x = some (.slice none 0 0)) : ValOf P n l S w0 L ⟨some d, .call { callee := .builtin .unsafeSliceData, args := #[x], argTypes := ats }, ty, pos, af, none⟩ (.pointer none) :=
  E_builtin (xs := [x]) (vs := [.slice none 0 0]) (by simp [evs, hx]) (fun cs => BigFrame.builtin_unsafeSliceData ..) ⟨fun _ => rfl⟩
theorem E_unsafeStr0 {x y : Operand} {pt it : TypeId} {p : Option Addr} (hx : ev l x = some (.pointer p)) (hy : ev l y = some (.int .i64 0)) : ValOf P n l S w0 L ⟨some d, .call { callee := .builtin .unsafeString, args := #[x, y], argTypes := #[pt, it] }, ty, pos, af, none⟩ (.string .empty) :=
  E_builtin (xs := [x, y]) (vs := [.pointer p, .int .i64 0]) (by simp [evs, hx, hy]) (fun cs => BigFrame.builtin_unsafeString ..) ⟨fun w => Lib.run_unsafeString_none w pt it _ p⟩
end
end Go.Proofs.YtpdnigifoaoflaaDoor
