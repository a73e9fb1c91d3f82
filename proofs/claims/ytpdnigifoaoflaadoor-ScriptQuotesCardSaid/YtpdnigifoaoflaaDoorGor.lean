/- The or of two signed numbers, by a closed equation. -/
import Derived.Test.YtpdnigifoaoflaaDoorGl8
namespace Go.Proofs.YtpdnigifoaoflaaDoor
open Go Go.RowKit
theorem rb_or_h {P : Program} {t : TypeId} {a b c : Int} (h : IntKind.i64.wrap ((BitVec.ofInt 64 a ||| BitVec.ofInt 64 b).toNat : Int) = c) : RBin P .or t (.int .i64 a) (.int .i64 b) (.int .i64 c) := .mk fun w => by
  simp only [binOp, Op.intBits, ne_eq, not_true, if_false, Sem.run_pure]
  subst h; rfl
theorem enc128 : ∀ c : Fin 128, Utf8.encode ((c.val : Nat) : Int) = ⟨#[UInt8.ofNat c.val]⟩ := by decide +kernel
theorem r_convRune {P : Program} {s t : TypeId} {k k' : IntKind} (hs : P.underlying s = some (.int k')) (ht : P.underlying t = some .string) {c : UInt8} (hc : c.toNat < 128) : RConv P s t (.int k (c.toNat : Int)) (.string ⟨#[c]⟩) := .mk fun w => by
  have h := enc128 ⟨c.toNat, hc⟩
  dsimp only at h
  rw [UInt8.ofNat_toNat] at h
  simp only [convert, Sem.run_bind, run_underlying hs, run_underlying ht, Result.andThen_ok, Conv.intToString, Sem.run_pure, h]
end Go.Proofs.YtpdnigifoaoflaaDoor
