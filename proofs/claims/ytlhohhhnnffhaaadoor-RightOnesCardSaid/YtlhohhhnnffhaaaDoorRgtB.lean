/- RightOnes at whole numbers. -/
import Derived.Test.YtlhohhhnnffhaaaDoorRgtA
namespace Go.Proofs.YtlhohhhnnffhaaaDoor
open Go Go.RowKit
theorem rightOnes_i {S w0 L} (s : ByteArray) (a b : Int) (ha : 0 ≤ a ∧ a < 65536) (hb : 0 ≤ b ∧ b < 65536) : Fn Tryd.prog 7 #[.string s, .int .u16 a, .int .u16 b] S w0 L fun v L' => v = .bool true ∧ L = L' := by
  obtain ⟨n, rfl⟩ := Int.eq_ofNat_of_zero_le ha.1
  obtain ⟨m, rfl⟩ := Int.eq_ofNat_of_zero_le hb.1
  exact rightOnes_c s n m (by omega) (by omega)
end Go.Proofs.YtlhohhhnnffhaaaDoor
