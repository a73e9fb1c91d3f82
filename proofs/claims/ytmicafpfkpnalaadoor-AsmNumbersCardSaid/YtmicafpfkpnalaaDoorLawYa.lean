/- AsmNumbers at a whole number. -/
import Derived.Test.YtmicafpfkpnalaaDoorLawY2
namespace Go.Proofs.YtmicafpfkpnalaaDoor
open Go Go.RowKit
theorem asmNumbers_i {w0 L} (hT : Lib.TabIs Tryd.prog w0 "strings.asciiSpace" .u8 Lib.asciiSpaceTab) (n : Int) (hn : 0 ≤ n ∧ n < 18446744073709551616) (s : ByteArray) (hs : s.size ≤ maxLen) : Fn Tryd.prog 3 #[.int .u64 n, .string s] [] w0 L fun v L' => v = .bool true ∧ L = L' := by
  have h := asmNumbers_c (L := L) hT n.toNat (by omega) s (by unfold maxLen at hs; omega)
  rwa [Int.toNat_of_nonneg hn.1] at h
end Go.Proofs.YtmicafpfkpnalaaDoor
