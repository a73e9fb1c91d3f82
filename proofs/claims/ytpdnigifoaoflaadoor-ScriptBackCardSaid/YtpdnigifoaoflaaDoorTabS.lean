/- From the rows' condition: the library's table of blanks is as it was laid. -/
import Derived.Test.YtpdnigifoaoflaaDoorCards
import Derived.Test.YtpdnigifoaoflaaDoorGl6
import Derived.SevenTiedAt
import Derived.Lib.LaidTab
import Derived.Lib.Space
import Derived.Stop.LaidErr
import Derived.LaidOnce
import Derived.ProofKit
import Derived.Lay
namespace Go.Proofs.YtpdnigifoaoflaaDoor
open Go Go.RowKit
theorem tabEq : (Rows.laid_strings_asciiSpace : DataW Unit) = Lib.tabData .u8 Lib.asciiSpaceTab := by kernel_rfl
theorem tab_of {W : World} (h : laidMetH Tryd.prog Rows.scriptLinesRow.laid W) : Lib.TabIs Tryd.prog W "strings.asciiSpace" .u8 Lib.asciiSpaceTab := by
  rw [MakeChecks.laidMetH_plain _ _ _ (by kernel_rfl)] at h
  have h2 : laidMet Tryd.prog [("unicode/utf8.acceptRanges", Rows.laid_unicode_utf8_acceptRanges), ("unicode.White_Space", Rows.laid_unicode_White_Space), ("strings.asciiSpace", Rows.laid_strings_asciiSpace), ("unicode/utf8.first", Rows.laid_unicode_utf8_first)] W := h
  have h3 := laidMet.tail (laidMet.tail h2)
  rw [tabEq] at h3
  exact Lib.tabIs_of_head (g := 0) (t := 113) (e := 5) (n := 256) (by kernel_rfl) (by kernel_rfl) (by kernel_rfl) (by kernel_rfl) (by kernel_rfl) (by kernel_rfl) h3
end Go.Proofs.YtpdnigifoaoflaaDoor
