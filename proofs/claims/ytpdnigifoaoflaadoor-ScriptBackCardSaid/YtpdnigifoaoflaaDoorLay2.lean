/-
  DERIVED: THE SHELF's CONTRACTS AT THIS DUMP, IN PLAIN WORDS (tools/lay-plain.mjs out of 'YtpdnigifoaoflaaDoorLay2.lean', which tools/lay-shelf.mjs wrote): THE SAME DECLARATIONS UNDER THE SAME NAMES: 'import', 'namespace', 'open', 'def', 'theorem' AND NOTHING ELSE: no command of the shelf's: FOR A HAND-IN. Each laying: the table of numbers ('.._ren') and one theorem, a field a fact of the dump's own or the kernel's comparison; each contract: ONE APPLICATION.
-/
import Derived.Shelf.Strings.Builder1
import Derived.Shelf.Strings.Search1
import Derived.Shelf.Strings.Search2
import Derived.Shelf.Strings.Search3
import Derived.Shelf.Strings.Count
import Derived.Shelf.Strings.Fields
import Derived.Shelf.Strings.SplitShaped
import Derived.Test.YtpdnigifoaoflaaDoorProg
namespace Go.Proofs
open Go.Shelf
def YtpdnigifoaoflaaDoor.lays157_ren : Go.Shelf.Ren := ⟨fun | 157 => 23 | 229 => 38 | 199 => 39 | 261 => 54 | 311 => 69 | 312 => 70 | n => n, fun | 9 => 9 | 31 => 24 | 3 => 3 | 5 => 5 | 4 => 4 | 119 => 113 | 0 => 0 | 40 => 115 | 152 => 128 | 21 => 21 | 154 => 130 | 51 => 47 | 141 => 132 | 196 => 145 | 193 => 142 | 198 => 148 | 49 => 146 | 194 => 143 | 201 => 151 | 226 => 161 | 46 => 95 | 227 => 162 | n => n, fun | 0 => 0 | 6 => 1 | n => n⟩
theorem YtpdnigifoaoflaaDoor.lays157 : Go.Proofs.Lays.n157 Tryd.prog YtpdnigifoaoflaaDoor.lays157_ren := {
  mixed := by kernel_rfl
  f157 := Tryd.func23.trans (congrArg some (by kernel_rfl))
  f199 := Tryd.func39.trans (congrArg some (by kernel_rfl))
  f229 := Tryd.func38.trans (congrArg some (by kernel_rfl))
  f261 := Tryd.func54.trans (congrArg some (by kernel_rfl))
  f311 := Tryd.func69.trans (congrArg some (by kernel_rfl))
  f312 := Tryd.func70.trans (congrArg some (by kernel_rfl))
  t0 := Tryd.underlying0
  a0 := Tryd.isAgg0
  z0 := Tryd.sizeOf0
  v0 := Tryd.zeroValue0
  t3 := Tryd.underlying3
  a3 := Tryd.isAgg3
  z3 := Tryd.sizeOf3
  v3 := Tryd.zeroValue3
  t4 := Tryd.underlying4
  a4 := Tryd.isAgg4
  z4 := Tryd.sizeOf4
  v4 := Tryd.zeroValue4
  t5 := Tryd.underlying5
  a5 := Tryd.isAgg5
  z5 := Tryd.sizeOf5
  v5 := Tryd.zeroValue5
  t9 := Tryd.underlying9
  a9 := Tryd.isAgg9
  z9 := Tryd.sizeOf9
  v9 := Tryd.zeroValue9
  t21 := Tryd.underlying21
  a21 := Tryd.isAgg21
  z21 := Tryd.sizeOf21
  v21 := Tryd.zeroValue21
  t31 := Tryd.underlying24
  a31 := Tryd.isAgg24
  z31 := Tryd.sizeOf24
  v31 := Tryd.zeroValue24
  t40 := Tryd.underlying115
  a40 := Tryd.isAgg115
  z40 := Tryd.sizeOf115
  v40 := Tryd.zeroValue115
  t46 := Tryd.underlying95
  a46 := Tryd.isAgg95
  z46 := Tryd.sizeOf95
  v46 := Tryd.zeroValue95
  t49 := Tryd.underlying146
  a49 := Tryd.isAgg146
  z49 := Tryd.sizeOf146
  v49 := Tryd.zeroValue146
  t51 := Tryd.underlying47
  a51 := Tryd.isAgg47
  z51 := Tryd.sizeOf47
  v51 := Tryd.zeroValue47
  t119 := Tryd.underlying113
  a119 := Tryd.isAgg113
  z119 := Tryd.sizeOf113
  t141 := Tryd.underlying132
  a141 := Tryd.isAgg132
  z141 := Tryd.sizeOf132
  v141 := Tryd.zeroValue132
  t152 := Tryd.underlying128
  a152 := Tryd.isAgg128
  z152 := Tryd.sizeOf128
  v152 := Tryd.zeroValue128
  t154 := Tryd.underlying130
  a154 := Tryd.isAgg130
  z154 := Tryd.sizeOf130
  v154 := Tryd.zeroValue130
  t193 := Tryd.underlying142
  a193 := Tryd.isAgg142
  z193 := Tryd.sizeOf142
  v193 := Tryd.zeroValue142
  t194 := Tryd.underlying143
  a194 := Tryd.isAgg143
  z194 := Tryd.sizeOf143
  v194 := Tryd.zeroValue143
  t196 := Tryd.underlying145
  a196 := Tryd.isAgg145
  z196 := Tryd.sizeOf145
  v196 := Tryd.zeroValue145
  t198 := Tryd.underlying148
  a198 := Tryd.isAgg148
  z198 := Tryd.sizeOf148
  v198 := Tryd.zeroValue148
  t201 := Tryd.underlying151
  a201 := Tryd.isAgg151
  z201 := Tryd.sizeOf151
  v201 := Tryd.zeroValue151
  t226 := Tryd.underlying161
  a226 := Tryd.isAgg161
  z226 := Tryd.sizeOf161
  v226 := Tryd.zeroValue161
  t227 := Tryd.underlying162
  a227 := Tryd.isAgg162
  z227 := Tryd.sizeOf162
  v227 := Tryd.zeroValue162
  g0 := by kernel_rfl
  g6 := by kernel_rfl }
open Go.RowKit Go.Lib in
/-- strings.Fields, the table by 'Lib.TabIs' (as strings.TrimSpace's contract). 'hg': the table's number, by its name: at a dump 'by kernel_rfl'. (LAID: no walk: one application.) -/
theorem YtpdnigifoaoflaaDoor.strings_Fields (s : ByteArray) (w : World) (hs : s.size < 4294967281) (hascii : ∀ (j : Nat) b, s.data.toList[j]? = some b → b.toNat < 128) (htab : Lib.TabIs Tryd.prog w "strings.asciiSpace" .u8 Lib.asciiSpaceTab) :
    Calls Tryd.prog 23 #[.string s] w fun e w' =>
      e = .returned (.slice (some ⟨w.heap.size, 0, none⟩) (Lib.fields s.data.toList).length (Lib.fields s.data.toList).length) ∧ w' = w.alloc (.cells ((Lib.fields s.data.toList).map fun l => Value.string ⟨l.toArray⟩).toArray 9) := Any.strings_Fields YtpdnigifoaoflaaDoor.lays157 (by kernel_rfl) (by kernel_rfl) s w hs hascii htab
end Go.Proofs
