/-
  DERIVED: THE SHELF's CONTRACTS AT THIS DUMP, IN PLAIN WORDS (tools/lay-plain.mjs out of 'YtmicafpfkpnalaaDoorLay2.lean', which tools/lay-shelf.mjs wrote): THE SAME DECLARATIONS UNDER THE SAME NAMES: 'import', 'namespace', 'open', 'def', 'theorem' AND NOTHING ELSE: no command of the shelf's: FOR A HAND-IN. Each laying: the table of numbers ('.._ren') and one theorem, a field a fact of the dump's own or the kernel's comparison; each contract: ONE APPLICATION.
-/
import Derived.Shelf.Strings.Builder1
import Derived.Shelf.Strings.Search1
import Derived.Shelf.Strings.Search2
import Derived.Shelf.Strings.Search3
import Derived.Shelf.Strings.Count
import Derived.Shelf.Strings.Fields
import Derived.Test.YtmicafpfkpnalaaDoorProg
namespace Go.Proofs
open Go.Shelf
def YtmicafpfkpnalaaDoor.lays157_ren : Go.Shelf.Ren := ⟨fun | 157 => 45 | 229 => 75 | 199 => 76 | 261 => 102 | 311 => 114 | 312 => 115 | n => n, fun | 9 => 9 | 31 => 55 | 3 => 3 | 5 => 5 | 4 => 4 | 119 => 186 | 0 => 0 | 40 => 188 | 152 => 211 | 21 => 21 | 154 => 213 | 51 => 30 | 141 => 215 | 196 => 228 | 193 => 225 | 198 => 230 | 49 => 29 | 194 => 226 | 201 => 233 | 226 => 239 | 46 => 136 | 227 => 240 | n => n, fun | 0 => 0 | 6 => 1 | n => n⟩
theorem YtmicafpfkpnalaaDoor.lays157 : Go.Proofs.Lays.n157 Tryd.prog YtmicafpfkpnalaaDoor.lays157_ren := {
  mixed := by kernel_rfl
  f157 := Tryd.func45.trans (congrArg some (by kernel_rfl))
  f199 := Tryd.func76.trans (congrArg some (by kernel_rfl))
  f229 := Tryd.func75.trans (congrArg some (by kernel_rfl))
  f261 := Tryd.func102.trans (congrArg some (by kernel_rfl))
  f311 := Tryd.func114.trans (congrArg some (by kernel_rfl))
  f312 := Tryd.func115.trans (congrArg some (by kernel_rfl))
  t0 := Tryd.underlying0
  a0 := Tryd.isAgg0
  z0 := Tryd.sizeOf0
  v0 := Tryd.zeroValue0
  t3 := Tryd.underlying3
  a3 := Tryd.isAgg3
  z3 := Tryd.sizeOf3
  v3 := Tryd.zeroValue3
  t4 := Tryd.underlying4
  a4 := Tryd.isAgg4
  z4 := Tryd.sizeOf4
  v4 := Tryd.zeroValue4
  t5 := Tryd.underlying5
  a5 := Tryd.isAgg5
  z5 := Tryd.sizeOf5
  v5 := Tryd.zeroValue5
  t9 := Tryd.underlying9
  a9 := Tryd.isAgg9
  z9 := Tryd.sizeOf9
  v9 := Tryd.zeroValue9
  t21 := Tryd.underlying21
  a21 := Tryd.isAgg21
  z21 := Tryd.sizeOf21
  v21 := Tryd.zeroValue21
  t31 := Tryd.underlying55
  a31 := Tryd.isAgg55
  z31 := Tryd.sizeOf55
  v31 := Tryd.zeroValue55
  t40 := Tryd.underlying188
  a40 := Tryd.isAgg188
  z40 := Tryd.sizeOf188
  v40 := Tryd.zeroValue188
  t46 := Tryd.underlying136
  a46 := Tryd.isAgg136
  z46 := Tryd.sizeOf136
  v46 := Tryd.zeroValue136
  t49 := Tryd.underlying29
  a49 := Tryd.isAgg29
  z49 := Tryd.sizeOf29
  v49 := Tryd.zeroValue29
  t51 := Tryd.underlying30
  a51 := Tryd.isAgg30
  z51 := Tryd.sizeOf30
  v51 := Tryd.zeroValue30
  t119 := Tryd.underlying186
  a119 := Tryd.isAgg186
  z119 := Tryd.sizeOf186
  t141 := Tryd.underlying215
  a141 := Tryd.isAgg215
  z141 := Tryd.sizeOf215
  v141 := Tryd.zeroValue215
  t152 := Tryd.underlying211
  a152 := Tryd.isAgg211
  z152 := Tryd.sizeOf211
  v152 := Tryd.zeroValue211
  t154 := Tryd.underlying213
  a154 := Tryd.isAgg213
  z154 := Tryd.sizeOf213
  v154 := Tryd.zeroValue213
  t193 := Tryd.underlying225
  a193 := Tryd.isAgg225
  z193 := Tryd.sizeOf225
  v193 := Tryd.zeroValue225
  t194 := Tryd.underlying226
  a194 := Tryd.isAgg226
  z194 := Tryd.sizeOf226
  v194 := Tryd.zeroValue226
  t196 := Tryd.underlying228
  a196 := Tryd.isAgg228
  z196 := Tryd.sizeOf228
  v196 := Tryd.zeroValue228
  t198 := Tryd.underlying230
  a198 := Tryd.isAgg230
  z198 := Tryd.sizeOf230
  v198 := Tryd.zeroValue230
  t201 := Tryd.underlying233
  a201 := Tryd.isAgg233
  z201 := Tryd.sizeOf233
  v201 := Tryd.zeroValue233
  t226 := Tryd.underlying239
  a226 := Tryd.isAgg239
  z226 := Tryd.sizeOf239
  v226 := Tryd.zeroValue239
  t227 := Tryd.underlying240
  a227 := Tryd.isAgg240
  z227 := Tryd.sizeOf240
  v227 := Tryd.zeroValue240
  g0 := by kernel_rfl
  g6 := by kernel_rfl }
open Go.RowKit Go.Lib in
/-- strings.Fields, the table by 'Lib.TabIs' (as strings.TrimSpace's contract). 'hg': the table's number, by its name: at a dump 'by kernel_rfl'. (LAID: no walk: one application.) -/
theorem YtmicafpfkpnalaaDoor.strings_Fields (s : ByteArray) (w : World) (hs : s.size < 4294967281) (hascii : ∀ (j : Nat) b, s.data.toList[j]? = some b → b.toNat < 128) (htab : Lib.TabIs Tryd.prog w "strings.asciiSpace" .u8 Lib.asciiSpaceTab) :
    Calls Tryd.prog 45 #[.string s] w fun e w' =>
      e = .returned (.slice (some ⟨w.heap.size, 0, none⟩) (Lib.fields s.data.toList).length (Lib.fields s.data.toList).length) ∧ w' = w.alloc (.cells ((Lib.fields s.data.toList).map fun l => Value.string ⟨l.toArray⟩).toArray 9) := Any.strings_Fields YtmicafpfkpnalaaDoor.lays157 (by kernel_rfl) (by kernel_rfl) s w hs hascii htab
end Go.Proofs
