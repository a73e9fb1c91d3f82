/-
  DERIVED: THE SHELF's CONTRACTS AT THIS DUMP, IN PLAIN WORDS (tools/lay-plain.mjs out of 'YtlhohhhnnffhaaaDoorLay.lean', which tools/lay-shelf.mjs wrote): THE SAME DECLARATIONS UNDER THE SAME NAMES: 'import', 'namespace', 'open', 'def', 'theorem' AND NOTHING ELSE: no command of the shelf's: FOR A HAND-IN. Each laying: the table of numbers ('.._ren') and one theorem, a field a fact of the dump's own or the kernel's comparison; each contract: ONE APPLICATION.
-/
import Derived.Shelf.Strings.OnBuilder
import Derived.Shelf.Strings.Search1
import Derived.Shelf.Strings.Search2
import Derived.Shelf.Strings.Search3
import Derived.Shelf.Strings.Count
import Derived.Test.YtlhohhhnnffhaaaDoorProg
namespace Go.Proofs
open Go.Shelf
def YtlhohhhnnffhaaaDoor.lays156_ren : Go.Shelf.Ren := ⟨fun | 156 => 29 | 165 => 37 | 166 => 38 | 169 => 39 | 240 => 47 | 241 => 48 | 276 => 58 | 277 => 59 | n => n, fun | 31 => 52 | 9 => 9 | 3 => 3 | 4 => 4 | 0 => 0 | 20 => 20 | 72 => 86 | 76 => 90 | 70 => 84 | 37 => 51 | 75 => 89 | 127 => 97 | 164 => 108 | 5 => 5 | 80 => 32 | n => n, fun | n => n⟩
theorem YtlhohhhnnffhaaaDoor.lays156 : Go.Proofs.Lays.n156 Tryd.prog YtlhohhhnnffhaaaDoor.lays156_ren := {
  mixed := by kernel_rfl
  f156 := Tryd.func29.trans (congrArg some (by kernel_rfl))
  f165 := Tryd.func37.trans (congrArg some (by kernel_rfl))
  f166 := Tryd.func38.trans (congrArg some (by kernel_rfl))
  f169 := Tryd.func39.trans (congrArg some (by kernel_rfl))
  f240 := Tryd.func47.trans (congrArg some (by kernel_rfl))
  f241 := Tryd.func48.trans (congrArg some (by kernel_rfl))
  f276 := Tryd.func58.trans (congrArg some (by kernel_rfl))
  f277 := Tryd.func59.trans (congrArg some (by kernel_rfl))
  t0 := Tryd.underlying0
  a0 := Tryd.isAgg0
  z0 := Tryd.sizeOf0
  v0 := Tryd.zeroValue0
  t3 := Tryd.underlying3
  a3 := Tryd.isAgg3
  z3 := Tryd.sizeOf3
  v3 := Tryd.zeroValue3
  t4 := Tryd.underlying4
  a4 := Tryd.isAgg4
  z4 := Tryd.sizeOf4
  v4 := Tryd.zeroValue4
  t9 := Tryd.underlying9
  a9 := Tryd.isAgg9
  z9 := Tryd.sizeOf9
  v9 := Tryd.zeroValue9
  t20 := Tryd.underlying20
  a20 := Tryd.isAgg20
  z20 := Tryd.sizeOf20
  v20 := Tryd.zeroValue20
  t31 := Tryd.underlying52
  a31 := Tryd.isAgg52
  z31 := Tryd.sizeOf52
  v31 := Tryd.zeroValue52
  t37 := Tryd.underlying51
  a37 := Tryd.isAgg51
  z37 := Tryd.sizeOf51
  v37 := Tryd.zeroValue51
  t70 := Tryd.underlying84
  a70 := Tryd.isAgg84
  z70 := Tryd.sizeOf84
  v70 := Tryd.zeroValue84
  t72 := Tryd.underlying86
  a72 := Tryd.isAgg86
  z72 := Tryd.sizeOf86
  v72 := Tryd.zeroValue86
  t75 := Tryd.underlying89
  a75 := Tryd.isAgg89
  z75 := Tryd.sizeOf89
  v75 := Tryd.zeroValue89
  t76 := Tryd.underlying90
  a76 := Tryd.isAgg90
  z76 := Tryd.sizeOf90
  v76 := Tryd.zeroValue90
  t127 := Tryd.underlying97
  a127 := Tryd.isAgg97
  z127 := Tryd.sizeOf97
  v127 := Tryd.zeroValue97
  t164 := Tryd.underlying108
  a164 := Tryd.isAgg108
  z164 := Tryd.sizeOf108
  v164 := Tryd.zeroValue108 }
theorem YtlhohhhnnffhaaaDoor.Builder_Extra_156 : Builder.Extra Tryd.prog YtlhohhhnnffhaaaDoor.lays156_ren := {
  sizeBuilder := by kernel_rfl
  liesBuilder := by kernel_rfl
  t5 := Tryd.underlying5
  a5 := Tryd.isAgg5
  z5 := Tryd.sizeOf5
  v5 := Tryd.zeroValue5
  infoByte := by kernel_rfl
  cellsByte := by kernel_rfl
  sizeByte := by kernel_rfl
  neB5 := by decide }
open Go.RowKit in
/-- No element: the empty string; the world is as it was. (Whatever the slice's address and capacity: a nil slice too.) (LAID: no walk: one application.) -/
theorem YtlhohhhnnffhaaaDoor.strings_Join_none (a : Option Addr) (c : Nat) (sep : ByteArray) (w : World) :
    Calls Tryd.prog 29 #[.slice a 0 c, .string sep] w fun e w' => e = .returned (.string ⟨#[]⟩) ∧ w' = w := Any.strings_Join_none YtlhohhhnnffhaaaDoor.lays156 YtlhohhhnnffhaaaDoor.Builder_Extra_156 a c sep w
open Go.RowKit in
/-- strings.Join: "Join concatenates the elements of its first argument to create a single string. The separator string sep is placed between elements in the resulting string.": HOWEVER MANY ELEMENTS. Below the heap's end the world is as it was. (LAID: no walk: one application.) -/
theorem YtlhohhhnnffhaaaDoor.strings_Join (bk o c : Nat) (xs : List ByteArray) (sep : ByteArray) (w : World) (hcells : ∀ (j : Nat) x, xs[j]? = some x → w.cell? ⟨bk, o + j, none⟩ = some (.string x)) (hbk : bk < w.heap.size) (hN : xs.length ≤ 140737488355328) (hcap : xs.length ≤ c) (hlen : (Lib.join (xs.map (·.data.toList)) sep.data.toList).length ≤ 140737488355328) :
    Calls Tryd.prog 29 #[.slice (some ⟨bk, o, none⟩) xs.length c, .string sep] w fun e w' => e = .returned (.string ⟨(Lib.join (xs.map (·.data.toList)) sep.data.toList).toArray⟩) ∧ Below w.heap.size w w' := Any.strings_Join YtlhohhhnnffhaaaDoor.lays156 YtlhohhhnnffhaaaDoor.Builder_Extra_156 bk o c xs sep w hcells hbk hN hcap hlen
def YtlhohhhnnffhaaaDoor.lays143_ren : Go.Shelf.Ren := ⟨fun | 143 => 46 | 219 => 57 | 217 => 65 | 225 => 66 | 224 => 67 | 267 => 68 | 266 => 77 | 314 => 78 | n => n, fun | 9 => 9 | 3 => 3 | 4 => 4 | 5 => 5 | 46 => 93 | 146 => 124 | 51 => 58 | n => n, fun | 1 => 0 | n => n⟩
theorem YtlhohhhnnffhaaaDoor.lays143 : Go.Proofs.Lays.n143 Tryd.prog YtlhohhhnnffhaaaDoor.lays143_ren := {
  mixed := by kernel_rfl
  f143 := Tryd.func46.trans (congrArg some (by kernel_rfl))
  f217 := Tryd.func65.trans (congrArg some (by kernel_rfl))
  f219 := Tryd.func57.trans (congrArg some (by kernel_rfl))
  f224 := Tryd.func67.trans (congrArg some (by kernel_rfl))
  f225 := Tryd.func66.trans (congrArg some (by kernel_rfl))
  f266 := Tryd.func77.trans (congrArg some (by kernel_rfl))
  f267 := Tryd.func68.trans (congrArg some (by kernel_rfl))
  f314 := Tryd.func78.trans (congrArg some (by kernel_rfl))
  t3 := Tryd.underlying3
  a3 := Tryd.isAgg3
  z3 := Tryd.sizeOf3
  v3 := Tryd.zeroValue3
  t4 := Tryd.underlying4
  a4 := Tryd.isAgg4
  z4 := Tryd.sizeOf4
  v4 := Tryd.zeroValue4
  t5 := Tryd.underlying5
  a5 := Tryd.isAgg5
  z5 := Tryd.sizeOf5
  v5 := Tryd.zeroValue5
  t9 := Tryd.underlying9
  a9 := Tryd.isAgg9
  z9 := Tryd.sizeOf9
  v9 := Tryd.zeroValue9
  t46 := Tryd.underlying93
  a46 := Tryd.isAgg93
  z46 := Tryd.sizeOf93
  v46 := Tryd.zeroValue93
  t51 := Tryd.underlying58
  a51 := Tryd.isAgg58
  z51 := Tryd.sizeOf58
  v51 := Tryd.zeroValue58
  t146 := Tryd.underlying124
  a146 := Tryd.isAgg124
  z146 := Tryd.sizeOf124
  v146 := Tryd.zeroValue124
  g1 := by kernel_rfl }
open Go.RowKit Go.Lib in
/-- strings.Index: "Index returns the index of the first instance of substr in s, or -1 if substr is not present in s.": AT A substr OF ONE BYTE c: IT RETURNS 'Lib.indexByte s c'; the world is as it was. (LAID: no walk: one application.) -/
theorem YtlhohhhnnffhaaaDoor.strings_Index_one (s : ByteArray) (c : UInt8) (w : World) :
    Calls Tryd.prog 46 #[.string s, .string ⟨#[c]⟩] w fun e w' => e = .returned (.int .i64 (Lib.indexByte s.data.toList c)) ∧ w' = w := Any.strings_Index_one YtlhohhhnnffhaaaDoor.lays143 s c w
def YtlhohhhnnffhaaaDoor.lays138_ren : Go.Shelf.Ren := ⟨fun | 138 => 45 | 195 => 54 | 218 => 56 | 143 => 46 | 219 => 57 | 217 => 65 | 225 => 66 | 224 => 67 | 267 => 68 | 266 => 77 | 314 => 78 | n => n, fun | 9 => 9 | 3 => 3 | 4 => 4 | 5 => 5 | 0 => 0 | 46 => 93 | 146 => 124 | 51 => 58 | n => n, fun | 1 => 0 | n => n⟩
theorem YtlhohhhnnffhaaaDoor.lays138 : Go.Proofs.Lays.n138 Tryd.prog YtlhohhhnnffhaaaDoor.lays138_ren := {
  mixed := by kernel_rfl
  f138 := Tryd.func45.trans (congrArg some (by kernel_rfl))
  f143 := Tryd.func46.trans (congrArg some (by kernel_rfl))
  f195 := Tryd.func54.trans (congrArg some (by kernel_rfl))
  f217 := Tryd.func65.trans (congrArg some (by kernel_rfl))
  f218 := Tryd.func56.trans (congrArg some (by kernel_rfl))
  f219 := Tryd.func57.trans (congrArg some (by kernel_rfl))
  f224 := Tryd.func67.trans (congrArg some (by kernel_rfl))
  f225 := Tryd.func66.trans (congrArg some (by kernel_rfl))
  f266 := Tryd.func77.trans (congrArg some (by kernel_rfl))
  f267 := Tryd.func68.trans (congrArg some (by kernel_rfl))
  f314 := Tryd.func78.trans (congrArg some (by kernel_rfl))
  t0 := Tryd.underlying0
  a0 := Tryd.isAgg0
  z0 := Tryd.sizeOf0
  v0 := Tryd.zeroValue0
  t3 := Tryd.underlying3
  a3 := Tryd.isAgg3
  z3 := Tryd.sizeOf3
  v3 := Tryd.zeroValue3
  t4 := Tryd.underlying4
  a4 := Tryd.isAgg4
  z4 := Tryd.sizeOf4
  v4 := Tryd.zeroValue4
  t5 := Tryd.underlying5
  a5 := Tryd.isAgg5
  z5 := Tryd.sizeOf5
  v5 := Tryd.zeroValue5
  t9 := Tryd.underlying9
  a9 := Tryd.isAgg9
  z9 := Tryd.sizeOf9
  v9 := Tryd.zeroValue9
  t46 := Tryd.underlying93
  a46 := Tryd.isAgg93
  z46 := Tryd.sizeOf93
  v46 := Tryd.zeroValue93
  t51 := Tryd.underlying58
  a51 := Tryd.isAgg58
  z51 := Tryd.sizeOf58
  v51 := Tryd.zeroValue58
  t146 := Tryd.underlying124
  a146 := Tryd.isAgg124
  z146 := Tryd.sizeOf124
  v146 := Tryd.zeroValue124
  g1 := by kernel_rfl }
open Go.RowKit Go.Lib in
/-- strings.Count AT A substr OF ONE BYTE ('hp'): "Count counts the number of non-overlapping instances of substr in s.": IT RETURNS 'Lib.countByte s (that byte)'; the world is as it was. ✋ NO CONTRACT HERE YET at an empty substr (utf8.RuneCountInString) or at a longer one (a loop over strings.Index). (LAID: no walk: one application.) -/
theorem YtlhohhhnnffhaaaDoor.strings_Count_one (s : ByteArray) (c : UInt8) (w : World) :
    Calls Tryd.prog 45 #[.string s, .string ⟨#[c]⟩] w fun e w' => e = .returned (.int .i64 (Lib.countByte s.data.toList c)) ∧ w' = w := Any.strings_Count_one YtlhohhhnnffhaaaDoor.lays138 s c w
end Go.Proofs
