/-
  DERIVED: THE SHELF's CONTRACTS AT THIS DUMP, IN PLAIN WORDS (tools/lay-plain.mjs out of 'YtlfoiemjjalnlaaLay.lean', which tools/lay-shelf.mjs wrote): THE SAME DECLARATIONS UNDER THE SAME NAMES: 'import', 'namespace', 'open', 'def', 'theorem' AND NOTHING ELSE: no command of the shelf's: FOR A HAND-IN. Each laying: the table of numbers ('.._ren') and one theorem, a field a fact of the dump's own or the kernel's comparison; each contract: ONE APPLICATION.
-/
import Derived.Shelf.SlLaysF0
import Derived.Test.YtlfoiemjjalnlaaProg
namespace Go.Proofs
open Go.Shelf
def Ytlfoiemjjalnlaa.sortCall_ren : Go.Shelf.Ren := ⟨fun | 6 => 23 | 15 => 30 | 14 => 29 | 28 => 43 | 29 => 44 | 20 => 35 | 21 => 36 | 22 => 37 | 23 => 38 | 24 => 39 | 25 => 40 | 26 => 41 | 27 => 42 | 46 => 49 | 47 => 50 | 48 => 51 | 49 => 52 | 50 => 53 | 57 => 58 | n => n, fun | 22 => 45 | 24 => 48 | 25 => 89 | 3 => 3 | 39 => 90 | 0 => 0 | 53 => 28 | 55 => 29 | 4 => 4 | 46 => 103 | 45 => 102 | 50 => 107 | 5 => 5 | 9 => 9 | 66 => 115 | 70 => 119 | 76 => 124 | 77 => 125 | n => n, fun | n => n⟩
theorem Ytlfoiemjjalnlaa.sortCall : Go.Proofs.SlLaysF0.n6 Try.prog Ytlfoiemjjalnlaa.sortCall_ren := {
  mixed := by kernel_rfl
  f6 := ⟨Try.f23.name, by decide, Try.func23.trans (congrArg some (by kernel_rfl))⟩
  f14 := ⟨Try.f29.name, by decide, Try.func29.trans (congrArg some (by kernel_rfl))⟩
  f15 := Try.func30.trans (congrArg some (by kernel_rfl))
  f20 := ⟨Try.f35.name, by decide, Try.func35.trans (congrArg some (by kernel_rfl))⟩
  f21 := ⟨Try.f36.name, by decide, Try.func36.trans (congrArg some (by kernel_rfl))⟩
  f22 := ⟨Try.f37.name, by decide, Try.func37.trans (congrArg some (by kernel_rfl))⟩
  f23 := ⟨Try.f38.name, by decide, Try.func38.trans (congrArg some (by kernel_rfl))⟩
  f24 := ⟨Try.f39.name, by decide, Try.func39.trans (congrArg some (by kernel_rfl))⟩
  f25 := ⟨Try.f40.name, by decide, Try.func40.trans (congrArg some (by kernel_rfl))⟩
  f26 := ⟨Try.f41.name, by decide, Try.func41.trans (congrArg some (by kernel_rfl))⟩
  f27 := ⟨Try.f42.name, by decide, Try.func42.trans (congrArg some (by kernel_rfl))⟩
  f28 := Try.func43.trans (congrArg some (by kernel_rfl))
  f29 := Try.func44.trans (congrArg some (by kernel_rfl))
  f46 := ⟨Try.f49.name, by decide, Try.func49.trans (congrArg some (by kernel_rfl))⟩
  f47 := Try.func50.trans (congrArg some (by kernel_rfl))
  f48 := Try.func51.trans (congrArg some (by kernel_rfl))
  f49 := ⟨Try.f52.name, by decide, Try.func52.trans (congrArg some (by kernel_rfl))⟩
  f50 := ⟨Try.f53.name, by decide, Try.func53.trans (congrArg some (by kernel_rfl))⟩
  f57 := ⟨Try.f58.name, by decide, Try.func58.trans (congrArg some (by kernel_rfl))⟩
  t0 := Try.underlying0
  a0 := Try.isAgg0
  z0 := Try.sizeOf0
  v0 := Try.zeroValue0
  t3 := Try.underlying3
  a3 := Try.isAgg3
  z3 := Try.sizeOf3
  v3 := Try.zeroValue3
  t4 := Try.underlying4
  a4 := Try.isAgg4
  z4 := Try.sizeOf4
  v4 := Try.zeroValue4
  t5 := Try.underlying5
  a5 := Try.isAgg5
  z5 := Try.sizeOf5
  v5 := Try.zeroValue5
  t9 := Try.underlying9
  a9 := Try.isAgg9
  z9 := Try.sizeOf9
  v9 := Try.zeroValue9
  t22 := Try.underlying45
  a22 := Try.isAgg45
  z22 := Try.sizeOf45
  v22 := Try.zeroValue45
  t25 := Try.underlying89
  a25 := Try.isAgg89
  z25 := Try.sizeOf89
  v25 := Try.zeroValue89
  t39 := Try.underlying90
  a39 := Try.isAgg90
  z39 := Try.sizeOf90
  v39 := Try.zeroValue90
  t45 := Try.underlying102
  a45 := Try.isAgg102
  z45 := Try.sizeOf102
  v45 := Try.zeroValue102
  t46 := Try.underlying103
  a46 := Try.isAgg103
  z46 := Try.sizeOf103
  v46 := Try.zeroValue103
  t50 := Try.underlying107
  a50 := Try.isAgg107
  z50 := Try.sizeOf107
  v50 := Try.zeroValue107
  t53 := Try.underlying28
  a53 := Try.isAgg28
  z53 := Try.sizeOf28
  v53 := Try.zeroValue28
  t55 := Try.underlying29
  a55 := Try.isAgg29
  z55 := Try.sizeOf29
  v55 := Try.zeroValue29
  t66 := Try.underlying115
  a66 := Try.isAgg115
  z66 := Try.sizeOf115
  v66 := Try.zeroValue115
  t70 := Try.underlying119
  a70 := Try.isAgg119
  z70 := Try.sizeOf119
  v70 := Try.zeroValue119
  t76 := Try.underlying124
  a76 := Try.isAgg124
  z76 := Try.sizeOf124
  v76 := Try.zeroValue124
  t77 := Try.underlying125
  a77 := Try.isAgg125
  z77 := Try.sizeOf125
  v77 := Try.zeroValue125 }
end Go.Proofs
