/- Part 2 of what the last text of this claim leans on: rules of walks, contracts, plain facts. Conditions: those of each statement. -/
import Derived.Test.YtecbgehooembmaaDoorQp1
set_option maxRecDepth 100000
namespace Go.Proofs.YtecbgehooembmaaDoor
open Go Go.RowKit
theorem sz_5 : (Tryd.prog.info? 5).map (·.size) = some 1 := by kernel_rfl
theorem sz_9 : (Tryd.prog.info? 9).map (·.size) = some 1 := by kernel_rfl
theorem sz_25 : (Tryd.prog.info? 25).map (·.size) = some 1 := by kernel_rfl
theorem sz_30 : (Tryd.prog.info? 30).map (·.size) = some 6 := by kernel_rfl
theorem sz_35 : (Tryd.prog.info? 35).map (·.size) = some 8 := by kernel_rfl
theorem sz_37 : (Tryd.prog.info? 37).map (·.size) = some 1 := by kernel_rfl
theorem sz_39 : (Tryd.prog.info? 39).map (·.size) = some 4 := by kernel_rfl
theorem sz_47 : (Tryd.prog.info? 47).map (·.size) = some 3 := by kernel_rfl
theorem sz_49 : (Tryd.prog.info? 49).map (·.size) = some 2 := by kernel_rfl
theorem sz_51 : (Tryd.prog.info? 51).map (·.size) = some 2 := by kernel_rfl
theorem sz_60 : (Tryd.prog.info? 60).map (·.size) = some 6 := by kernel_rfl
theorem sz_65 : (Tryd.prog.info? 65).map (·.size) = some 4 := by kernel_rfl
theorem sz_93 : (Tryd.prog.info? 93).map (·.size) = some 4 := by kernel_rfl
theorem sz_95 : (Tryd.prog.info? 95).map (·.size) = some 3 := by kernel_rfl
theorem sz_97 : (Tryd.prog.info? 97).map (·.size) = some 4 := by kernel_rfl
theorem sz_109 : (Tryd.prog.info? 109).map (·.size) = some 3 := by kernel_rfl
theorem sz_113 : (Tryd.prog.info? 113).map (·.size) = some 2 := by kernel_rfl
theorem sz_116 : (Tryd.prog.info? 116).map (·.size) = some 2 := by kernel_rfl
theorem sz_123 : (Tryd.prog.info? 123).map (·.size) = some 3 := by kernel_rfl
theorem sz_128 : (Tryd.prog.info? 128).map (·.size) = some 7 := by kernel_rfl
theorem fo_30_0 : FldOff Tryd.prog 30 0 0 := .of Tryd.underlying30 rfl (by kernel_rfl) rfl
theorem fo_30_1 : FldOff Tryd.prog 30 1 1 := .of Tryd.underlying30 rfl (by kernel_rfl) rfl
theorem h2n : FldOff Tryd.prog 30 2 2 := .of Tryd.underlying30 rfl (by kernel_rfl) rfl
theorem fo_30_3 : FldOff Tryd.prog 30 3 3 := .of Tryd.underlying30 rfl (by kernel_rfl) rfl
theorem h3k : FldOff Tryd.prog 30 4 4 := .of Tryd.underlying30 rfl (by kernel_rfl) rfl
theorem h4m : FldOff Tryd.prog 30 5 5 := .of Tryd.underlying30 rfl (by kernel_rfl) rfl
theorem fo_35_0 : FldOff Tryd.prog 35 0 0 := .of Tryd.underlying35 rfl (by kernel_rfl) rfl
theorem fo_35_1 : FldOff Tryd.prog 35 1 1 := .of Tryd.underlying35 rfl (by kernel_rfl) rfl
theorem fo_35_2 : FldOff Tryd.prog 35 2 2 := .of Tryd.underlying35 rfl (by kernel_rfl) rfl
theorem fo_35_3 : FldOff Tryd.prog 35 3 3 := .of Tryd.underlying35 rfl (by kernel_rfl) rfl
theorem fo_35_4 : FldOff Tryd.prog 35 4 4 := .of Tryd.underlying35 rfl (by kernel_rfl) rfl
theorem fo_35_5 : FldOff Tryd.prog 35 5 5 := .of Tryd.underlying35 rfl (by kernel_rfl) rfl
theorem fo_35_6 : FldOff Tryd.prog 35 6 6 := .of Tryd.underlying35 rfl (by kernel_rfl) rfl
theorem fo_35_7 : FldOff Tryd.prog 35 7 7 := .of Tryd.underlying35 rfl (by kernel_rfl) rfl
theorem h3j : FldOff Tryd.prog 39 0 0 := .of Tryd.underlying39 rfl (by kernel_rfl) rfl
theorem h2p : FldOff Tryd.prog 39 1 1 := .of Tryd.underlying39 rfl (by kernel_rfl) rfl
theorem fo_39_2 : FldOff Tryd.prog 39 2 2 := .of Tryd.underlying39 rfl (by kernel_rfl) rfl
theorem fo_39_3 : FldOff Tryd.prog 39 3 3 := .of Tryd.underlying39 rfl (by kernel_rfl) rfl
theorem fo_47_0 : FldOff Tryd.prog 47 0 0 := .of Tryd.underlying47 rfl (by kernel_rfl) rfl
theorem fo_47_1 : FldOff Tryd.prog 47 1 1 := .of Tryd.underlying47 rfl (by kernel_rfl) rfl
theorem h3w : FldOff Tryd.prog 47 2 2 := .of Tryd.underlying47 rfl (by kernel_rfl) rfl
theorem fo_49_0 : FldOff Tryd.prog 49 0 0 := .of Tryd.underlying49 rfl (by kernel_rfl) rfl
theorem fo_49_1 : FldOff Tryd.prog 49 1 1 := .of Tryd.underlying49 rfl (by kernel_rfl) rfl
theorem fo_51_0 : FldOff Tryd.prog 51 0 0 := .of Tryd.underlying51 rfl (by kernel_rfl) rfl
theorem fo_51_1 : FldOff Tryd.prog 51 1 1 := .of Tryd.underlying51 rfl (by kernel_rfl) rfl
theorem fo_60_0 : FldOff Tryd.prog 60 0 0 := .of Tryd.underlying60 rfl (by kernel_rfl) rfl
theorem fo_60_1 : FldOff Tryd.prog 60 1 1 := .of Tryd.underlying60 rfl (by kernel_rfl) rfl
theorem h3s : FldOff Tryd.prog 60 2 2 := .of Tryd.underlying60 rfl (by kernel_rfl) rfl
theorem fo_60_3 : FldOff Tryd.prog 60 3 3 := .of Tryd.underlying60 rfl (by kernel_rfl) rfl
theorem h3o : FldOff Tryd.prog 60 4 4 := .of Tryd.underlying60 rfl (by kernel_rfl) rfl
theorem h3z : FldOff Tryd.prog 60 5 5 := .of Tryd.underlying60 rfl (by kernel_rfl) rfl
theorem h3v : FldOff Tryd.prog 65 0 0 := .of Tryd.underlying65 rfl (by kernel_rfl) rfl
theorem h2y : FldOff Tryd.prog 65 1 1 := .of Tryd.underlying65 rfl (by kernel_rfl) rfl
theorem fo_65_2 : FldOff Tryd.prog 65 2 2 := .of Tryd.underlying65 rfl (by kernel_rfl) rfl
theorem fo_65_3 : FldOff Tryd.prog 65 3 3 := .of Tryd.underlying65 rfl (by kernel_rfl) rfl
theorem fo_84_2 : FldOff Tryd.prog 84 2 0 := .of Tryd.underlying84 rfl (by kernel_rfl) rfl
theorem fo_86_0 : FldOff Tryd.prog 86 0 0 := .of Tryd.underlying86 rfl (by kernel_rfl) rfl
theorem fo_86_1 : FldOff Tryd.prog 86 1 3 := .of Tryd.underlying86 rfl (by kernel_rfl) rfl
theorem fo_86_2 : FldOff Tryd.prog 86 2 4 := .of Tryd.underlying86 rfl (by kernel_rfl) rfl
theorem fo_86_3 : FldOff Tryd.prog 86 3 5 := .of Tryd.underlying86 rfl (by kernel_rfl) rfl
theorem fo_86_4 : FldOff Tryd.prog 86 4 6 := .of Tryd.underlying86 rfl (by kernel_rfl) rfl
theorem fo_93_0 : FldOff Tryd.prog 93 0 0 := .of Tryd.underlying93 rfl (by kernel_rfl) rfl
theorem fo_93_1 : FldOff Tryd.prog 93 1 1 := .of Tryd.underlying93 rfl (by kernel_rfl) rfl
theorem fo_93_2 : FldOff Tryd.prog 93 2 2 := .of Tryd.underlying93 rfl (by kernel_rfl) rfl
theorem fo_93_3 : FldOff Tryd.prog 93 3 3 := .of Tryd.underlying93 rfl (by kernel_rfl) rfl
theorem fo_95_0 : FldOff Tryd.prog 95 0 0 := .of Tryd.underlying95 rfl (by kernel_rfl) rfl
theorem fo_97_0 : FldOff Tryd.prog 97 0 0 := .of Tryd.underlying97 rfl (by kernel_rfl) rfl
theorem fo_97_1 : FldOff Tryd.prog 97 1 1 := .of Tryd.underlying97 rfl (by kernel_rfl) rfl
theorem fo_97_2 : FldOff Tryd.prog 97 2 2 := .of Tryd.underlying97 rfl (by kernel_rfl) rfl
theorem fo_97_3 : FldOff Tryd.prog 97 3 3 := .of Tryd.underlying97 rfl (by kernel_rfl) rfl
theorem fo_109_0 : FldOff Tryd.prog 109 0 0 := .of Tryd.underlying109 rfl (by kernel_rfl) rfl
theorem fo_109_1 : FldOff Tryd.prog 109 1 1 := .of Tryd.underlying109 rfl (by kernel_rfl) rfl
theorem h3b : FldOff Tryd.prog 109 2 2 := .of Tryd.underlying109 rfl (by kernel_rfl) rfl
theorem fo_113_0 : FldOff Tryd.prog 113 0 0 := .of Tryd.underlying113 rfl (by kernel_rfl) rfl
theorem fo_113_1 : FldOff Tryd.prog 113 1 1 := .of Tryd.underlying113 rfl (by kernel_rfl) rfl
theorem fo_116_0 : FldOff Tryd.prog 116 0 0 := .of Tryd.underlying116 rfl (by kernel_rfl) rfl
theorem fo_116_1 : FldOff Tryd.prog 116 1 1 := .of Tryd.underlying116 rfl (by kernel_rfl) rfl
theorem fo_123_0 : FldOff Tryd.prog 123 0 0 := .of Tryd.underlying123 rfl (by kernel_rfl) rfl
theorem fo_123_1 : FldOff Tryd.prog 123 1 1 := .of Tryd.underlying123 rfl (by kernel_rfl) rfl
theorem inf_9 : (Tryd.prog.info? 9).map (fun i => (i.zero, i.size, i.bytes)) = some (some (Value.string ⟨#[]⟩), 1, 16) := by kernel_rfl
theorem inf_9_i : Tryd.prog.info? 9 = some ((Tryd.prog.info? 9).getD default) := (h2f inf_9).1
theorem inf_9_z : ((Tryd.prog.info? 9).getD default).zero = some (Value.string ⟨#[]⟩) := (h2f inf_9).2.1
theorem inf_9_s : ((Tryd.prog.info? 9).getD default).size = 1 := (h2f inf_9).2.2.1
theorem inf_9_b : ((Tryd.prog.info? 9).getD default).bytes = 16 := (h2f inf_9).2.2.2
theorem inf_39 : (Tryd.prog.info? 39).map (fun i => (i.zero, i.size, i.bytes)) = some (some (Value.agg #[Value.int .i64 0, Value.int .u8 0, Value.int .u64 0, Value.int .u64 0]), 4, 32) := by kernel_rfl
theorem inf_39_i : Tryd.prog.info? 39 = some ((Tryd.prog.info? 39).getD default) := (h2f inf_39).1
theorem inf_39_z : ((Tryd.prog.info? 39).getD default).zero = some (Value.agg #[Value.int .i64 0, Value.int .u8 0, Value.int .u64 0, Value.int .u64 0]) := (h2f inf_39).2.1
theorem inf_39_s : ((Tryd.prog.info? 39).getD default).size = 4 := (h2f inf_39).2.2.1
theorem inf_39_b : ((Tryd.prog.info? 39).getD default).bytes = 32 := (h2f inf_39).2.2.2
theorem inf_47 : (Tryd.prog.info? 47).map (fun i => (i.zero, i.size, i.bytes)) = some (some (Value.agg #[Value.int .u32 0, Value.int .u32 0, Value.slice none 0 0]), 3, 32) := by kernel_rfl
theorem inf_47_i : Tryd.prog.info? 47 = some ((Tryd.prog.info? 47).getD default) := (h2f inf_47).1
theorem inf_47_z : ((Tryd.prog.info? 47).getD default).zero = some (Value.agg #[Value.int .u32 0, Value.int .u32 0, Value.slice none 0 0]) := (h2f inf_47).2.1
theorem inf_47_s : ((Tryd.prog.info? 47).getD default).size = 3 := (h2f inf_47).2.2.1
theorem inf_47_b : ((Tryd.prog.info? 47).getD default).bytes = 32 := (h2f inf_47).2.2.2
theorem inf_49 : (Tryd.prog.info? 49).map (fun i => (i.zero, i.size, i.bytes)) = some (some (Value.agg #[Value.string ⟨#[]⟩, Value.int .u16 0]), 2, 24) := by kernel_rfl
theorem inf_49_i : Tryd.prog.info? 49 = some ((Tryd.prog.info? 49).getD default) := (h2f inf_49).1
theorem inf_49_z : ((Tryd.prog.info? 49).getD default).zero = some (Value.agg #[Value.string ⟨#[]⟩, Value.int .u16 0]) := (h2f inf_49).2.1
theorem inf_49_s : ((Tryd.prog.info? 49).getD default).size = 2 := (h2f inf_49).2.2.1
theorem inf_49_b : ((Tryd.prog.info? 49).getD default).bytes = 24 := (h2f inf_49).2.2.2
theorem inf_51 : (Tryd.prog.info? 51).map (fun i => (i.zero, i.size, i.bytes)) = some (some (Value.agg #[Value.int .u16 0, Value.int .u16 0]), 2, 4) := by kernel_rfl
theorem inf_51_i : Tryd.prog.info? 51 = some ((Tryd.prog.info? 51).getD default) := (h2f inf_51).1
theorem inf_51_z : ((Tryd.prog.info? 51).getD default).zero = some (Value.agg #[Value.int .u16 0, Value.int .u16 0]) := (h2f inf_51).2.1
theorem inf_51_s : ((Tryd.prog.info? 51).getD default).size = 2 := (h2f inf_51).2.2.1
theorem inf_51_b : ((Tryd.prog.info? 51).getD default).bytes = 4 := (h2f inf_51).2.2.2
theorem inf_65 : (Tryd.prog.info? 65).map (fun i => (i.zero, i.size, i.bytes)) = some (some (Value.agg #[Value.int .i64 0, Value.int .i64 0, Value.int .u64 0, Value.int .u64 0]), 4, 32) := by kernel_rfl
theorem inf_65_i : Tryd.prog.info? 65 = some ((Tryd.prog.info? 65).getD default) := (h2f inf_65).1
theorem inf_65_z : ((Tryd.prog.info? 65).getD default).zero = some (Value.agg #[Value.int .i64 0, Value.int .i64 0, Value.int .u64 0, Value.int .u64 0]) := (h2f inf_65).2.1
theorem inf_65_s : ((Tryd.prog.info? 65).getD default).size = 4 := (h2f inf_65).2.2.1
theorem inf_65_b : ((Tryd.prog.info? 65).getD default).bytes = 32 := (h2f inf_65).2.2.2
theorem inf_109 : (Tryd.prog.info? 109).map (fun i => (i.zero, i.size, i.bytes)) = some (some (Value.agg #[Value.int .u32 0, Value.int .u32 0, Value.slice none 0 0]), 3, 32) := by kernel_rfl
theorem inf_109_i : Tryd.prog.info? 109 = some ((Tryd.prog.info? 109).getD default) := (h2f inf_109).1
theorem inf_109_z : ((Tryd.prog.info? 109).getD default).zero = some (Value.agg #[Value.int .u32 0, Value.int .u32 0, Value.slice none 0 0]) := (h2f inf_109).2.1
theorem inf_109_s : ((Tryd.prog.info? 109).getD default).size = 3 := (h2f inf_109).2.2.1
theorem inf_109_b : ((Tryd.prog.info? 109).getD default).bytes = 32 := (h2f inf_109).2.2.2
theorem inf_113 : (Tryd.prog.info? 113).map (fun i => (i.zero, i.size, i.bytes)) = some (some (Value.agg #[Value.string ⟨#[]⟩, Value.int .i64 0]), 2, 24) := by kernel_rfl
theorem inf_113_i : Tryd.prog.info? 113 = some ((Tryd.prog.info? 113).getD default) := (h2f inf_113).1
theorem inf_113_z : ((Tryd.prog.info? 113).getD default).zero = some (Value.agg #[Value.string ⟨#[]⟩, Value.int .i64 0]) := (h2f inf_113).2.1
theorem inf_113_s : ((Tryd.prog.info? 113).getD default).size = 2 := (h2f inf_113).2.2.1
theorem inf_113_b : ((Tryd.prog.info? 113).getD default).bytes = 24 := (h2f inf_113).2.2.2
theorem inf_116 : (Tryd.prog.info? 116).map (fun i => (i.zero, i.size, i.bytes)) = some (some (Value.agg #[Value.int .i64 0, Value.int .i64 0]), 2, 16) := by kernel_rfl
theorem inf_116_i : Tryd.prog.info? 116 = some ((Tryd.prog.info? 116).getD default) := (h2f inf_116).1
theorem inf_116_z : ((Tryd.prog.info? 116).getD default).zero = some (Value.agg #[Value.int .i64 0, Value.int .i64 0]) := (h2f inf_116).2.1
theorem inf_116_s : ((Tryd.prog.info? 116).getD default).size = 2 := (h2f inf_116).2.2.1
theorem inf_116_b : ((Tryd.prog.info? 116).getD default).bytes = 16 := (h2f inf_116).2.2.2
end Go.Proofs.YtecbgehooembmaaDoor
namespace Go.Proofs
open Go.Shelf
open Go.RowKit Go.Lib in
def YtecbgehooembmaaDoor.lays143_ren : Go.Shelf.Ren := ⟨fun | 143 => 57 | 219 => 65 | 217 => 71 | 225 => 72 | 224 => 73 | 267 => 74 | 266 => 83 | 314 => 84 | n => n, fun | 9 => 9 | 3 => 3 | 4 => 4 | 5 => 5 | 46 => 155 | 146 => 167 | 51 => 22 | n => n, fun | 1 => 0 | n => n⟩
theorem YtecbgehooembmaaDoor.lays143 : Go.Proofs.Lays.n143 Tryd.prog YtecbgehooembmaaDoor.lays143_ren := {
 mixed := by kernel_rfl
 f143 := Tryd.func57.trans (congrArg some (by kernel_rfl))
 f217 := Tryd.func71.trans (congrArg some (by kernel_rfl))
 f219 := Tryd.func65.trans (congrArg some (by kernel_rfl))
 f224 := Tryd.func73.trans (congrArg some (by kernel_rfl))
 f225 := Tryd.func72.trans (congrArg some (by kernel_rfl))
 f266 := Tryd.func83.trans (congrArg some (by kernel_rfl))
 f267 := Tryd.func74.trans (congrArg some (by kernel_rfl))
 f314 := Tryd.func84.trans (congrArg some (by kernel_rfl))
 t3 := Tryd.underlying3
 a3 := Tryd.isAgg3
 z3 := Tryd.sizeOf3
 v3 := Tryd.zeroValue3
 t4 := Tryd.underlying4
 a4 := Tryd.isAgg4
 z4 := Tryd.sizeOf4
 v4 := Tryd.zeroValue4
 t5 := Tryd.underlying5
 a5 := Tryd.isAgg5
 z5 := Tryd.sizeOf5
 v5 := Tryd.zeroValue5
 t9 := Tryd.underlying9
 a9 := Tryd.isAgg9
 z9 := Tryd.sizeOf9
 v9 := Tryd.zeroValue9
 t46 := Tryd.underlying155
 a46 := Tryd.isAgg155
 z46 := Tryd.sizeOf155
 v46 := Tryd.zeroValue155
 t51 := Tryd.underlying22
 a51 := Tryd.isAgg22
 z51 := Tryd.sizeOf22
 v51 := Tryd.zeroValue22
 t146 := Tryd.underlying167
 a146 := Tryd.isAgg167
 z146 := Tryd.sizeOf167
 v146 := Tryd.zeroValue167
 g1 := by kernel_rfl }
open Go.RowKit Go.Lib in
theorem YtecbgehooembmaaDoor.strings_Index_one (s : ByteArray) (c : UInt8) (w : World) :
  Calls Tryd.prog 57 #[.string s, .string ⟨#[c]⟩] w fun e w' => e = .returned (.int .i64 (Lib.indexByte s.data.toList c)) ∧ w' = w := Any.strings_Index_one YtecbgehooembmaaDoor.lays143 s c w
def YtecbgehooembmaaDoor.lays138_ren : Go.Shelf.Ren := ⟨fun | 138 => 56 | 195 => 62 | 218 => 64 | 143 => 57 | 219 => 65 | 217 => 71 | 225 => 72 | 224 => 73 | 267 => 74 | 266 => 83 | 314 => 84 | n => n, fun | 9 => 9 | 3 => 3 | 4 => 4 | 5 => 5 | 0 => 0 | 46 => 155 | 146 => 167 | 51 => 22 | n => n, fun | 1 => 0 | n => n⟩
theorem YtecbgehooembmaaDoor.lays138 : Go.Proofs.Lays.n138 Tryd.prog YtecbgehooembmaaDoor.lays138_ren := {
 mixed := by kernel_rfl
 f138 := Tryd.func56.trans (congrArg some (by kernel_rfl))
 f143 := Tryd.func57.trans (congrArg some (by kernel_rfl))
 f195 := Tryd.func62.trans (congrArg some (by kernel_rfl))
 f217 := Tryd.func71.trans (congrArg some (by kernel_rfl))
 f218 := Tryd.func64.trans (congrArg some (by kernel_rfl))
 f219 := Tryd.func65.trans (congrArg some (by kernel_rfl))
 f224 := Tryd.func73.trans (congrArg some (by kernel_rfl))
 f225 := Tryd.func72.trans (congrArg some (by kernel_rfl))
 f266 := Tryd.func83.trans (congrArg some (by kernel_rfl))
 f267 := Tryd.func74.trans (congrArg some (by kernel_rfl))
 f314 := Tryd.func84.trans (congrArg some (by kernel_rfl))
 t0 := Tryd.underlying0
 a0 := Tryd.isAgg0
 z0 := Tryd.sizeOf0
 v0 := Tryd.zeroValue0
 t3 := Tryd.underlying3
 a3 := Tryd.isAgg3
 z3 := Tryd.sizeOf3
 v3 := Tryd.zeroValue3
 t4 := Tryd.underlying4
 a4 := Tryd.isAgg4
 z4 := Tryd.sizeOf4
 v4 := Tryd.zeroValue4
 t5 := Tryd.underlying5
 a5 := Tryd.isAgg5
 z5 := Tryd.sizeOf5
 v5 := Tryd.zeroValue5
 t9 := Tryd.underlying9
 a9 := Tryd.isAgg9
 z9 := Tryd.sizeOf9
 v9 := Tryd.zeroValue9
 t46 := Tryd.underlying155
 a46 := Tryd.isAgg155
 z46 := Tryd.sizeOf155
 v46 := Tryd.zeroValue155
 t51 := Tryd.underlying22
 a51 := Tryd.isAgg22
 z51 := Tryd.sizeOf22
 v51 := Tryd.zeroValue22
 t146 := Tryd.underlying167
 a146 := Tryd.isAgg167
 z146 := Tryd.sizeOf167
 v146 := Tryd.zeroValue167
 g1 := by kernel_rfl }
open Go.RowKit Go.Lib in
theorem YtecbgehooembmaaDoor.strings_Count_one (s : ByteArray) (c : UInt8) (w : World) :
  Calls Tryd.prog 56 #[.string s, .string ⟨#[c]⟩] w fun e w' => e = .returned (.int .i64 (Lib.countByte s.data.toList c)) ∧ w' = w := Any.strings_Count_one YtecbgehooembmaaDoor.lays138 s c w
end Go.Proofs
namespace Go.Proofs.YtecbgehooembmaaDoor
open Go Go.RowKit
def h2x (c : UInt8) : List UInt8 → List (List UInt8)
 | [] => [[]]
 | b :: r => if b = c then [] :: h2x c r else (b :: (h2x c r).headD []) :: (h2x c r).tail
theorem splitC_ne (c : UInt8) (l : List UInt8) : h2x c l ≠ [] := by
 cases l with
 | nil => simp [h2x]
 | cons b r => rw [h2x]; split <;> simp
theorem splitC_len (c : UInt8) (l : List UInt8) : (h2x c l).length = l.count c + 1 := by
 induction l with
 | nil => rfl
 | cons b r ih =>
  rw [h2x, List.count_cons]
  by_cases h : b = c
  ·rw [if_pos h, List.length_cons, ih]; simp [h]
  ·rw [if_neg h, List.length_cons, List.length_tail, ih]; simp [h]
theorem ix_none {c : UInt8} {l : List UInt8} (h : l.count c = 0) : h2x c l = [l] := by
 induction l with
 | nil => rfl
 | cons b r ih =>
  rw [List.count_cons] at h
  have hb : b ≠ c := by intro e; simp [e] at h
  rw [h2x, if_neg hb, ih (by omega)]; rfl
theorem ix_some {c : UInt8} {l : List UInt8} (h : 0 < l.count c) : ∃ m : Nat, Lib.indexByte l c = (m : Int) ∧ m < l.length ∧ h2x c l = l.take m :: h2x c (l.drop (m + 1)) ∧ l.count c = (l.drop (m + 1)).count c + 1 := by
 induction l with
 | nil => simp at h
 | cons b r ih =>
  rw [List.count_cons] at h
  by_cases hb : b = c
  ·exact ⟨0, by simp [Lib.indexByte, hb], by simp, by rw [h2x, if_pos hb]; rfl, by rw [List.count_cons]; simp [hb]⟩
  ·obtain ⟨m, h1, h2, h3, h4⟩ := ih (by simpa [hb] using h)
   refine ⟨m + 1, ?_, by simp; omega, ?_, ?_⟩
   ·have e1 : (b == c) = false := by simpa using hb
    have e2 : ((m : Int) == -1) = false := by rw [beq_eq_false_iff_ne]; omega
    rw [Lib.indexByte, e1, h1, e2]; rfl
   ·rw [h2x, if_neg hb, h3]; rfl
   ·rw [List.count_cons, h4]; simp [hb]
def lB (s : ByteArray) : List UInt8 := s.data.toList
def mB8 (l : List UInt8) : ByteArray := ⟨l.toArray⟩
theorem lB_mB8 (l : List UInt8) : lB (mB8 l) = l := rfl
theorem mB8_lB (s : ByteArray) : mB8 (lB s) = s := by cases s; rfl
theorem lB_len (s : ByteArray) : (lB s).length = s.size := by cases s; rfl
theorem ext_take (s : ByteArray) (m : Nat) : s.extract 0 m = mB8 ((lB s).take m) := by
 rw [← mB8_lB (s.extract 0 m)]
 congr 1
 show (s.extract 0 m).data.toList = _
 rw [ByteArray.data_extract, Array.toList_extract]
 simp [lB, List.extract]
theorem ext_drop (s : ByteArray) (m : Nat) : s.extract m s.size = mB8 ((lB s).drop m) := by
 rw [← mB8_lB (s.extract m s.size)]
 congr 1
 have : s.size = s.data.toList.length := by cases s; rfl
 show (s.extract m s.size).data.toList = _
 rw [ByteArray.data_extract, Array.toList_extract, this]
 simp only [lB, List.extract]
 rw [List.take_of_length_le (by rw [List.length_drop]; omega)]
def strs (l : List (List UInt8)) : List Value := l.map fun x => .string (mB8 x)
theorem strs_len (l : List (List UInt8)) : (strs l).length = l.length := List.length_map ..
theorem index1_c {S w0 L} (s : ByteArray) (c : UInt8) : Fn Tryd.prog 57 #[.string s, .string ⟨#[c]⟩] S w0 L fun v L' => v = .int .i64 (Lib.indexByte (lB s) c) ∧ L = L' :=
 .mk fun w H => (strings_Index_one s c w).mono fun e w' ⟨he, hw⟩ => ⟨_, _, he, ⟨rfl, rfl⟩, hw ▸ H⟩
theorem count1_c {S w0 L} (s : ByteArray) (c : UInt8) : Fn Tryd.prog 56 #[.string s, .string ⟨#[c]⟩] S w0 L fun v L' => v = .int .i64 ((lB s).count c : Nat) ∧ L = L' :=
 .mk fun w H => (strings_Count_one s c w).mono fun e w' ⟨he, hw⟩ => ⟨_, _, he, ⟨rfl, rfl⟩, hw ▸ H⟩
structure SpI (s : ByteArray) (c : UInt8) (g : Nat × ByteArray × List (List UInt8)) : Prop where
 len : g.2.2.length = g.1
 all : g.2.2 ++ h2x c (lB g.2.1) = h2x c (lB s)
 cnt : g.1 + (lB g.2.1).count c = (lB s).count c
 le : g.2.1.size ≤ s.size
theorem strs_fill (pre : List (List UInt8)) (x : List UInt8) (n : Nat) (hn : pre.length < n) : (strs pre ++ List.replicate (n - pre.length) (Value.string ⟨#[]⟩)).set pre.length (.string (mB8 x)) = strs (pre ++ [x]) ++ List.replicate (n - (pre.length + 1)) (Value.string ⟨#[]⟩) := by
 have e : n - pre.length = (n - (pre.length + 1)) + 1 := by omega
 have hl := strs_len pre
 rw [e, List.replicate_succ, List.set_append_right _ _ (by omega), hl, Nat.sub_self, List.set_cons_zero]
 simp [strs]
set_option maxHeartbeats 2000000 in
theorem split1_c {S w0 L} (s : ByteArray) (hs : s.size ≤ 1000000) (c : UInt8) : Fn Tryd.prog 45 #[.string s, .string ⟨#[c]⟩] S w0 L fun v L' => ∃ nb, v = .slice (some ⟨nb, 0, none⟩) (h2x c (lB s)).length (h2x c (lB s)).length ∧ ⟨true, nb, .cells (strs (h2x c (lB s))).toArray 9 (0, 0)⟩ :: L = L' := by
 have hgs : Fn Tryd.prog 50 #[.string s, .string ⟨#[c]⟩, .int .i64 0, .int .i64 (-1)] S w0 L fun v L' => ∃ nb, v = .slice (some ⟨nb, 0, none⟩) (h2x c (lB s)).length (h2x c (lB s)).length ∧ ⟨true, nb, .cells (strs (h2x c (lB s))).toArray 9 (0, 0)⟩ :: L = L' := by
  have hcs : (lB s).count c ≤ s.size := by rw [← lB_len]; exact List.count_le_length
  have hsl := splitC_len c (lB s)
  have hne : ¬ ((⟨#[c]⟩ : ByteArray) = ⟨#[]⟩) := by intro h; simp at h
  have hsz : (⟨#[c]⟩ : ByteArray).size = 1 := rfl
  refine Fn4 Tryd.func50 Tryd.ntmps50 rfl rfl ?_
  repeat' (first | (refine h4o (id:=8) ?_) | refine h0t ?_ | refine h0e ?_ | refine h1a ?_ | refine h0l rfl ?_ | refine h0m rfl ?_ | (refine gR 0 (p_a (h:=h0a ?_))) | (refine gR 1 (p_m (h:=p_e (q_b (r:=by exact h0y q_o)) (h:=h0a ?_)))) | (refine gR 3 (p_m (h:=p_e (q_b (r:=by exact rb_streq)) (h:=h0a ?_)))) | (refine gR 5 (p_m (h:=p_e (q_b (r:=by exact h0q q_o)) (h:=h0a ?_)))) | (refine gR 6 (p_m (h:=q_m ?_)) <;> (try refine h0b ?_; (refine h4a (F:=56) (by kernel_rfl) rfl rfl (count1_c _ _) ?_; rintro _ _ ⟨rfl, rfl⟩)) <;> (try refine q_e (q_b (r:=by apply h1q; exact c_4; (focus (refine IntWalk.i64_in _ ?_; omega)))) ?_) <;> (try refine p_a (h:=h0a ?_))) | (refine gR 7 (p_m (h:=p_m (h:=q_e (h0h rfl (fun _ => BigFrame.builtin_len ..) (h0n Tryd.underlying9)) ?_))) <;> (try refine q_e (q_b (r:=by apply h1q; exact c_4; (focus (refine IntWalk.i64_in _ ?_; omega)))) ?_) <;> (try refine p_e (h0h rfl (fun _ => BigFrame.builtin_min ..) r_min) (h:=p_a (h:=h0a ?_)))))
  refine ⟨?_⟩
  have hmn : min (((lB s).count c : Nat) + 1 : Int) ((s.size : Int) + 1) = (((lB s).count c + 1 : Nat) : Int) := by omega
  simp only [hmn]
  repeat' (first | (refine h2g (id:=0) ?_) | refine h0t ?_ | refine h0e ?_ | (refine gR 8 (q_m ?_) <;> (try refine h0b ?_; (refine K1_makeSlice (t:=89) rfl rfl rfl Tryd.underlying89 inf_9_i inf_9_z inf_9_s inf_9_b rfl ?_ ?_ ?_; omega; omega; intro nb hnb)) <;> (try refine p_a (h:=h0a ?_))) | (refine gR 9 (q_m ?_) <;> (try refine q_e (q_b (r:=by apply rb_sub; exact c_4; (focus (refine IntWalk.i64_in _ ?_; omega)))) ?_) <;> (try refine p_a (h:=h0a ?_))) | (refine gR 10 (p_a (h:=h0a ?_))))
  refine ⟨?_⟩
  have hm1 : (((lB s).count c + 1 : Nat) : Int) - 1 = ((lB s).count c : Nat) := by omega
  simp only [hm1]
  refine h0o ?_
  refine h2i (γ:=Nat × ByteArray × List (List UInt8)) (SpI s c) (fun g => (lB s).count c - g.1) (fun g => [(0, .string g.2.1), (10, .int .i64 (g.1 : Nat))]) [(1, _), (2, _), (3, _), (9, _)]
   (fun g => ⟨true, nb, .cells (strs g.2.2 ++ List.replicate ((lB s).count c + 1 - g.1) (Value.string ⟨#[]⟩)).toArray 9 (0, 0)⟩ :: L)
   (0, s, []) (.cons rfl (.cons rfl (.cons rfl (.cons rfl .nil)))) ⟨rfl, rfl, by simp, Nat.le_refl _⟩ (by (focus (repeat (first | exact Sub.nil | refine Sub.cons rfl ?_)))) (fun _ H => H) ?_
  rintro ⟨i, r, pre⟩ ⟨hl, ha, hc, hr⟩
  dsimp only at hl ha hc hr ⊢
  by_cases hlt : i < (lB s).count c
  ·obtain ⟨m, hx1, hx2, hx3, hx4⟩ := ix_some (c:=c) (l:=lB r) (by omega)
   have hixc := fun (L : List Blk) => index1_c (S:=S) (w0:=w0) (L:=L) r c
   rw [hx1] at hixc
   have hrl := lB_len r
   have hcl : (strs pre ++ List.replicate ((lB s).count c + 1 - i) (Value.string ⟨#[]⟩)).length = (lB s).count c + 1 := by rw [List.length_append, strs_len, List.length_replicate, hl]; omega
   have hcl2 : i < (strs pre ++ List.replicate ((lB s).count c + 1 - i) (Value.string ⟨#[]⟩)).toArray.size := by rw [List.size_toArray, hcl]; omega
   repeat' (first | refine h0t ?_ | refine h0e ?_ | refine h1d ?_ | refine h1h ?_ | refine h0o ?_ | refine h1a ?_ | refine h0l rfl ?_ | refine h0m rfl ?_ | (refine gR 11 (p_m (h:=p_m (h:=p_e (q_b (r:=by exact h0q q_o)) (h:=h0a ?_))))) | (refine gR 12 (p_m (h:=q_m ?_)) <;> (try refine h0b ?_; (refine h4a (F:=57) (by kernel_rfl) rfl rfl (hixc _) ?_; rintro _ _ ⟨rfl, rfl⟩)) <;> (try refine p_a (h:=h0a ?_))) | (refine gR 13 (p_m (h:=p_e (q_b (r:=by exact h0r q_o)) (h:=h0a ?_)))) | (refine gR 14 (p_m (h:=p_m (h:=p_m (h:=p_m (h:=q_m ?_))))) <;> (try refine q_e (q_b (r:=by apply h1q; exact c_4; (focus (refine IntWalk.i64_in _ ?_; omega)))) ?_) <;> (try refine p_e (by apply E_slice; exact rfl; exact rfl; exact rfl; exact rfl; (focus (apply r_sl_str Tryd.underlying9; (focus (apply bd_01; omega; omega; exact c_0)); exact rfl))) (h:=q_e (by apply h0s; exact rfl; exact rfl; (focus (apply h2h Tryd.underlying89 sz_9; omega; omega; exact c_1))) ?_)) <;> (try refine h0b ?_; (apply K1_store1 (t:=9); exact rfl; exact rfl; exact fd0; exact rfl; exact rfl; kernel_rfl; (focus (omega)); exact c_22; (try simp only [List.set_cons_succ]); (try simp only [List.set_cons_zero]))) <;> (try refine h0a ?_)) | (refine gR 15 (p_m (h:=p_m (h:=p_m (h:=q_e (h0h rfl (fun _ => BigFrame.builtin_len ..) (h0n Tryd.underlying9)) ?_)))) <;> (try refine q_e (q_b (r:=by apply h1q; exact c_4; (focus (refine IntWalk.i64_in _ ?_; omega)))) ?_) <;> (try refine p_e (by apply E_slice; exact rfl; exact rfl; exact rfl; exact rfl; (focus (apply r_sl_str Tryd.underlying9; (focus (apply bd_10; omega; omega; exact c_0)); exact rfl))) (h:=p_a (h:=h0a ?_)))) | (refine gR 16 (q_m ?_) <;> (try refine q_e (q_b (r:=by apply h1q; exact c_4; (focus (refine IntWalk.i64_in _ ?_; omega)))) ?_) <;> (try refine p_a (h:=h0a ?_))))
   have e1 : r.extract ((m : Int) + ((⟨#[c]⟩ : ByteArray).size : Nat)).toNat r.size = mB8 ((lB r).drop (m + 1)) := by
    rw [hsz, show ((m : Int) + ((1 : Nat) : Int)).toNat = m + 1 by omega]; exact ext_drop _ _
   have e2 : r.extract 0 ((m : Int) + 0).toNat = mB8 ((lB r).take m) := by rw [Int.add_zero, Int.toNat_natCast]; exact ext_take _ _
   simp only [e1, e2]
   refine h1p (i + 1, mB8 ((lB r).drop (m + 1)), pre ++ [(lB r).take m]) ⟨⟨by simp [hl], ?_, ?_, ?_⟩, by dsimp only; omega⟩ (by (focus (repeat (first | exact Sub.nil | refine Sub.cons rfl ?_)))) ?_
   ·show (pre ++ [(lB r).take m]) ++ h2x c ((lB r).drop (m + 1)) = _
    rw [List.append_assoc, List.singleton_append, ← hx3]; exact ha
   ·show i + 1 + ((lB r).drop (m + 1)).count c = _
    omega
   ·show (mB8 ((lB r).drop (m + 1))).size ≤ s.size
    rw [← lB_len, lB_mB8, List.length_drop]; omega
   ·have hf := strs_fill pre ((lB r).take m) ((lB s).count c + 1) (by omega)
    rw [hl] at hf
    intro w H
    rw [← hf]; exact H
  ·obtain rfl : i = (lB s).count c := by omega
   have h0 : (lB r).count c = 0 := by omega
   rw [ix_none h0] at ha
   have hcl : (strs pre ++ List.replicate ((lB s).count c + 1 - (lB s).count c) (Value.string ⟨#[]⟩)).length = (lB s).count c + 1 := by rw [List.length_append, strs_len, List.length_replicate, hl]; omega
   have hcl2 : (lB s).count c < (strs pre ++ List.replicate ((lB s).count c + 1 - (lB s).count c) (Value.string ⟨#[]⟩)).toArray.size := by rw [List.size_toArray, hcl]; omega
   repeat' (first | refine h0t ?_ | refine h0e ?_ | refine h1w ?_ | refine h1o ?_ | refine h1v ?_ | refine h2j ?_ | refine h1e ?_ | refine h0m rfl ?_ | (refine gR 11 (p_m (h:=p_m (h:=p_e (q_b (r:=by exact h0r q_o)) (h:=h0a ?_))))) | (refine gR 17 (p_m (h:=p_m (h:=p_m (h:=q_e (by apply h0s; exact rfl; exact rfl; (focus (apply h2h Tryd.underlying89 sz_9; omega; omega; exact c_1))) ?_)))) <;> (try refine h0b ?_; (apply K1_store1 (t:=9); exact rfl; exact rfl; exact fd0; exact rfl; exact rfl; kernel_rfl; (focus (omega)); exact c_22; (try simp only [List.set_cons_succ]); (try simp only [List.set_cons_zero]))) <;> (try refine h0a ?_)) | (refine gR 18 (p_m (h:=q_m ?_)) <;> (try refine q_e (q_b (r:=by apply h1q; exact c_4; (focus (refine IntWalk.i64_in _ ?_; omega)))) ?_) <;> (try refine p_e (by apply E_slice; exact rfl; exact rfl; exact rfl; exact rfl; (focus (apply r_sl_s01 Tryd.underlying89 sz_9 <;> (first | omega | exact c_0)))) (h:=p_a (h:=h0a ?_)))))
   (refine h0z Tryd.results50 (.tmp rfl .nil) ?_)
   refine ⟨_, ⟨nb, by rw [hsl]; rfl, rfl⟩, ?_⟩
   have hf := strs_fill pre (lB r) ((lB s).count c + 1) (by omega)
   rw [hl, ha, Nat.sub_self, List.replicate_zero, List.append_nil, mB8_lB] at hf
   intro w H
   rw [← hf]; exact H
 refine Fn2 Tryd.func45 Tryd.ntmps45 rfl rfl ?_
 repeat' (first | refine h0t ?_ | refine h0e ?_ | refine h1e ?_ | (refine gR 0 (p_a (h:=h0a ?_))) | (refine gR 1 (p_m (h:=q_m ?_)) <;> (try refine h0b ?_; (refine h4a (F:=50) (by kernel_rfl) rfl rfl hgs ?_; rintro _ _ ⟨nb, rfl, rfl⟩)) <;> (try refine p_a (h:=h0a ?_))))
 (refine h0z Tryd.results45 (.tmp rfl .nil) ?_)
 exact ⟨_, ⟨_, rfl, rfl⟩, by intro w H; refine H.sub ?_; (try simp only [zzC, zzN]); repeat (exact List.Sublist.refl _)⟩
section
variable {P : Program} {n : Nat} {l : List (Nat × Value)} {S : List Nat} {w0 : World} {L : List Blk} {d : Tmp} {ty : TypeId} {pos : String} {af : Array Edge}
theorem E_byteStrI {src dst e : TypeId} {x : Operand} {b cap i : Nat} {q : Bool} {T : TypeId} {fr : Nat × Nat} {v : Int} (hx : ev l x = some (.slice (some ⟨b, 0, none⟩) 1 cap)) (hs : P.underlying src = some (.slice e)) (he : P.underlying e = some (.int .u8)) (hd : P.underlying dst = some .string)
  (hi : L[i]? = some ⟨q, b, .cells #[.int .u8 v] T fr⟩) : ValOf P n l S w0 L ⟨some d, .convert src dst x, ty, pos, af, none⟩ (.string (strOfNums [v])) :=
 E_bytesStr (xs:=[v]) hx hs he hd (Sli.of (i:=i) hi (by simp) rfl) rfl
theorem E_byteStr1 {src dst e : TypeId} {x : Operand} {b cap i : Nat} {q : Bool} {T : TypeId} {fr : Nat × Nat} {y : UInt8} (hx : ev l x = some (.slice (some ⟨b, 0, none⟩) 1 cap)) (hs : P.underlying src = some (.slice e)) (he : P.underlying e = some (.int .u8)) (hd : P.underlying dst = some .string)
  (hi : L[i]? = some ⟨q, b, .cells #[.int .u8 (y.toNat : Int)] T fr⟩) : ValOf P n l S w0 L ⟨some d, .convert src dst x, ty, pos, af, none⟩ (.string ⟨#[y]⟩) := by
 have := E_byteStrI (n:=n) (S:=S) (w0:=w0) (d:=d) (ty:=ty) (pos:=pos) (af:=af) hx hs he hd hi
 have e : strOfNums [(y.toNat : Int)] = ⟨#[y]⟩ := by simp [strOfNums]
 rw [e] at this
 exact this
end
theorem h1z {P : Program} {t : TypeId} {x y : ByteArray} (h : decide (x = y) = false) : RBin P .eql t (.string x) (.string y) (.bool false) := by
 have := rb_streq (P:=P) (t:=t) (x:=x) (y:=y)
 rwa [h] at this
section
variable {P : Program} {n : Nat} {l : List (Nat × Value)} {S : List Nat} {w0 : World} {L : List Blk} {K : Act → World → Prop} {k : Kont} {ops : Array Oper} {d : Tmp} {ty : TypeId} {pos : String} {af : Array Edge}
theorem K1_append0 {E : Nat} {t tt : TypeId} {inf : TypeInfo} {s y : Operand} {sa ya : Option Addr} {m cp cy : Nat}
  (hd : Nat.blt d n = true) (ht : P.underlying t = some (.slice E)) (hi : P.info? E = some inf) (hs : ev l s = some (.slice sa m cp)) (hy : ev l y = some (.slice ya 0 cy)) (hle : m ≤ cp) (htt : tt = t)
  (h : G n ((d, .slice sa m cp) :: l) S w0 L K) :
  G n l S w0 L (K1 P ops k ⟨some d, .call { callee := .builtin .append, args := #[s, y], argTypes := #[t, tt] }, ty, pos, af, none⟩ K) := .mk fun a w hf H => h3u rfl <| by
  subst htt
  have hr : (Builtin.append_ #[tt, tt] ty #[.slice sa m cp, .slice ya 0 cy]).run P w = .ok (.slice sa m cp) w := by
   cases sa <;> cases ya <;> simp [Builtin.append_, run_underlying ht, sizeOf, typeInfo, hi, Builtin.lenOf, Builtin.firstCells, loadCells, loadCellsFrom, storeCells, hle]
  unfold Oper.wp execOp
  simp only [resolve, invoke, builtin, Sem.run_bind, Sem.run_pure, Result.andThen_ok, List.map_toArray, List.map_cons, List.map_nil, hf.eval hs, hf.eval hy, hr]
  exact (h.out _ _ (hf.put (some d) _ hd) H)
end
theorem mB8_add (a b : List UInt8) : mB8 a ++ mB8 b = mB8 (a ++ b) := by
 rw [← mB8_lB (mB8 a ++ mB8 b)]; congr 1
theorem h4c (a : List UInt8) : (mB8 a).size = a.length := by rw [← lB_len, lB_mB8]
theorem lB_get (s : ByteArray) (i : Nat) : (lB s)[i]? = s[i]? := by
 cases s with
 | mk d =>
  show d.toList[i]? = _
  rw [Array.getElem?_toList]
  rfl
def decF (n : Nat) : List UInt8 := if n < 10 then [UInt8.ofNat (48 + n)] else decF (n / 10) ++ [UInt8.ofNat (48 + n % 10)]
termination_by n
decreasing_by omega
theorem decF_lt {n : Nat} (h : n < 10) : decF n = [UInt8.ofNat (48 + n)] := by rw [decF, if_pos h]
theorem decF_ge {n : Nat} (h : ¬ n < 10) : decF n = decF (n / 10) ++ decF (n % 10) := by rw [decF, if_neg h, decF_lt (n:=n % 10) (by omega)]
theorem decF_len (k n : Nat) (hk : 0 < k) (h : n < 10 ^ k) : (decF n).length ≤ k := by
 induction k generalizing n with
 | zero => omega
 | succ k ih =>
  by_cases hn : n < 10
  ·rw [decF_lt hn]; simp
  ·rw [decF_ge hn, List.length_append, decF_lt (n:=n % 10) (by omega), List.length_singleton]
   have hk0 : 0 < k := by
    rcases Nat.eq_zero_or_pos k with rfl | h0
    ·omega
    ·exact h0
   have := ih (n / 10) hk0 (by rw [Nat.pow_succ] at h; omega)
   omega
theorem son1 (n : Nat) (h : n < 10) : strOfNums [48 + (n : Int)] = mB8 (decF n) := by
 rw [decF_lt h]
 have : ∀ k : Fin 10, strOfNums [48 + ((k.val : Nat) : Int)] = mB8 [UInt8.ofNat (48 + k.val)] := by decide +kernel
 exact this ⟨n, h⟩
theorem printed_c (n : Nat) : n < 18446744073709551616 → ∀ S w0 L, Fn Tryd.prog 32 #[.int .u64 (n : Int)] S w0 L fun v L' => v = .string (mB8 (decF n)) ∧ L = L' := by
 induction n using Nat.strongRecOn with
 | _ n ih =>
  intro hn S w0 L
  by_cases h : n < 10
  ·rw [← son1 n h]
   refine Fn1 Tryd.func32 Tryd.ntmps32 rfl rfl ?_
   repeat' (first | refine h0t ?_ | refine h0e ?_ | refine h1a ?_ | refine h1e ?_ | refine h0m rfl ?_ | (refine gR 0 (p_a (h:=h0a ?_))) | (refine gR 1 (p_m (h:=p_e (q_b (r:=by exact h0u q_o)) (h:=h0a ?_)))) | (refine gR 3 (q_m ?_) <;> (try refine q_e (q_b (r:=by apply h1q; exact c_4; (focus (refine IntWalk.u64_in _ ?_; omega)))) ?_) <;> (try refine q_e (by apply h3c; exact rfl; (focus (apply h3a Tryd.underlying37 Tryd.underlying5; first | (refine IntWalk.i64_in _ ?_; omega) | (refine IntWalk.u8_in _ ?_; omega) | (refine IntWalk.u16_in _ ?_; omega) | (refine IntWalk.u32_in _ ?_; omega) | (refine IntWalk.u64_in _ ?_; omega) | (refine IntWalk.i32_in _ ?_; omega) | exact rfl))) ?_) <;> (try refine h0b ?_; (refine h0w (t:=32) (m:=1) (e:=5) (fun vs => (match vs with | [(_, x0)] => [x0] | _ => [])) rfl rfl (fun w => by kernel_rfl) ?_; intro nb hnb; (try simp only [Value.cells]); (try simp only [zzC, zzN]))) <;> (try refine p_e (by apply E_byteStrI; exact rfl; exact Tryd.underlying32; exact Tryd.underlying5; exact Tryd.underlying9; exact fd0) (h:=p_a (h:=h0a ?_)))))
   (refine h0z Tryd.results32 (.tmp rfl .nil) ?_)
   exact ⟨_, ⟨rfl, rfl⟩, by intro w H; refine H.sub ?_; (try simp only [zzC, zzN]); repeat (first | exact List.Sublist.refl _ | refine List.Sublist.cons _ ?_)⟩
  ·have i1 := fun (L : List Blk) => ih (n / 10) (by omega) (by omega) S w0 L
   have i2 := fun (L : List Blk) => ih (n % 10) (by omega) (by omega) S w0 L
   have e1 : ((n / 10 : Nat) : Int) = (n : Int) / 10 := rfl
   have e2 : ((n % 10 : Nat) : Int) = (n : Int) % 10 := rfl
   simp only [e1] at i1
   simp only [e2] at i2
   have hl1 := decF_len 20 (n / 10) (by omega) (by omega)
   have hl2 := decF_len 20 (n % 10) (by omega) (by omega)
   rw [← h4c] at hl1 hl2
   rw [decF_ge h, ← mB8_add]
   clear ih
   generalize mB8 (decF (n / 10)) = x at *
   generalize mB8 (decF (n % 10)) = y at *
   refine Fn1 Tryd.func32 Tryd.ntmps32 rfl rfl ?_
   repeat' (first | refine h0t ?_ | refine h0e ?_ | refine h0x ?_ | refine h1e ?_ | refine h0l rfl ?_ | (refine gR 0 (p_a (h:=h0a ?_))) | (refine gR 1 (p_m (h:=p_e (q_b (r:=by exact h1c q_o)) (h:=h0a ?_)))) | (refine gR 2 (q_m ?_) <;> (try refine q_e (q_b (r:=by apply rb_quo; omega; omega; exact c_4; (focus (refine IntWalk.u64_in _ ?_; omega)))) ?_) <;> (try refine h0b ?_; (refine h4a (F:=32) (by kernel_rfl) rfl rfl (i1 _) ?_; rintro _ _ ⟨rfl, rfl⟩)) <;> (try refine p_m (h:=q_e (q_b (r:=by apply h4i; omega; omega; exact c_4)) ?_)) <;> (try refine h0b ?_; (refine h4a (F:=32) (by kernel_rfl) rfl rfl (i2 _) ?_; rintro _ _ ⟨rfl, rfl⟩)) <;> (try refine p_e (q_b (r:=by apply h2z; exact rfl; (focus (omega)))) (h:=p_a (h:=h0a ?_)))))
   (refine h0z Tryd.results32 (.tmp rfl .nil) ?_)
   exact ⟨_, ⟨rfl, rfl⟩, by intro w H; refine H.sub ?_; (try simp only [zzC, zzN]); repeat (exact List.Sublist.refl _)⟩
def dgt (c : UInt8) : Nat := if 48 ≤ c.toNat ∧ c.toNat ≤ 57 then c.toNat - 48 else if 97 ≤ c.toNat ∧ c.toNat ≤ 102 then c.toNat - 87 else 99
def numGo (b : Nat) : Nat → List UInt8 → Option Nat
 | n, [] => some n
 | n, c :: r => if dgt c < b ∧ n ≤ (18446744073709551615 - dgt c) / b then numGo b (n * b + dgt c) r else none
def numD (b : Nat) (l : List UInt8) : Option Nat := if l.length < 1 ∨ l.length > 20 ∨ (l.length > 1 ∧ l[0]? = some 48) then none else numGo b 0 l
def numF (l : List UInt8) : Option Nat := if [48, 120].isPrefixOf l then numD 16 (l.drop 2) else numD 10 l
theorem ba_at {s : ByteArray} {k : Nat} (h : k < s.size) : ∃ x : UInt8, s[k]? = some x ∧ (lB s).drop k = x :: (lB s).drop (k + 1) := by
 have hl : k < (lB s).length := by rw [lB_len]; exact h
 refine ⟨(lB s)[k], ?_, List.drop_eq_getElem_cons hl⟩
 rw [← lB_get, List.getElem?_eq_getElem hl]
section
variable {P : Program} {n : Nat} {l : List (Nat × Value)} {S : List Nat} {w0 : World} {L : List Blk} {K : Act → World → Prop} {k : Kont} {ops : Array Oper} {d : Tmp} {ty : TypeId} {pos : String} {af : Array Edge}
theorem K1_callv {F : FuncId} {t : Tmp} {first captured : Array Value} {xs : List Operand} {vs : List Value} {ats : Array TypeId} {R : Value → List Blk → Prop} (hfn : (P.funcs[F]?).map (fun fn => (fn.name == "runtime.NumGoroutine", fn.body.isNone)) = some (false, false)) (hd : Nat.blt d n = true)
  (ht : lk l t = some (.func (.func F) first captured)) (hx : evs l xs = some vs) (hc : Fn P F (first ++ vs.toArray ++ captured) S w0 L R) (h : ∀ v L', R v L' → G n ((d, v) :: l) S w0 L' K) :
  G n l S w0 L (K1 P ops k ⟨some d, .call { callee := .value (.tmp t), args := xs.toArray, argTypes := ats }, ty, pos, af, none⟩ K) := .mk fun a w hf H => h3u rfl <| by
  unfold Oper.wp
  have e1 : a.eval (.tmp t) = .func (.func F) first captured := hf.eval (x:=.tmp t) ht
  have e : execOp a.eval ⟨some d, .call { callee := .value (.tmp t), args := xs.toArray, argTypes := ats }, ty, pos, af, none⟩ = callFunc F (first ++ (xs.toArray.map a.eval) ++ captured) := by
   show (do let d ← Deferred.ofValue (a.eval (.tmp t)) (xs.toArray.map a.eval); invoke d.target d.args) = _
   rw [e1]; rfl
  rw [e, List.map_toArray, hf.evals hx, run_callFunc hfn]
  refine (hc.out w H).mono fun e w' ⟨v, L', he, hR, H'⟩ => ?_
  subst he
  exact ((h v L' hR).out _ _ (hf.put (some d) v hd) H')
end
def PlainKey : TypeDesc → Value → Prop
 | .int k, .int k' _ => k' = k
 | .string, .string _ => True
 | _, _ => False
section
variable {P : Program} {o : Oper} {a : Act} {w w0 : World} {K : Act → World → Prop} {Q : Exit → Act → World → Prop} {S : List Nat} {L : List Blk} {ops : Array Oper} {rest : List Oper}
theorem h4h {e : Bool} {key : TypeId} {d : TypeDesc} {v : Value} (hk : P.underlying key = some d) (hp : PlainKey d v) (w : World) : (Instr.checkKey e 10000 key v).run P w = .ok () w := by
 show (Instr.checkKey e (9999 + 1) key v).run P w = .ok () w
 unfold Instr.checkKey
 rw [Sem.run_bind, run_underlying hk w]
 cases d <;> cases v <;> simp_all [PlainKey]
theorem run_findKey {key : TypeId} {d : TypeDesc} {v : Value} {es : List MapEntry} {r : Option (Nat × Value)} (hk : P.underlying key = some d) (hf : Instr.findNow d v es 0 = some r) (w : World) :
  (Instr.findKey key v es).run P w = .ok r w := by
 unfold Instr.findKey
 rw [Sem.run_bind, run_underlying hk w]
 simp [hf]
theorem run_getObj_map {b : Nat} {es : Array MapEntry} {c : Nat} (h : w.heap[b]? = some (.map es c)) : (getObj b).run P w = .ok (.map es c) w := by
 simp only [getObj, Sem.run, h]
def found (r : Option (Nat × Value)) (z : Value) : Value := match r with | some (_, v) => v | none => z
theorem run_lookup (H : HP S w0 w L) (i : Nat) {t key elem : TypeId} {d : TypeDesc} {q : Bool} {b : Nat} {es : Array MapEntry} {c : Nat} {kv z : Value} {r : Option (Nat × Value)} {ok : Bool}
  (ht : P.underlying t = some (.map key elem)) (hk : P.underlying key = some d) (hp : PlainKey d kv) (hz : ∀ w, (zeroValue elem).run P w = .ok z w)
  (hi : L[i]? = some ⟨q, b, .map es c⟩) (hf : Instr.findNow d kv es.toList 0 = some r) :
  (Instr.lookup t (.map (some b)) kv ok).run P w = .ok (if ok then .tuple #[found r z, .bool r.isSome] else found r z) w := by
 unfold Instr.lookup
 simp only [Sem.run_bind, run_underlying ht, Result.andThen_ok, run_getObj_map (H.at_ i hi), Sem.run_pure, h4h hk hp, run_findKey hk hf]
 cases r with
 | none => cases ok <;> simp [found, hz]
 | some p => cases ok <;> simp [found]
end
def mkE : List (Value × Value) → Nat → List MapEntry
 | [], _ => []
 | p :: r, i => { key := p.1, val := p.2, born := i } :: mkE r (i + 1)
abbrev mapB (b : Nat) (kvs : List (Value × Value)) : Blk := ⟨true, b, .map (mkE kvs 0).toArray kvs.length⟩
def fd (d : TypeDesc) (k : Value) : List (Value × Value) → Nat → Option (Option (Nat × Value))
 | [], _ => some none
 | p :: r, i => match Instr.sameNow d k p.1 with
  | some true => some (some (i, p.2))
  | some false => fd d k r (i + 1)
  | none => none
theorem fd_eq (d : TypeDesc) (k : Value) (kvs : List (Value × Value)) (i j : Nat) : Instr.findNow d k (mkE kvs j) i = fd d k kvs i := by
 induction kvs generalizing i j with
 | nil => rfl
 | cons p r ih =>
  simp only [mkE, Instr.findNow, fd]
  cases h : Instr.sameNow d k p.1 with
  | none => rfl
  | some q => cases q with
   | true => rfl
   | false => exact ih _ _
theorem mkE_app (kvs : List (Value × Value)) (p : Value × Value) (i : Nat) : mkE (kvs ++ [p]) i = mkE kvs i ++ [{ key := p.1, val := p.2, born := i + kvs.length }] := by
 induction kvs generalizing i with
 | nil => simp [mkE]
 | cons q r ih => simp only [List.cons_append, mkE, ih, List.length_cons]; rw [show i + 1 + r.length = i + (r.length + 1) by omega]
theorem mkE_get (kvs : List (Value × Value)) (i j : Nat) (p : Value × Value) (h : kvs[j]? = some p) : (mkE kvs i)[j]? = some { key := p.1, val := p.2, born := i + j } := by
 induction kvs generalizing i j with
 | nil => simp at h
 | cons q r ih =>
  cases j with
  | zero => simp at h; subst h; simp [mkE]
  | succ j =>
   simp only [List.getElem?_cons_succ] at h
   simp only [mkE, List.getElem?_cons_succ, ih (i + 1) j h]
   congr 2; omega
theorem mkE_set (kvs : List (Value × Value)) (i j : Nat) (p : Value × Value) (f : MapEntry → MapEntry) (hf : ∀ q, kvs[j]? = some q → f { key := q.1, val := q.2, born := i + j } = { key := p.1, val := p.2, born := i + j }) : (mkE kvs i).modify j f = mkE (kvs.set j p) i := by
 induction kvs generalizing i j with
 | nil => cases j <;> rfl
 | cons q r ih =>
  cases j with
  | zero => simp only [mkE, List.modify_zero_cons, List.set_cons_zero]; have := hf q (by simp); simp only [Nat.add_zero] at this; rw [this]
  | succ j =>
   simp only [mkE, List.modify_succ_cons, List.set_cons_succ]
   rw [ih (i + 1) j (fun q hq => by have := hf q (by simpa using hq); rw [show i + 1 + j = i + (j + 1) by omega]; exact this)]
theorem fd_get {d : TypeDesc} {k : Value} {kvs : List (Value × Value)} {i j : Nat} {v : Value} (h : fd d k kvs i = some (some (j, v))) : i ≤ j ∧ ∃ p, kvs[j - i]? = some p ∧ p.2 = v ∧ Instr.sameNow d k p.1 = some true := by
 induction kvs generalizing i with
 | nil => simp [fd] at h
 | cons q r ih =>
  simp only [fd] at h
  split at h
  ·rename_i hs
   simp only [Option.some.injEq, Prod.mk.injEq] at h
   obtain ⟨rfl, rfl⟩ := h
   exact ⟨Nat.le_refl _, q, by simp, rfl, hs⟩
  ·obtain ⟨h1, p, h2, h3⟩ := ih h
   refine ⟨by omega, p, ?_, h3⟩
   rw [show j - i = (j - (i + 1)) + 1 by omega, List.getElem?_cons_succ]; exact h2
  ·simp at h
theorem ba_beq (x y : ByteArray) : (x == y) = decide (x = y) := by
 show (x.data == y.data) = _
 cases x with | mk a => cases y with | mk b =>
 by_cases h : a = b
 ·subst h; simp
 ·have h2 : ¬ (ByteArray.mk a = ByteArray.mk b) := fun e => h (by injection e)
  simp [h2]; exact fun e => h e
theorem same_plain {d : TypeDesc} {k k' : Value} (hp : PlainKey d k) (h : Instr.sameNow d k k' = some true) : Instr.sameBits 10000 k' k = true ∧ k' = k := by
 cases d <;> cases k <;> simp [PlainKey] at hp <;> cases k' <;> simp_all [Instr.sameNow, Instr.sameBits, ba_beq]
section
variable {P : Program} {n : Nat} {l : List (Nat × Value)} {S : List Nat} {w0 : World} {L : List Blk} {K : Act → World → Prop} {kt : Kont} {ops : Array Oper} {d : Tmp} {ty : TypeId} {pos : String} {af : Array Edge}
theorem K1_makeMap {t : TypeId} (hd : Nat.blt d n = true) (h : ∀ nb, w0.heap.size ≤ nb → G n ((d, .map (some nb)) :: l) S w0 (mapB nb [] :: L) K) :
  G n l S w0 L (K1 P ops kt ⟨some d, .makeMap t none, ty, pos, af, none⟩ K) := .mk fun a w hf H => h3u rfl <| by
 unfold Oper.wp execOp
 simp only [Option.map_none, Instr.makeMap, Sem.run_bind, Sem.run_pure, Result.andThen_ok, run_newObj]
 exact (h _ H.size).out _ _ (hf.put (some d) _ hd) (H.alloc _)
theorem E_lookup {t key elem : TypeId} {dd : TypeDesc} {x ix : Operand} {i b : Nat} {kvs : List (Value × Value)} {kv z : Value} {r : Option (Nat × Value)} (hx : ev l x = some (.map (some b))) (hk : ev l ix = some kv) (hi : L[i]? = some (mapB b kvs))
  (ht : P.underlying t = some (.map key elem)) (hkt : P.underlying key = some dd) (hp : PlainKey dd kv) (hz : ∀ w, (zeroValue elem).run P w = .ok z w) (hf : fd dd kv kvs 0 = some r) {fv : Value} {fb : Bool} (hfv : found r z = fv) (hfb : r.isSome = fb) :
  ValOf P n l S w0 L ⟨some d, .lookup t x ix true, ty, pos, af, none⟩ (tupleOf [fv, .bool fb]) :=
 ⟨fun a w hF H => by
  subst hfv
  subst hfb
  unfold execOp
  simp only [hF.eval hx, hF.eval hk, Sem.run_bind, run_lookup H i ht hkt hp hz hi (by simpa [fd_eq] using hf), Result.andThen_ok, Sem.run_pure]
  rfl⟩
theorem h3q {t key elem : TypeId} {dd : TypeDesc} {x ix : Operand} {i b : Nat} {kvs : List (Value × Value)} {kv z : Value} {r : Option (Nat × Value)} (hx : ev l x = some (.map (some b))) (hk : ev l ix = some kv) (hi : L[i]? = some (mapB b kvs))
  (ht : P.underlying t = some (.map key elem)) (hkt : P.underlying key = some dd) (hp : PlainKey dd kv) (hz : ∀ w, (zeroValue elem).run P w = .ok z w) (hf : fd dd kv kvs 0 = some r) {fv : Value} (hfv : found r z = fv) :
  ValOf P n l S w0 L ⟨some d, .lookup t x ix false, ty, pos, af, none⟩ fv :=
 ⟨fun a w hF H => by
  subst hfv
  unfold execOp
  simp only [hF.eval hx, hF.eval hk, Sem.run_bind, run_lookup H i ht hkt hp hz hi (by simpa [fd_eq] using hf), Result.andThen_ok, Sem.run_pure]
  rfl⟩
theorem E_makeFunc {fn : Go.Fn} {xs ys : List Operand} {vs us : List Value} (hx : evs l xs = some vs) (hy : evs l ys = some us) :
  ValOf P n l S w0 L ⟨some d, .makeFunc fn xs.toArray ys.toArray, ty, pos, af, none⟩ (.func fn vs.toArray us.toArray) :=
 ⟨fun a w hF H => by
  unfold execOp
  simp only [List.map_toArray, hF.evals hx, hF.evals hy, Instr.makeFunc, Sem.run_bind, Sem.run_pure, Result.andThen_ok]⟩
theorem HP.setMap {w : World} {i b : Nat} {es : Array MapEntry} {c : Nat} (H : HP S w0 w L) (hi : L[i]? = some ⟨true, b, .map es c⟩) (o' : Obj) : HP S w0 { w with heap := w.heap.setIfInBounds b o' } (L.set i ⟨true, b, o'⟩) := by
 have hb : b < w.heap.size := H.lt i hi
 exact H.turn i hi _ o' rfl rfl rfl (by simp) (by simp [hb]) (fun k hk => by rw [Array.getElem?_setIfInBounds, if_neg (fun e => hk (Eq.symm e))])
theorem run_setMap {w : World} {b : Nat} {es : Array MapEntry} {c : Nat} (hat : w.heap[b]? = some (.map es c)) (o' : Obj) : (setObj b o').run P w = .ok () { w with heap := w.heap.setIfInBounds b o' } := by
 simp only [setObj, Sem.run, hat]
def updE (kvs : List (Value × Value)) (kv v : Value) (r : Option (Nat × Value)) : List (Value × Value) :=
 match r with
 | some (i, _) => kvs.set i (kv, v)
 | none => kvs ++ [(kv, v)]
theorem h4g {t key elem : TypeId} {dd : TypeDesc} {x ix y : Operand} {i b : Nat} {kvs : List (Value × Value)} {kv v : Value} {r : Option (Nat × Value)} (hx : ev l x = some (.map (some b))) (hk : ev l ix = some kv) (hy : ev l y = some v) (hi : L[i]? = some (mapB b kvs))
  (ht : P.underlying t = some (.map key elem)) (hkt : P.underlying key = some dd) (hp : PlainKey dd kv) (hf : fd dd kv kvs 0 = some r)
  (h : G n l S w0 (L.set i (mapB b (updE kvs kv v r))) K) : G n l S w0 L (K1 P ops kt ⟨none, .mapUpdate t x ix y, ty, pos, af, none⟩ K) := .mk fun a w hF H => h3u rfl <| by
 have hat := H.at_ i hi
 have hfn : Instr.findNow dd kv (mkE kvs 0) 0 = some r := by rw [fd_eq]; exact hf
 have hr : (Instr.mapUpdate t (.map (some b)) kv v).run P w = .ok () { w with heap := w.heap.setIfInBounds b (mapB b (updE kvs kv v r)).o } := by
  unfold Instr.mapUpdate
  simp only [Sem.run_bind, run_underlying ht, Result.andThen_ok, run_getObj_map hat, h4h hkt hp, run_findKey hkt hfn]
  cases r with
  | none =>
   simp only [updE, run_setMap hat]
   simp [mkE_app]
  | some p =>
   obtain ⟨j, u⟩ := p
   obtain ⟨_, q, hq, _, hsn⟩ := fd_get hf
   simp only [Nat.sub_zero] at hq
   obtain ⟨hsb, hqe⟩ := same_plain hp hsn
   have hg := mkE_get kvs 0 j q hq
   have e1 : (mkE kvs 0).modify j (fun e => { key := kv, val := v, born := e.born }) = mkE (kvs.set j (kv, v)) 0 := mkE_set kvs 0 j (kv, v) _ (fun _ _ => rfl)
   simp only [List.getElem?_toArray, hg, Option.map_some, Option.getD_some, Instr.keyThatStays, hsb, if_true, Sem.run_pure, Result.andThen_ok, updE, Sem.run_bind, run_setMap hat]
   congr 1
   simp [e1]
 have hgo : (execOp a.eval (⟨none, .mapUpdate t x ix y, ty, pos, af, none⟩ : Oper)).run P w = .ok .skip { w with heap := w.heap.setIfInBounds b (mapB b (updE kvs kv v r)).o } := by
  unfold execOp
  simp only [hF.eval hx, hF.eval hk, hF.eval hy, Sem.run_bind, hr, Result.andThen_ok, Sem.run_pure]
 unfold Oper.wp
 rw [hgo]
 exact h.out _ _ hF (H.setMap hi _)
theorem K1_mapEntry {t key elem : TypeId} {dd : TypeDesc} {x ix : Operand} {i b : Nat} {kvs : List (Value × Value)} {kv z : Value} (hd : Nat.blt d n = true) (hx : ev l x = some (.map (some b))) (hk : ev l ix = some kv) (hi : L[i]? = some (mapB b kvs))
  (ht : P.underlying t = some (.map key elem)) (hkt : P.underlying key = some dd) (hp : PlainKey dd kv) (hz : ∀ w, (zeroValue elem).run P w = .ok z w) (hf : fd dd kv kvs 0 = some none)
  (h : G n ((d, tupleOf [z, .int .i64 kvs.length]) :: l) S w0 (L.set i (mapB b (kvs ++ [(kv, z)]))) K) : G n l S w0 L (K1 P ops kt ⟨some d, .mapEntry t x ix, ty, pos, af, none⟩ K) := .mk fun a w hF H => h3u rfl <| by
 have hat := H.at_ i hi
 have hfn : Instr.findNow dd kv (mkE kvs 0) 0 = some none := by rw [fd_eq]; exact hf
 have hr : (Instr.mapEntry t (.map (some b)) kv).run P w = .ok (tupleOf [z, .int .i64 kvs.length]) { w with heap := w.heap.setIfInBounds b (mapB b (kvs ++ [(kv, z)])).o } := by
  unfold Instr.mapEntry
  simp only [Sem.run_bind, run_underlying ht, Result.andThen_ok, run_getObj_map hat, h4h hkt hp, run_findKey hkt hfn, hz, run_setMap hat, Sem.run_pure]
  simp [mkE_app, tupleOf, goInt]
 have hgo : (execOp a.eval (⟨some d, .mapEntry t x ix, ty, pos, af, none⟩ : Oper)).run P w = .ok (.value (tupleOf [z, .int .i64 kvs.length])) { w with heap := w.heap.setIfInBounds b (mapB b (kvs ++ [(kv, z)])).o } := by
  unfold execOp
  simp only [hF.eval hx, hF.eval hk, Sem.run_bind, hr, Result.andThen_ok, Sem.run_pure]
 unfold Oper.wp
 rw [hgo]
 exact h.out _ _ (hF.put (some d) _ hd) (H.setMap hi _)
theorem find_born (kvs : List (Value × Value)) (i j : Nat) (hj : j < kvs.length) : (mkE kvs i).findIdx? (fun e => (e.born : Int) == ((i + j : Nat) : Int)) = some j := by
 induction kvs generalizing i j with
 | nil => simp at hj
 | cons p r ih =>
  cases j with
  | zero => simp [mkE, List.findIdx?_cons]
  | succ j =>
   have hne : ((i : Int) == ((i + (j + 1) : Nat) : Int)) = false := by simp; omega
   rw [mkE, List.findIdx?_cons]
   simp only [hne]
   have := ih (i + 1) j (by simpa using hj)
   rw [show i + 1 + j = i + (j + 1) by omega] at this
   rw [if_neg (by simp)]
   simpa using this
theorem K1_entryStore {t : TypeId} {x s y : Operand} {i b j : Nat} {kvs : List (Value × Value)} {k0 u v : Value} {st : Int} (hx : ev l x = some (.map (some b))) (hs : ev l s = some (.int .i64 st)) (hy : ev l y = some v) (hi : L[i]? = some (mapB b kvs)) (hj : kvs[j]? = some (k0, u)) (hst : st = (j : Nat))
  (h : G n l S w0 (L.set i (mapB b (kvs.set j (k0, v)))) K) : G n l S w0 L (K1 P ops kt ⟨none, .entryStore t x s y, ty, pos, af, none⟩ K) := .mk fun a w hF H => h3u rfl <| by
 subst hst
 have hat := H.at_ i hi
 have hlt : j < kvs.length := by
  rcases Nat.lt_or_ge j kvs.length with h | h
  ·exact h
  ·simp [List.getElem?_eq_none h] at hj
 have hfb := find_born kvs 0 j hlt
 rw [Nat.zero_add] at hfb
 have e1 : (mkE kvs 0).modify j (fun e => { key := e.key, val := v, born := e.born }) = mkE (kvs.set j (k0, v)) 0 := mkE_set kvs 0 j (k0, v) _ (fun q hq => by rw [hj] at hq; obtain rfl := Option.some.inj hq; rfl)
 have hr : (Instr.entryStore t (.map (some b)) (.int .i64 (j : Nat)) v).run P w = .ok () { w with heap := w.heap.setIfInBounds b (mapB b (kvs.set j (k0, v))).o } := by
  unfold Instr.entryStore
  simp only [Sem.run_bind, run_getObj_map hat, Result.andThen_ok, asInt, asIntOf, Sem.run_pure, List.findIdx?_toArray, hfb, run_setMap hat]
  congr 1
  simp [e1]
 have hgo : (execOp a.eval (⟨none, .entryStore t x s y, ty, pos, af, none⟩ : Oper)).run P w = .ok .skip { w with heap := w.heap.setIfInBounds b (mapB b (kvs.set j (k0, v))).o } := by
  unfold execOp
  simp only [hF.eval hx, hF.eval hs, hF.eval hy, Sem.run_bind, hr, Result.andThen_ok, Sem.run_pure]
 unfold Oper.wp
 rw [hgo]
 exact h.out _ _ hF (H.setMap hi _)
theorem K1_entryStoreL {t : TypeId} {x s y : Operand} {i b : Nat} {kvs : List (Value × Value)} {k0 u v : Value} (hx : ev l x = some (.map (some b))) (hs : ev l s = some (.int .i64 kvs.length)) (hy : ev l y = some v) (hi : L[i]? = some (mapB b (kvs ++ [(k0, u)])))
  (h : G n l S w0 (L.set i (mapB b (kvs ++ [(k0, v)]))) K) : G n l S w0 L (K1 P ops kt ⟨none, .entryStore t x s y, ty, pos, af, none⟩ K) :=
 K1_entryStore (j:=kvs.length) (k0:=k0) (u:=u) hx hs hy hi (by simp) rfl (by rw [List.set_append_right _ _ (Nat.le_refl _), Nat.sub_self, List.set_cons_zero]; exact h)
theorem G_regionHc {i j id m : Nat} {os : List Oper} {Lb : List Blk} (hb : (L.eraseIdx i).eraseIdx j = Lb) (hm : P.follows .mixedOrders = true) (hl : os.length = m) (h : G n l S w0 L (KH P S w0 Lb os.toArray kt m (Array.replicate m false))) : G n l S w0 L (KC P (.region id os.toArray true) kt) := .mk fun a w hf H => by
 subst hl
 have _ := hb
 exact ⟨wp_region_held hm (by simpa using (h.out a _ hf H.drew).out)⟩
end
section
variable {P : Program} {n : Nat} {l : List (Nat × Value)} {S : List Nat} {w0 : World} {L : List Blk} {K : Act → World → Prop} {k : Kont} {ops : Array Oper} {d : Tmp} {ty : TypeId} {pos : String} {af : Array Edge}
end
theorem h4l {E size : Nat} {v : Value} {n : Nat} {xs : List Value} {e : List Blk} (h : Own E size v n xs e) :
  (v = .slice none 0 0 ∧ n = 0 ∧ xs = [] ∧ e = []) ∨ ∃ g cap cur, v = .slice (some ⟨g, 0, none⟩) n cap ∧ e = [⟨true, g, .cells cur E (0, 0)⟩] ∧ n ≤ cap ∧ cap ≤ maxLen ∧ cur.size = cap * size ∧ cur.toList.take (n * size) = xs := by
 obtain ⟨h1, h | h⟩ := h
 ·obtain ⟨a, b, c⟩ := h
  subst b
  rw [Nat.zero_mul] at h1
  exact .inl ⟨a, rfl, List.eq_nil_of_length_eq_zero h1, c⟩
 ·exact .inr h
theorem own_mk {E size n g cap : Nat} {cur : Array Value} {xs : List Value} (h1 : n ≤ cap) (h2 : cap ≤ maxLen) (h3 : cur.size = cap * size) (h4 : cur.toList.take (n * size) = xs) :
  Own E size (.slice (some ⟨g, 0, none⟩) n cap) n xs [⟨true, g, .cells cur E (0, 0)⟩] := by subst h4; exact Own.of_block h1 h2 h3
def letF (c : UInt8) : Bool := decide (97 ≤ c.toNat) && decide (c.toNat ≤ 122)
def digF (c : UInt8) : Bool := decide (48 ≤ c.toNat) && decide (c.toNat ≤ 57)
def witF (c : UInt8) : Bool := letF c || digF c || decide (c = 45) || decide (c = 95) || decide (c = 44)
def prnF (c : UInt8) : Bool := decide (32 < c.toNat) && decide (c.toNat < 127) && !decide (c = 35)
def alnF (c : UInt8) : Bool := letF c || digF c
def sgnF (c : UInt8) : Bool := decide (c = 61) || decide (c = 33) || decide (c = 60) || decide (c = 62) || decide (c = 38)
def blkF (c : UInt8) : Bool := decide (c = 32) || decide (c = 9) || decide (c = 13)
def wl (p : UInt8 → Bool) (l : List UInt8) : Nat := (l.takeWhile p).length
structure Tk where
 kind : Nat
 text : List UInt8
 num : Nat
 line : Nat
 col : Nat
def Tk.cells (t : Tk) : List Value := [.int .u8 (t.kind : Nat), .string (mB8 t.text), .int .u64 (t.num : Nat), .int .i64 (t.line : Nat), .int .i64 (t.col : Nat)]
def flatTk (l : List Tk) : List Value := l.flatMap Tk.cells
theorem flatTk_len (l : List Tk) : (flatTk l).length = l.length * 5 := by
 induction l with
 | nil => rfl
 | cons t r ih => rw [flatTk, List.flatMap_cons, List.length_append]; rw [flatTk] at ih; rw [ih, List.length_cons]; simp only [Tk.cells, List.length_cons, List.length_nil]; omega
def sgns : List (List UInt8) := [[61, 61], [33, 61], [60], [60, 61], [62], [62, 61], [38]]
def rightF (k : Nat) (t : List UInt8) : Nat × Nat :=
 if k = 2 then (match numF t with | none => (204, 0) | some n => (0, n))
 else if k = 3 then (if t.length > 120 then (36, 0) else (0, 0))
 else if k = 4 then (if t ∈ sgns then (0, 0) else (202, 0))
 else (0, 0)
def kindF (c : UInt8) : Nat := if letF c then 1 else if digF c then 2 else if c = 47 then 3 else 4
def predF (k : Nat) : UInt8 → Bool := if k = 1 then witF else if k = 2 then alnF else if k = 3 then prnF else sgnF
theorem disable (w : World) : (callFunc 75 #[]).run Tryd.prog w = .ok (.value (.tuple #[])) w := run_call_mark0 Tryd.func75 (by kernel_rfl) (by kernel_rfl) (by kernel_rfl) .disable (by kernel_rfl) w
theorem enable (w : World) : (callFunc 77 #[]).run Tryd.prog w = .ok (.value (.tuple #[])) w := run_call_mark0 Tryd.func77 (by kernel_rfl) (by kernel_rfl) (by kernel_rfl) .enable (by kernel_rfl) w
theorem acquire (a : Addr) (w : World) : (callFunc 78 #[.pointer (some a)]).run Tryd.prog w = .ok (.value (.tuple #[])) w := run_call_marked Tryd.func78 (by kernel_rfl) (by kernel_rfl) (by kernel_rfl) .acquire (by kernel_rfl) a w
theorem releaseMerge (a : Addr) (w : World) : (callFunc 80 #[.pointer (some a)]).run Tryd.prog w = .ok (.value (.tuple #[])) w := run_call_marked Tryd.func80 (by kernel_rfl) (by kernel_rfl) (by kernel_rfl) .releaseMerge (by kernel_rfl) a w
theorem store_deferred (a : Addr) (x : Value) (u : FrameMode) (w : World) (hc : w.cell? a = some x) (hz : w.frozen? a = false) :
  CallsD Tryd.prog 61 #[.pointer (some a), .bool true] u w fun e u' w' => u' = u ∧ (e = .returned (.tuple #[]) ∧ w' = w.drew.setCell a (.int .u32 1)) := by
 have hc' : w.drew.cell? a = some x := by go_simp
 have hz' : w.drew.frozen? a = false := by go_simp
 have hst := run_call_store (P:=Tryd.prog) Tryd.func68 (by kernel_rfl) (by kernel_rfl) (by kernel_rfl) (by kernel_rfl) (k:=.u32) (y:=1) hc' hz'
 go_enter_d Tryd.func61, Tryd.ntmps61
 go_wp2
 go_region_calls
 all_goals (go_end0; exact ⟨rfl, rfl⟩)
theorem unlock_deferred (a : Addr) (u : FrameMode) (w : World) (hc : w.cell? a = some (.int .i32 1)) (hz : w.frozen? a = false) :
  CallsD Tryd.prog 60 #[.pointer (some a)] u w fun e u' w' => u' = u ∧ (e = .returned (.tuple #[]) ∧ w' = w.setCell a (.int .i32 0)) := by
 have hd := disable
 have he := enable
 have hr := releaseMerge
 have hadd := run_call_add (P:=Tryd.prog) Tryd.func81 (by kernel_rfl) (by kernel_rfl) (by kernel_rfl) .i32 (by kernel_rfl) (y:=-1) (s:=0) hc hz (by simp [go_sem]; rfl)
 have hcv := run_convert_to_unsafe (P:=Tryd.prog) (src:=156) (dst:=160) Tryd.underlying156 Tryd.underlying160 (by kernel_rfl) hc
 go_enter_d Tryd.func60, Tryd.ntmps60
 go_wp2
 go_end0
 go_wp2
 go_end0
 exact ⟨rfl, rfl⟩
theorem lock_free (a : Addr) (w : World) (hc : w.cell? a = some (.int .i32 0)) (hz : w.frozen? a = false) :
  Calls Tryd.prog 59 #[.pointer (some a)] w fun e w' => e = .returned (.tuple #[]) ∧ w' = w.setCell a (.int .i32 1) := by
 have hd := disable
 have he := enable
 have ha := acquire
 have hcas := run_call_cas_hit (P:=Tryd.prog) Tryd.func76 (by kernel_rfl) (by kernel_rfl) (by kernel_rfl) .i32 (by kernel_rfl) (y:=1) hc hz
 have hc' : (w.setCell a (.int .i32 1)).cell? a = some (.int .i32 1) := World.cell?_setCell_same w a _ hc
 have hcv := run_convert_to_unsafe (P:=Tryd.prog) (src:=156) (dst:=160) Tryd.underlying156 Tryd.underlying160 (by kernel_rfl) hc'
 go_enter Tryd.func59, Tryd.ntmps59
 go_wp2
 first | go_end0 | (simp only [Exit.inBlock, Exit.then]; refine bodyPost_ret (results_none rfl _ _ _) rfl ?_) | refine bodyPost_ret (results_none rfl _ _ _) rfl ?_
 go_wp2
 go_end0
 exact ⟨rfl, rfl⟩
theorem HP.setc {S : List Nat} {w0 w : World} {L : List Blk} {b off : Nat} {cs : List Value} {T : TypeId} (H : HP S w0 w (⟨true, b, .cells cs.toArray T (0, 0)⟩ :: L)) (v : Value) : HP S w0 (w.setCell ⟨b, off, none⟩ v) (⟨true, b, .cells (cs.set off v).toArray T (0, 0)⟩ :: L) := by
 have := H.turn 0 rfl (w.setCell ⟨b, off, none⟩ v) (.cells (cs.toArray.setIfInBounds off v) T (0, 0)) rfl rfl rfl (by simp)
  (by rw [heap_setCell_same w b off _ T _ (H.at_ 0 rfl)]) (fun q hq => heap_setCell_other w _ q _ hq)
 simpa using this
theorem HP.cellc {S : List Nat} {w0 w : World} {L : List Blk} {b off : Nat} {cs : List Value} {T : TypeId} {v : Value} (H : HP S w0 w (⟨true, b, .cells cs.toArray T (0, 0)⟩ :: L)) (hv : cs[off]? = some v) : w.cell? ⟨b, off, none⟩ = some v := by
 rw [cell_at H 0 rfl]; simpa using hv
theorem HP.frz {S : List Nat} {w0 w : World} {L : List Blk} {b off : Nat} {cs : List Value} {T : TypeId} (H : HP S w0 w (⟨true, b, .cells cs.toArray T (0, 0)⟩ :: L)) : w.frozen? ⟨b, off, none⟩ = false := by
 simp [frozen_at H 0 rfl]
namespace Rg
def OnceR (T : TypeId) (b off : Nat) (Q : List Value → List Blk → Prop) (v : Value) (L' : List Blk) : Prop :=
 v = .tuple #[] ∧ ∃ cs L2, Q cs L2 ∧ cs[off]? = some (.int .u32 0) ∧ cs[off + 1]? = some (.int .i32 1) ∧ ⟨true, b, .cells cs.toArray T (0, 0)⟩ :: L2 = L'
def OnceD (T : TypeId) (b off : Nat) (Q : List Value → List Blk → Prop) (v : Value) (L' : List Blk) : Prop :=
 v = .tuple #[] ∧ ∃ cs L2, Q cs L2 ∧ ⟨true, b, .cells ((cs.set off (.int .u32 1)).set (off + 1) (.int .i32 0)).toArray T (0, 0)⟩ :: L2 = L'
set_option maxHeartbeats 1600000 in
theorem slow_c {S w0 L} {T : TypeId} {b off : Nat} {cs : List Value} {Q : List Value → List Blk → Prop} {fv : Value} (h0 : cs[off]? = some (.int .u32 0)) (h1 : cs[off + 1]? = some (.int .i32 0))
  (hf : Fn Tryd.prog 48 #[fv] S w0 (⟨true, b, .cells (cs.set (off + 1) (.int .i32 1)).toArray T (0, 0)⟩ :: L) (OnceR T b off Q)) :
  Fn Tryd.prog 52 #[.pointer (some ⟨b, off, none⟩), .func (.func 48) #[fv] #[]] S w0 (⟨true, b, .cells cs.toArray T (0, 0)⟩ :: L) (OnceD T b off Q) := .mk fun w H => by
 have a0 := H.cellc h0
 have a1 := H.cellc h1
 have f0 : w.frozen? ⟨b, off, none⟩ = false := H.frz
 have f1 : w.frozen? ⟨b, off + 1, none⟩ = false := H.frz
 have hl := run_call_load (P:=Tryd.prog) Tryd.func58 (by kernel_rfl) (by kernel_rfl) (by kernel_rfl) .u32 (by kernel_rfl) (w:=w.setCell ⟨b, off + 1, none⟩ (.int .i32 1)) (a:=⟨b, off, none⟩) (x:=0) ((World.cell?_setCell_other _ ⟨b, off + 1, none⟩ ⟨b, off, none⟩ _ (by simp)).trans a0)
 have hnot : ∀ (x : Bool) (w : World), (Op.unary .not (.bool x)).run Tryd.prog w = .ok (.bool (!x)) w := fun _ _ => rfl
 have H1 := H.setc (off:=off + 1) (.int .i32 1)
 have hcall := hf.out _ H1
 go_enter_defers Tryd.func52, Tryd.ntmps52
 have H2c : ∀ (e : Ending) (w' : World), (∃ v L', e = .returned v ∧ OnceR T b off Q v L' ∧ HP S w0 w' L') → ∃ cs' L2, e = .returned (.tuple #[]) ∧ Q cs' L2 ∧ cs'[off]? = some (.int .u32 0) ∧ cs'[off + 1]? = some (.int .i32 1) ∧ HP S w0 w' (⟨true, b, .cells cs'.toArray T (0, 0)⟩ :: L2) := by
  rintro e w' ⟨_, _, rfl, ⟨rfl, cs', L2, hQ, hc0, hc1, rfl⟩, H2⟩
  exact ⟨cs', L2, rfl, hQ, hc0, hc1, H2⟩
 have hcall2 := hcall.mono H2c
 clear hcall H2c hf H1
 go_wp2_with (first | (go_at_call 59; refine (lock_free ⟨b, off + 1, none⟩ _ (by go_simp) (by go_simp)).mono ?_; rintro e w' ⟨rfl, rfl⟩) | (go_at_call 48; refine hcall2.mono ?_; rintro e w' ⟨cs', L2, rfl, hQ, hc0, hc1, H2⟩) | (go_at_call 51; go_in))
 refine leaves_cons (f:=61) (args:=#[.pointer (some ⟨b, off, none⟩), .bool true]) (by simp) (by simp [go_sem]) ?_
 refine (store_deferred ⟨b, off, none⟩ (.int .u32 0) .returning _ (H2.cellc hc0) H2.frz).mono ?_
 rintro e u' w'' ⟨rfl, rfl, rfl⟩
 have H3 := (H2.drew).setc (off:=off) (.int .u32 1)
 have hc1' : (cs'.set off (.int .u32 1))[off + 1]? = some (.int .i32 1) := by rw [List.getElem?_set_ne (by omega)]; exact hc1
 refine leaves_cons (f:=60) (args:=#[.pointer (some ⟨b, off + 1, none⟩)]) (by simp [settle]) (by simp [go_sem]) ?_
 refine (unlock_deferred ⟨b, off + 1, none⟩ _ _ (H3.cellc hc1') H3.frz).mono ?_
 rintro e u' w'' ⟨rfl, rfl, rfl⟩
 have H4 := H3.setc (off:=off + 1) (.int .i32 0)
 show Leaves _ _ _ _ [] .returning _
 exact ⟨.tuple #[], results_none rfl _ _ _, _, _, rfl, ⟨rfl, cs', L2, hQ, rfl⟩, H4⟩
theorem do_first {S w0 L} {T : TypeId} {b off : Nat} {cs : List Value} {Q : List Value → List Blk → Prop} {fv : Value} (h0 : cs[off]? = some (.int .u32 0)) (h1 : cs[off + 1]? = some (.int .i32 0))
  (hf : Fn Tryd.prog 48 #[fv] S w0 (⟨true, b, .cells (cs.set (off + 1) (.int .i32 1)).toArray T (0, 0)⟩ :: L) (OnceR T b off Q)) :
  Fn Tryd.prog 47 #[.pointer (some ⟨b, off, none⟩), .func (.func 48) #[fv] #[]] S w0 (⟨true, b, .cells cs.toArray T (0, 0)⟩ :: L) (OnceD T b off Q) := .mk fun w H => by
 have hl := run_call_load (P:=Tryd.prog) Tryd.func58 (by kernel_rfl) (by kernel_rfl) (by kernel_rfl) .u32 (by kernel_rfl) (H.cellc h0)
 have hnot : ∀ (x : Bool) (w : World), (Op.unary .not (.bool x)).run Tryd.prog w = .ok (.bool (!x)) w := fun _ _ => rfl
 have hs := (slow_c h0 h1 hf).out w H
 clear hf
 go_enter Tryd.func47, Tryd.ntmps47
 go_wp2_with (first | (go_at_call 52; refine hs.mono ?_; rintro e w' ⟨v, L', rfl, hD, H2⟩) | (go_at_call 51; go_in))
 go_end0
 obtain ⟨rfl, hD⟩ := hD
 exact ⟨_, _, rfl, ⟨rfl, hD⟩, H2⟩
theorem do_done {S w0 L} {T : TypeId} {b off : Nat} {cs : List Value} {fv : Value} (h0 : cs[off]? = some (.int .u32 1)) :
  Fn Tryd.prog 47 #[.pointer (some ⟨b, off, none⟩), fv] S w0 (⟨true, b, .cells cs.toArray T (0, 0)⟩ :: L) fun v L' => v = .tuple #[] ∧ ⟨true, b, .cells cs.toArray T (0, 0)⟩ :: L = L' := .mk fun w H => by
 have hl := run_call_load (P:=Tryd.prog) Tryd.func58 (by kernel_rfl) (by kernel_rfl) (by kernel_rfl) .u32 (by kernel_rfl) (H.cellc h0)
 have hnot : ∀ (x : Bool) (w : World), (Op.unary .not (.bool x)).run Tryd.prog w = .ok (.bool (!x)) w := fun _ _ => rfl
 go_enter Tryd.func47, Tryd.ntmps47
 go_wp2
 go_end0
 exact ⟨_, _, rfl, ⟨rfl, rfl⟩, H⟩
def wl : List ByteArray := [
 ⟨#[101, 120, 101, 99]⟩,
 ⟨#[119, 114, 105, 116, 101]⟩,
 ⟨#[114, 101, 97, 100]⟩,
 ⟨#[108, 105, 115, 116]⟩,
 ⟨#[114, 109, 100, 105, 114]⟩,
 ⟨#[114, 109, 102, 105, 108, 101]⟩,
 ⟨#[109, 107, 100, 105, 114]⟩,
 ⟨#[109, 107, 102, 105, 108, 101]⟩,
 ⟨#[109, 107, 108, 105, 110, 107]⟩,
 ⟨#[114, 101, 102, 101, 114]⟩,
 ⟨#[116, 114, 117, 110, 99, 97, 116, 101]⟩,
 ⟨#[]⟩,
 ⟨#[]⟩,
 ⟨#[]⟩,
 ⟨#[98, 105, 110, 100]⟩,
 ⟨#[99, 111, 110, 110, 101, 99, 116]⟩]
def wd (k : Nat) : ByteArray := wl.getD k ⟨#[]⟩
def nmd (k : Nat) : Bool := decide (wd k ≠ ⟨#[]⟩)
def ixs : List Nat := (List.range 16).filter nmd
theorem fd_app_none {d : TypeDesc} {k : Value} {a : List (Value × Value)} {i : Nat} (h : ∀ p ∈ a, Instr.sameNow d k p.1 = some false) : fd d k a i = some none := by
 induction a generalizing i with
 | nil => rfl
 | cons p r ih =>
  simp only [fd, h p (by simp)]
  exact ih (fun q hq => h q (by simp [hq]))
def hasF (n m : Nat) : Bool := decide (h3e (m : Int) (n : Int) = 0)
theorem has_c {S w0 L} (n m : Nat) (hn : n < 65536) (hm : m < 65536) : Fn Tryd.prog 46 #[.int .u16 (n : Int), .int .u16 (m : Int)] S w0 L fun v L' => v = .bool (hasF n m) ∧ L = L' := by
 refine Fn2 Tryd.func46 Tryd.ntmps46 rfl rfl ?_
 repeat' (first | refine h0t ?_ | refine h0e ?_ | refine h1e ?_ | (refine gR 0 (p_a (h:=h0a ?_))) | (refine gR 1 (p_m (h:=q_m ?_)) <;> (try refine q_e (q_b (r:=by refine rb_andn ?_ ?_; (focus (refine ⟨rfl, ⟨?_, ?_⟩⟩; omega; (focus (simp only [IntKind.bits]; omega)))); (focus (refine ⟨rfl, ⟨?_, ?_⟩⟩; omega; (focus (simp only [IntKind.bits]; omega)))))) ?_) <;> (try refine p_e (q_b (r:=by exact rb_eql)) (h:=p_a (h:=h0a ?_)))))
 (refine h0z Tryd.results46 (.tmp rfl .nil) ?_)
 exact ⟨_, ⟨rfl, rfl⟩, by intro w H; refine H.sub ?_; (try simp only [zzC, zzN]); repeat (exact List.Sublist.refl _)⟩
theorem valid_c {S w0 L} (n : Nat) (hn : n < 65536) : Fn Tryd.prog 22 #[.int .u16 (n : Int)] S w0 L fun v L' => v = .bool (decide (h3e (n : Int) 51199 = 0)) ∧ L = L' := by
 refine Fn1 Tryd.func22 Tryd.ntmps22 rfl rfl ?_
 repeat' (first | refine h0t ?_ | refine h0e ?_ | refine h1e ?_ | (refine gR 0 (p_a (h:=h0a ?_))) | (refine gR 1 (q_m ?_) <;> (try refine q_e (q_b (r:=by refine rb_andn ?_ ?_; (focus (refine ⟨rfl, ⟨?_, ?_⟩⟩; omega; (focus (simp only [IntKind.bits]; omega)))); (focus (refine ⟨rfl, ⟨?_, ?_⟩⟩; omega; (focus (simp only [IntKind.bits]; omega)))))) ?_) <;> (try refine p_e (q_b (r:=by exact rb_eql)) (h:=p_a (h:=h0a ?_)))))
 (refine h0z Tryd.results22 (.tmp rfl .nil) ?_)
 exact ⟨_, ⟨rfl, rfl⟩, by intro w H; refine H.sub ?_; (try simp only [zzC, zzN]); repeat (exact List.Sublist.refl _)⟩
theorem power_c {S w0 L} (k : Nat) (hk : k ≤ 16) : Fn Tryd.prog 41 #[.int .i64 (k : Int)] S w0 L fun v L' => v = .int .i64 ((2 ^ k : Nat) : Int) ∧ L = L' := by
 refine Fn1 Tryd.func41 Tryd.ntmps41 rfl rfl ?_
 repeat' (first | (refine h2g (id:=0) ?_) | refine h0t ?_ | refine h0e ?_ | (refine gR 0 (p_a (h:=h0a ?_))) | (refine gR 1 (p_a (h:=h0a ?_))) | (refine gR 2 (p_a (h:=h0a ?_))))
 refine ⟨?_⟩
 refine h0o ?_
 refine h2i (γ:=Nat) (fun i => i ≤ k) (fun i => k - i) (fun i => [(3, .int .i64 ((2 ^ i : Nat) : Int)), (4, .int .i64 (i : Nat))]) [(0, _)]
  (fun _ => L) 0 (.cons rfl .nil) (Nat.zero_le _) (by (focus (repeat (first | exact Sub.nil | refine Sub.cons rfl ?_)))) c_20 ?_
 intro i (hi : i ≤ k)
 by_cases hlt : i < k
 ·have hp : 2 ^ (i + 1) = 2 ^ i * 2 := Nat.pow_succ ..
  have hle : 2 ^ i ≤ 2 ^ 16 := Nat.pow_le_pow_right (by omega) (by omega)
  have hp' := Lib.hid hp
  clear hp
  generalize 2 ^ i = p at *
  repeat' (first | refine h0t ?_ | refine h0e ?_ | refine h1d ?_ | refine h1h ?_ | refine h0o ?_ | refine h1a ?_ | refine h0l rfl ?_ | (refine gR 3 (p_m (h:=p_m (h:=p_e (q_b (r:=by exact h0q q_o)) (h:=h0a ?_))))) | (refine gR 5 (q_m ?_) <;> (try refine q_e (q_b (r:=by apply rb_mul; exact c_4; (focus (refine IntWalk.i64_in _ ?_; omega)))) ?_) <;> (try refine p_a (h:=h0a ?_))) | (refine gR 4 (q_m ?_) <;> (try refine q_e (q_b (r:=by apply h1q; exact c_4; (focus (refine IntWalk.i64_in _ ?_; omega)))) ?_) <;> (try refine p_a (h:=h0a ?_))))
  refine h1p (i + 1) ⟨by omega, by omega⟩ ?_ c_20
  rw [hp'.out]
  push_cast
  (focus (repeat (first | exact Sub.nil | refine Sub.cons rfl ?_)))
 ·obtain rfl : i = k := by omega
  repeat' (first | refine h0t ?_ | refine h0e ?_ | refine h1w ?_ | refine h1o ?_ | refine h1v ?_ | refine h2j ?_ | refine h1e ?_ | refine h0m rfl ?_ | (refine gR 3 (p_m (h:=p_m (h:=p_e (q_b (r:=by exact h0r q_o)) (h:=h0a ?_))))) | (refine gR 6 (p_m (h:=p_a (h:=h0a ?_)))))
  (refine h0z Tryd.results41 (.tmp rfl .nil) ?_)
  exact ⟨_, ⟨rfl, rfl⟩, by intro w H; refine H.sub ?_; (try simp only [zzC, zzN]); repeat (exact List.Sublist.refl _)⟩
theorem rhas_c {S w0 L} (n k : Nat) (hn : n < 65536) (hk : k ≤ 16) : Fn Tryd.prog 40 #[.int .i64 (n : Int), .int .i64 (k : Int)] S w0 L fun v L' => v = .bool (n.testBit k) ∧ L = L' := by
 have hpw := fun (L : List Blk) => power_c (S:=S) (w0:=w0) (L:=L) k hk
 have hpp : 0 < 2 ^ k := Nat.two_pow_pos k
 have ht : n.testBit k = decide (n / 2 ^ k % 2 = 1) := Nat.testBit_eq_decide_div_mod_eq
 have hle : n / 2 ^ k ≤ n := Nat.div_le_self _ _
 rw [ht]
 clear ht
 generalize 2 ^ k = p at *
 have hq : (n : Int) / (p : Int) = ((n / p : Nat) : Int) := rfl
 have hd : decide (n / p % 2 = 1) = decide ((n : Int) / (p : Int) % 2 = 1) := by rw [hq]; apply decide_eq_decide.2; omega
 rw [hd]
 have hb1 : 0 ≤ (n : Int) / (p : Int) := by rw [hq]; exact Int.natCast_nonneg _
 have hb2 : (n : Int) / (p : Int) < 65536 := by rw [hq]; exact Int.ofNat_lt.2 (Nat.lt_of_le_of_lt hle hn)
 clear hq hd hle
 refine Fn2 Tryd.func40 Tryd.ntmps40 rfl rfl ?_
 repeat' (first | refine h0t ?_ | refine h0e ?_ | refine h1e ?_ | (refine gR 0 (p_a (h:=h0a ?_))) | (refine gR 1 (p_m (h:=q_m ?_)) <;> (try refine h0b ?_; (refine h4a (F:=41) (by kernel_rfl) rfl rfl (hpw _) ?_; rintro _ _ ⟨rfl, rfl⟩)) <;> (try refine q_e (q_b (r:=by apply rb_quo; omega; omega; exact c_4; (focus (refine IntWalk.i64_in _ ?_; omega)))) ?_) <;> (try refine p_e (q_b (r:=by apply h4i; omega; omega; exact c_4)) (h:=p_e (q_b (r:=by exact rb_eql)) (h:=p_a (h:=h0a ?_))))))
 (refine h0z Tryd.results40 (.tmp rfl .nil) ?_)
 exact ⟨_, ⟨rfl, rfl⟩, by intro w H; refine H.sub ?_; (try simp only [zzC, zzN]); repeat (exact List.Sublist.refl _)⟩
def rgC : List Value := ixs.flatMap fun (i : Nat) => [.int .i64 ((i : Nat) : Int), .string (wd i)]
end Rg
section
variable {P : Program} {n : Nat} {l : List (Nat × Value)} {S : List Nat} {w0 : World} {L : List Blk} {K : Act → World → Prop} {kt : Kont} {ops : Array Oper} {d : Tmp} {ty : TypeId} {pos : String} {af : Array Edge}
abbrev iterB (b : Nat) (s : ByteArray) (p : Nat) : Blk := ⟨true, b, .stringIter s p⟩
theorem K1_rangeStr {t : TypeId} {x : Operand} {s : ByteArray} (hd : Nat.blt d n = true) (hx : ev l x = some (.string s)) (ht : P.underlying t = some .string)
  (h : ∀ nb, w0.heap.size ≤ nb → G n ((d, .pointer (some ⟨nb, 0, none⟩)) :: l) S w0 (iterB nb s 0 :: L) K) : G n l S w0 L (K1 P ops kt ⟨some d, .range t x, ty, pos, af, none⟩ K) := .mk fun a w hf H => h3u rfl <| by
 unfold Oper.wp execOp
 simp only [hf.eval hx, Instr.range, Sem.run_bind, run_underlying ht, Sem.run_pure, Result.andThen_ok, run_newObj]
 exact (h _ H.size).out _ _ (hf.put (some d) _ hd) (H.alloc _)
theorem K1_nextStr {x : Operand} {i b p : Nat} {s : ByteArray} (hd : Nat.blt d n = true) (hx : ev l x = some (.pointer (some ⟨b, 0, none⟩))) (hi : L[i]? = some (iterB b s p)) (hp : p < s.size)
  (h : G n ((d, .tuple [.bool true, .int .i64 p, .int .i32 (Utf8.decode s p).1].toArray) :: l) S w0 (L.set i (iterB b s (p + (Utf8.decode s p).2))) K) : G n l S w0 L (K1 P ops kt ⟨some d, .next x true, ty, pos, af, none⟩ K) := .mk fun a w hf H => h3u rfl <| by
 have hat := H.at_ i hi
 have hb : b < w.heap.size := H.lt i hi
 have hset : (setObj b (.stringIter s (p + (Utf8.decode s p).2))).run P w = .ok () { w with heap := w.heap.setIfInBounds b (.stringIter s (p + (Utf8.decode s p).2)) } := by
  simp only [setObj, Sem.run, hat]
 have H1 := H.turn i hi { w with heap := w.heap.setIfInBounds b (.stringIter s (p + (Utf8.decode s p).2)) } (.stringIter s (p + (Utf8.decode s p).2)) rfl rfl rfl (by simp) (by simp [hb]) (fun k hk => by rw [Array.getElem?_setIfInBounds, if_neg (fun e => hk (Eq.symm e))])
 have hr : (Instr.next (.pointer (some ⟨b, 0, none⟩)) true ty).run P w = .ok (.tuple [.bool true, .int .i64 p, .int .i32 (Utf8.decode s p).1].toArray) { w with heap := w.heap.setIfInBounds b (.stringIter s (p + (Utf8.decode s p).2)) } := by
  unfold Instr.next
  simp only [Sem.run_bind, getObj, Sem.run, hat, Result.andThen_ok, hp, if_true]
  simp only [Sem.run_bind, hset, Result.andThen_ok, Sem.run_pure, goInt]
 unfold Oper.wp execOp
 simp only [hf.eval hx, Sem.run_bind, hr, Result.andThen_ok, Sem.run_pure]
 exact h.out _ _ (hf.put (some d) _ hd) H1
theorem K1_nextOver {x : Operand} {i b p : Nat} {s : ByteArray} (hd : Nat.blt d n = true) (hx : ev l x = some (.pointer (some ⟨b, 0, none⟩))) (hi : L[i]? = some (iterB b s p)) (hp : ¬ p < s.size)
  (h : G n ((d, .tuple [.bool false].toArray) :: l) S w0 L K) : G n l S w0 L (K1 P ops kt ⟨some d, .next x true, ty, pos, af, none⟩ K) := .mk fun a w hf H => h3u rfl <| by
 have hat := H.at_ i hi
 have hr : (Instr.next (.pointer (some ⟨b, 0, none⟩)) true ty).run P w = .ok (.tuple [.bool false].toArray) w := by
  unfold Instr.next
  simp only [Sem.run_bind, getObj, Sem.run, hat, Result.andThen_ok, hp, if_false, Sem.run_pure]
 unfold Oper.wp execOp
 simp only [hf.eval hx, Sem.run_bind, hr, Result.andThen_ok, Sem.run_pure]
 exact h.out _ _ (hf.put (some d) _ hd) H
end
end Go.Proofs.YtecbgehooembmaaDoor
