/- Part 2 of what the last text of this claim leans on: rules of walks, contracts, plain facts. Conditions: those of each statement. -/
import Derived.Test.YtecbgehooembmaaGreatDoorQo1
set_option maxRecDepth 100000
namespace Go.Proofs.YtecbgehooembmaaGreatDoor
open Go Go.RowKit
theorem sz_5 : (Tryz.prog.info? 5).map (·.size) = some 1 := by kernel_rfl
theorem sz_9 : (Tryz.prog.info? 9).map (·.size) = some 1 := by kernel_rfl
theorem h3z : (Tryz.prog.info? 25).map (·.size) = some 3 := by kernel_rfl
theorem sz_31 : (Tryz.prog.info? 31).map (·.size) = some 1 := by kernel_rfl
theorem sz_36 : (Tryz.prog.info? 36).map (·.size) = some 6 := by kernel_rfl
theorem sz_48 : (Tryz.prog.info? 48).map (·.size) = some 8 := by kernel_rfl
theorem sz_56 : (Tryz.prog.info? 56).map (·.size) = some 1 := by kernel_rfl
theorem sz_57 : (Tryz.prog.info? 57).map (·.size) = some 3 := by kernel_rfl
theorem sz_73 : (Tryz.prog.info? 73).map (·.size) = some 3 := by kernel_rfl
theorem sz_91 : (Tryz.prog.info? 91).map (·.size) = some 4 := by kernel_rfl
theorem sz_93 : (Tryz.prog.info? 93).map (·.size) = some 3 := by kernel_rfl
theorem sz_95 : (Tryz.prog.info? 95).map (·.size) = some 4 := by kernel_rfl
theorem sz_97 : (Tryz.prog.info? 97).map (·.size) = some 1 := by kernel_rfl
theorem sz_99 : (Tryz.prog.info? 99).map (·.size) = some 4 := by kernel_rfl
theorem sz_104 : (Tryz.prog.info? 104).map (·.size) = some 2 := by kernel_rfl
theorem sz_106 : (Tryz.prog.info? 106).map (·.size) = some 2 := by kernel_rfl
theorem sz_116 : (Tryz.prog.info? 116).map (·.size) = some 3 := by kernel_rfl
theorem h2k : (Tryz.prog.info? 166).map (·.size) = some 5 := by kernel_rfl
theorem sz_175 : (Tryz.prog.info? 175).map (·.size) = some 16 := by kernel_rfl
theorem sz_193 : (Tryz.prog.info? 193).map (·.size) = some 7 := by kernel_rfl
theorem fo_36_0 : FldOff Tryz.prog 36 0 0 := .of Tryz.underlying36 rfl (by kernel_rfl) rfl
theorem fo_36_1 : FldOff Tryz.prog 36 1 1 := .of Tryz.underlying36 rfl (by kernel_rfl) rfl
theorem h3s : FldOff Tryz.prog 36 2 2 := .of Tryz.underlying36 rfl (by kernel_rfl) rfl
theorem h5o : FldOff Tryz.prog 36 3 3 := .of Tryz.underlying36 rfl (by kernel_rfl) rfl
theorem h3u : FldOff Tryz.prog 36 4 4 := .of Tryz.underlying36 rfl (by kernel_rfl) rfl
theorem h3t : FldOff Tryz.prog 36 5 5 := .of Tryz.underlying36 rfl (by kernel_rfl) rfl
theorem fo_48_0 : FldOff Tryz.prog 48 0 0 := .of Tryz.underlying48 rfl (by kernel_rfl) rfl
theorem fo_48_1 : FldOff Tryz.prog 48 1 1 := .of Tryz.underlying48 rfl (by kernel_rfl) rfl
theorem fo_48_2 : FldOff Tryz.prog 48 2 2 := .of Tryz.underlying48 rfl (by kernel_rfl) rfl
theorem fo_48_3 : FldOff Tryz.prog 48 3 3 := .of Tryz.underlying48 rfl (by kernel_rfl) rfl
theorem fo_48_4 : FldOff Tryz.prog 48 4 4 := .of Tryz.underlying48 rfl (by kernel_rfl) rfl
theorem fo_48_5 : FldOff Tryz.prog 48 5 5 := .of Tryz.underlying48 rfl (by kernel_rfl) rfl
theorem fo_48_6 : FldOff Tryz.prog 48 6 6 := .of Tryz.underlying48 rfl (by kernel_rfl) rfl
theorem fo_48_7 : FldOff Tryz.prog 48 7 7 := .of Tryz.underlying48 rfl (by kernel_rfl) rfl
theorem fo_73_0 : FldOff Tryz.prog 73 0 0 := .of Tryz.underlying73 rfl (by kernel_rfl) rfl
theorem fo_73_1 : FldOff Tryz.prog 73 1 1 := .of Tryz.underlying73 rfl (by kernel_rfl) rfl
theorem h3f : FldOff Tryz.prog 73 2 2 := .of Tryz.underlying73 rfl (by kernel_rfl) rfl
theorem fo_77_0 : FldOff Tryz.prog 77 0 0 := .of Tryz.underlying77 rfl (by kernel_rfl) rfl
theorem fo_77_1 : FldOff Tryz.prog 77 1 1 := .of Tryz.underlying77 rfl (by kernel_rfl) rfl
theorem fo_85_0 : FldOff Tryz.prog 85 0 0 := .of Tryz.underlying85 rfl (by kernel_rfl) rfl
theorem h4m : FldOff Tryz.prog 85 1 1 := .of Tryz.underlying85 rfl (by kernel_rfl) rfl
theorem h3r : FldOff Tryz.prog 85 2 2 := .of Tryz.underlying85 rfl (by kernel_rfl) rfl
theorem h2j : FldOff Tryz.prog 85 3 5 := .of Tryz.underlying85 rfl (by kernel_rfl) rfl
theorem fo_85_4 : FldOff Tryz.prog 85 4 11 := .of Tryz.underlying85 rfl (by kernel_rfl) rfl
theorem fo_85_5 : FldOff Tryz.prog 85 5 12 := .of Tryz.underlying85 rfl (by kernel_rfl) rfl
theorem fo_91_0 : FldOff Tryz.prog 91 0 0 := .of Tryz.underlying91 rfl (by kernel_rfl) rfl
theorem fo_91_1 : FldOff Tryz.prog 91 1 1 := .of Tryz.underlying91 rfl (by kernel_rfl) rfl
theorem fo_91_2 : FldOff Tryz.prog 91 2 2 := .of Tryz.underlying91 rfl (by kernel_rfl) rfl
theorem fo_91_3 : FldOff Tryz.prog 91 3 3 := .of Tryz.underlying91 rfl (by kernel_rfl) rfl
theorem fo_93_0 : FldOff Tryz.prog 93 0 0 := .of Tryz.underlying93 rfl (by kernel_rfl) rfl
theorem fo_95_0 : FldOff Tryz.prog 95 0 0 := .of Tryz.underlying95 rfl (by kernel_rfl) rfl
theorem fo_95_1 : FldOff Tryz.prog 95 1 1 := .of Tryz.underlying95 rfl (by kernel_rfl) rfl
theorem fo_95_2 : FldOff Tryz.prog 95 2 2 := .of Tryz.underlying95 rfl (by kernel_rfl) rfl
theorem fo_95_3 : FldOff Tryz.prog 95 3 3 := .of Tryz.underlying95 rfl (by kernel_rfl) rfl
theorem fo_99_0 : FldOff Tryz.prog 99 0 0 := .of Tryz.underlying99 rfl (by kernel_rfl) rfl
theorem fo_99_1 : FldOff Tryz.prog 99 1 1 := .of Tryz.underlying99 rfl (by kernel_rfl) rfl
theorem fo_99_2 : FldOff Tryz.prog 99 2 2 := .of Tryz.underlying99 rfl (by kernel_rfl) rfl
theorem fo_99_3 : FldOff Tryz.prog 99 3 3 := .of Tryz.underlying99 rfl (by kernel_rfl) rfl
theorem fo_104_0 : FldOff Tryz.prog 104 0 0 := .of Tryz.underlying104 rfl (by kernel_rfl) rfl
theorem fo_104_1 : FldOff Tryz.prog 104 1 1 := .of Tryz.underlying104 rfl (by kernel_rfl) rfl
theorem fo_106_0 : FldOff Tryz.prog 106 0 0 := .of Tryz.underlying106 rfl (by kernel_rfl) rfl
theorem fo_106_1 : FldOff Tryz.prog 106 1 1 := .of Tryz.underlying106 rfl (by kernel_rfl) rfl
theorem fo_109_0 : FldOff Tryz.prog 109 0 0 := .of Tryz.underlying109 rfl (by kernel_rfl) rfl
theorem fo_109_1 : FldOff Tryz.prog 109 1 1 := .of Tryz.underlying109 rfl (by kernel_rfl) rfl
theorem fo_116_0 : FldOff Tryz.prog 116 0 0 := .of Tryz.underlying116 rfl (by kernel_rfl) rfl
theorem fo_116_1 : FldOff Tryz.prog 116 1 1 := .of Tryz.underlying116 rfl (by kernel_rfl) rfl
theorem fo_153_2 : FldOff Tryz.prog 153 2 0 := .of Tryz.underlying153 rfl (by kernel_rfl) rfl
theorem fo_155_0 : FldOff Tryz.prog 155 0 0 := .of Tryz.underlying155 rfl (by kernel_rfl) rfl
theorem fo_155_1 : FldOff Tryz.prog 155 1 3 := .of Tryz.underlying155 rfl (by kernel_rfl) rfl
theorem fo_155_2 : FldOff Tryz.prog 155 2 4 := .of Tryz.underlying155 rfl (by kernel_rfl) rfl
theorem fo_155_3 : FldOff Tryz.prog 155 3 5 := .of Tryz.underlying155 rfl (by kernel_rfl) rfl
theorem fo_155_4 : FldOff Tryz.prog 155 4 6 := .of Tryz.underlying155 rfl (by kernel_rfl) rfl
theorem fo_158_0 : FldOff Tryz.prog 158 0 0 := .of Tryz.underlying158 rfl (by kernel_rfl) rfl
theorem fo_158_1 : FldOff Tryz.prog 158 1 3 := .of Tryz.underlying158 rfl (by kernel_rfl) rfl
theorem h3x : FldOff Tryz.prog 163 0 0 := .of Tryz.underlying163 rfl (by kernel_rfl) rfl
theorem h3k : FldOff Tryz.prog 163 1 1 := .of Tryz.underlying163 rfl (by kernel_rfl) rfl
theorem fo_163_2 : FldOff Tryz.prog 163 2 2 := .of Tryz.underlying163 rfl (by kernel_rfl) rfl
theorem h5t : FldOff Tryz.prog 163 3 3 := .of Tryz.underlying163 rfl (by kernel_rfl) rfl
theorem fo_163_4 : FldOff Tryz.prog 163 4 4 := .of Tryz.underlying163 rfl (by kernel_rfl) rfl
theorem h4k : FldOff Tryz.prog 166 0 0 := .of Tryz.underlying166 rfl (by kernel_rfl) rfl
theorem h1m : FldOff Tryz.prog 166 1 1 := .of Tryz.underlying166 rfl (by kernel_rfl) rfl
theorem h4q : FldOff Tryz.prog 166 2 2 := .of Tryz.underlying166 rfl (by kernel_rfl) rfl
theorem fo_166_3 : FldOff Tryz.prog 166 3 3 := .of Tryz.underlying166 rfl (by kernel_rfl) rfl
theorem fo_166_4 : FldOff Tryz.prog 166 4 4 := .of Tryz.underlying166 rfl (by kernel_rfl) rfl
theorem inf_5 : (Tryz.prog.info? 5).map (fun i => (i.zero, i.size, i.bytes)) = some (some (Value.int .u8 0), 1, 1) := by kernel_rfl
theorem inf_5_i : Tryz.prog.info? 5 = some ((Tryz.prog.info? 5).getD default) := (h3q inf_5).1
theorem inf_5_z : ((Tryz.prog.info? 5).getD default).zero = some (Value.int .u8 0) := (h3q inf_5).2.1
theorem inf_5_s : ((Tryz.prog.info? 5).getD default).size = 1 := (h3q inf_5).2.2.1
theorem inf_5_b : ((Tryz.prog.info? 5).getD default).bytes = 1 := (h3q inf_5).2.2.2
theorem inf_9 : (Tryz.prog.info? 9).map (fun i => (i.zero, i.size, i.bytes)) = some (some (Value.string ⟨#[]⟩), 1, 16) := by kernel_rfl
theorem inf_9_i : Tryz.prog.info? 9 = some ((Tryz.prog.info? 9).getD default) := (h3q inf_9).1
theorem inf_9_z : ((Tryz.prog.info? 9).getD default).zero = some (Value.string ⟨#[]⟩) := (h3q inf_9).2.1
theorem inf_9_s : ((Tryz.prog.info? 9).getD default).size = 1 := (h3q inf_9).2.2.1
theorem inf_9_b : ((Tryz.prog.info? 9).getD default).bytes = 16 := (h3q inf_9).2.2.2
theorem inf_73 : (Tryz.prog.info? 73).map (fun i => (i.zero, i.size, i.bytes)) = some (some (Value.agg #[Value.int .u32 0, Value.int .u32 0, Value.slice none 0 0]), 3, 32) := by kernel_rfl
theorem inf_73_i : Tryz.prog.info? 73 = some ((Tryz.prog.info? 73).getD default) := (h3q inf_73).1
theorem inf_73_z : ((Tryz.prog.info? 73).getD default).zero = some (Value.agg #[Value.int .u32 0, Value.int .u32 0, Value.slice none 0 0]) := (h3q inf_73).2.1
theorem inf_73_s : ((Tryz.prog.info? 73).getD default).size = 3 := (h3q inf_73).2.2.1
theorem inf_73_b : ((Tryz.prog.info? 73).getD default).bytes = 32 := (h3q inf_73).2.2.2
theorem inf_99 : (Tryz.prog.info? 99).map (fun i => (i.zero, i.size, i.bytes)) = some (some (Value.agg #[Value.int .i64 0, Value.int .u8 0, Value.int .u64 0, Value.int .u64 0]), 4, 32) := by kernel_rfl
theorem h4b : Tryz.prog.info? 99 = some ((Tryz.prog.info? 99).getD default) := (h3q inf_99).1
theorem h4h : ((Tryz.prog.info? 99).getD default).zero = some (Value.agg #[Value.int .i64 0, Value.int .u8 0, Value.int .u64 0, Value.int .u64 0]) := (h3q inf_99).2.1
theorem h4i : ((Tryz.prog.info? 99).getD default).size = 4 := (h3q inf_99).2.2.1
theorem h4j : ((Tryz.prog.info? 99).getD default).bytes = 32 := (h3q inf_99).2.2.2
theorem inf_104 : (Tryz.prog.info? 104).map (fun i => (i.zero, i.size, i.bytes)) = some (some (Value.agg #[Value.string ⟨#[]⟩, Value.int .u16 0]), 2, 24) := by kernel_rfl
theorem h5r : Tryz.prog.info? 104 = some ((Tryz.prog.info? 104).getD default) := (h3q inf_104).1
theorem h6l : ((Tryz.prog.info? 104).getD default).zero = some (Value.agg #[Value.string ⟨#[]⟩, Value.int .u16 0]) := (h3q inf_104).2.1
theorem h6m : ((Tryz.prog.info? 104).getD default).size = 2 := (h3q inf_104).2.2.1
theorem h6n : ((Tryz.prog.info? 104).getD default).bytes = 24 := (h3q inf_104).2.2.2
theorem inf_106 : (Tryz.prog.info? 106).map (fun i => (i.zero, i.size, i.bytes)) = some (some (Value.agg #[Value.int .u16 0, Value.int .u16 0]), 2, 4) := by kernel_rfl
theorem h5q : Tryz.prog.info? 106 = some ((Tryz.prog.info? 106).getD default) := (h3q inf_106).1
theorem h6i : ((Tryz.prog.info? 106).getD default).zero = some (Value.agg #[Value.int .u16 0, Value.int .u16 0]) := (h3q inf_106).2.1
theorem h6j : ((Tryz.prog.info? 106).getD default).size = 2 := (h3q inf_106).2.2.1
theorem h6k : ((Tryz.prog.info? 106).getD default).bytes = 4 := (h3q inf_106).2.2.2
theorem inf_166 : (Tryz.prog.info? 166).map (fun i => (i.zero, i.size, i.bytes)) = some (some (Value.agg #[Value.int .u8 0, Value.string ⟨#[]⟩, Value.int .u64 0, Value.int .i64 0, Value.int .i64 0]), 5, 48) := by kernel_rfl
theorem inf_166_i : Tryz.prog.info? 166 = some ((Tryz.prog.info? 166).getD default) := (h3q inf_166).1
theorem inf_166_z : ((Tryz.prog.info? 166).getD default).zero = some (Value.agg #[Value.int .u8 0, Value.string ⟨#[]⟩, Value.int .u64 0, Value.int .i64 0, Value.int .i64 0]) := (h3q inf_166).2.1
theorem inf_166_s : ((Tryz.prog.info? 166).getD default).size = 5 := (h3q inf_166).2.2.1
theorem inf_166_b : ((Tryz.prog.info? 166).getD default).bytes = 48 := (h3q inf_166).2.2.2
end Go.Proofs.YtecbgehooembmaaGreatDoor
namespace Go.Proofs
open Go.Shelf
def YtecbgehooembmaaGreatDoor.lays156_ren : Go.Shelf.Ren := ⟨fun | 156 => 63 | 165 => 90 | 166 => 29 | 169 => 35 | 240 => 58 | 241 => 105 | 276 => 85 | 277 => 119 | n => n, fun | 31 => 56 | 9 => 9 | 3 => 3 | 4 => 4 | 0 => 0 | 20 => 20 | 72 => 109 | 76 => 112 | 70 => 107 | 37 => 45 | 75 => 111 | 127 => 178 | 164 => 189 | 5 => 5 | 80 => 120 | n => n, fun | n => n⟩
theorem YtecbgehooembmaaGreatDoor.lays156 : Go.Proofs.Lays.n156 Tryz.prog YtecbgehooembmaaGreatDoor.lays156_ren := {
 mixed := by kernel_rfl
 f156 := Tryz.func63.trans (congrArg some (by kernel_rfl))
 f165 := Tryz.func90.trans (congrArg some (by kernel_rfl))
 f166 := Tryz.func29.trans (congrArg some (by kernel_rfl))
 f169 := Tryz.func35.trans (congrArg some (by kernel_rfl))
 f240 := Tryz.func58.trans (congrArg some (by kernel_rfl))
 f241 := Tryz.func105.trans (congrArg some (by kernel_rfl))
 f276 := Tryz.func85.trans (congrArg some (by kernel_rfl))
 f277 := Tryz.func119.trans (congrArg some (by kernel_rfl))
 t0 := Tryz.underlying0
 a0 := Tryz.isAgg0
 z0 := Tryz.sizeOf0
 v0 := Tryz.zeroValue0
 t3 := Tryz.underlying3
 a3 := Tryz.isAgg3
 z3 := Tryz.sizeOf3
 v3 := Tryz.zeroValue3
 t4 := Tryz.underlying4
 a4 := Tryz.isAgg4
 z4 := Tryz.sizeOf4
 v4 := Tryz.zeroValue4
 t9 := Tryz.underlying9
 a9 := Tryz.isAgg9
 z9 := Tryz.sizeOf9
 v9 := Tryz.zeroValue9
 t20 := Tryz.underlying20
 a20 := Tryz.isAgg20
 z20 := Tryz.sizeOf20
 v20 := Tryz.zeroValue20
 t31 := Tryz.underlying56
 a31 := Tryz.isAgg56
 z31 := Tryz.sizeOf56
 v31 := Tryz.zeroValue56
 t37 := Tryz.underlying45
 a37 := Tryz.isAgg45
 z37 := Tryz.sizeOf45
 v37 := Tryz.zeroValue45
 t70 := Tryz.underlying107
 a70 := Tryz.isAgg107
 z70 := Tryz.sizeOf107
 v70 := Tryz.zeroValue107
 t72 := Tryz.underlying109
 a72 := Tryz.isAgg109
 z72 := Tryz.sizeOf109
 v72 := Tryz.zeroValue109
 t75 := Tryz.underlying111
 a75 := Tryz.isAgg111
 z75 := Tryz.sizeOf111
 v75 := Tryz.zeroValue111
 t76 := Tryz.underlying112
 a76 := Tryz.isAgg112
 z76 := Tryz.sizeOf112
 v76 := Tryz.zeroValue112
 t127 := Tryz.underlying178
 a127 := Tryz.isAgg178
 z127 := Tryz.sizeOf178
 v127 := Tryz.zeroValue178
 t164 := Tryz.underlying189
 a164 := Tryz.isAgg189
 z164 := Tryz.sizeOf189
 v164 := Tryz.zeroValue189 }
theorem YtecbgehooembmaaGreatDoor.Builder_Extra_156 : Builder.Extra Tryz.prog YtecbgehooembmaaGreatDoor.lays156_ren := {
 sizeBuilder := by kernel_rfl
 liesBuilder := by kernel_rfl
 t5 := Tryz.underlying5
 a5 := Tryz.isAgg5
 z5 := Tryz.sizeOf5
 v5 := Tryz.zeroValue5
 infoByte := by kernel_rfl
 cellsByte := by kernel_rfl
 sizeByte := by kernel_rfl
 neB5 := by decide }
open Go.RowKit in
open Go.RowKit in
theorem YtecbgehooembmaaGreatDoor.strings_Join (bk o c : Nat) (xs : List ByteArray) (sep : ByteArray) (w : World) (hcells : ∀ (j : Nat) x, xs[j]? = some x → w.cell? ⟨bk, o + j, none⟩ = some (.string x)) (hbk : bk < w.heap.size) (hN : xs.length ≤ 140737488355328) (hcap : xs.length ≤ c) (hlen : (Lib.join (xs.map (·.data.toList)) sep.data.toList).length ≤ 140737488355328) :
  Calls Tryz.prog 63 #[.slice (some ⟨bk, o, none⟩) xs.length c, .string sep] w fun e w' => e = .returned (.string ⟨(Lib.join (xs.map (·.data.toList)) sep.data.toList).toArray⟩) ∧ Below w.heap.size w w' := Any.strings_Join YtecbgehooembmaaGreatDoor.lays156 YtecbgehooembmaaGreatDoor.Builder_Extra_156 bk o c xs sep w hcells hbk hN hcap hlen
def YtecbgehooembmaaGreatDoor.lays137_ren : Go.Shelf.Ren := ⟨fun | 137 => 77 | 217 => 96 | 266 => 112 | n => n, fun | 9 => 9 | 5 => 5 | 3 => 3 | n => n, fun | n => n⟩
theorem YtecbgehooembmaaGreatDoor.lays137 : Go.Proofs.Lays.n137 Tryz.prog YtecbgehooembmaaGreatDoor.lays137_ren := {
 mixed := by kernel_rfl
 f137 := Tryz.func77.trans (congrArg some (by kernel_rfl))
 f217 := Tryz.func96.trans (congrArg some (by kernel_rfl))
 f266 := Tryz.func112.trans (congrArg some (by kernel_rfl))
 t3 := Tryz.underlying3
 a3 := Tryz.isAgg3
 z3 := Tryz.sizeOf3
 v3 := Tryz.zeroValue3
 t5 := Tryz.underlying5
 a5 := Tryz.isAgg5
 z5 := Tryz.sizeOf5
 v5 := Tryz.zeroValue5
 t9 := Tryz.underlying9
 a9 := Tryz.isAgg9
 z9 := Tryz.sizeOf9
 v9 := Tryz.zeroValue9 }
open Go.RowKit in
theorem YtecbgehooembmaaGreatDoor.strings_IndexByte (s : ByteArray) (c : Int) (w : World) :
  Calls Tryz.prog 77 #[.string s, .int .u8 c] w fun e w' => e = .returned (.int .i64 (Lib.indexByte s.data.toList c.toNat.toUInt8)) ∧ w' = w := Any.strings_IndexByte YtecbgehooembmaaGreatDoor.lays137 s c w
def YtecbgehooembmaaGreatDoor.lays219_ren : Go.Shelf.Ren := ⟨fun | 219 => 95 | 217 => 96 | 225 => 109 | 224 => 110 | 267 => 111 | 266 => 112 | 314 => 121 | n => n, fun | 9 => 9 | 3 => 3 | 4 => 4 | 5 => 5 | 46 => 213 | 146 => 223 | 51 => 28 | n => n, fun | 1 => 0 | n => n⟩
theorem YtecbgehooembmaaGreatDoor.lays219 : Go.Proofs.Lays.n219 Tryz.prog YtecbgehooembmaaGreatDoor.lays219_ren := {
 mixed := by kernel_rfl
 f217 := Tryz.func96.trans (congrArg some (by kernel_rfl))
 f219 := Tryz.func95.trans (congrArg some (by kernel_rfl))
 f224 := Tryz.func110.trans (congrArg some (by kernel_rfl))
 f225 := Tryz.func109.trans (congrArg some (by kernel_rfl))
 f266 := Tryz.func112.trans (congrArg some (by kernel_rfl))
 f267 := Tryz.func111.trans (congrArg some (by kernel_rfl))
 f314 := Tryz.func121.trans (congrArg some (by kernel_rfl))
 t3 := Tryz.underlying3
 a3 := Tryz.isAgg3
 z3 := Tryz.sizeOf3
 v3 := Tryz.zeroValue3
 t4 := Tryz.underlying4
 a4 := Tryz.isAgg4
 z4 := Tryz.sizeOf4
 v4 := Tryz.zeroValue4
 t5 := Tryz.underlying5
 a5 := Tryz.isAgg5
 z5 := Tryz.sizeOf5
 v5 := Tryz.zeroValue5
 t9 := Tryz.underlying9
 a9 := Tryz.isAgg9
 z9 := Tryz.sizeOf9
 v9 := Tryz.zeroValue9
 t46 := Tryz.underlying213
 a46 := Tryz.isAgg213
 z46 := Tryz.sizeOf213
 v46 := Tryz.zeroValue213
 t51 := Tryz.underlying28
 a51 := Tryz.isAgg28
 z51 := Tryz.sizeOf28
 v51 := Tryz.zeroValue28
 t146 := Tryz.underlying223
 a146 := Tryz.isAgg223
 z146 := Tryz.sizeOf223
 v146 := Tryz.zeroValue223
 g1 := by kernel_rfl }
open Go.RowKit Go.Lib in
theorem YtecbgehooembmaaGreatDoor.stringslite_Index_one (s : ByteArray) (c : UInt8) (w : World) :
  Calls Tryz.prog 95 #[.string s, .string ⟨#[c]⟩] w fun e w' => e = .returned (.int .i64 (Lib.indexByte s.data.toList c)) ∧ w' = w := Any.stringslite_Index_one YtecbgehooembmaaGreatDoor.lays219 s c w
def YtecbgehooembmaaGreatDoor.lays143_ren : Go.Shelf.Ren := ⟨fun | 143 => 94 | 219 => 95 | 217 => 96 | 225 => 109 | 224 => 110 | 267 => 111 | 266 => 112 | 314 => 121 | n => n, fun | 9 => 9 | 3 => 3 | 4 => 4 | 5 => 5 | 46 => 213 | 146 => 223 | 51 => 28 | n => n, fun | 1 => 0 | n => n⟩
theorem YtecbgehooembmaaGreatDoor.lays143 : Go.Proofs.Lays.n143 Tryz.prog YtecbgehooembmaaGreatDoor.lays143_ren := {
 mixed := by kernel_rfl
 f143 := Tryz.func94.trans (congrArg some (by kernel_rfl))
 f217 := Tryz.func96.trans (congrArg some (by kernel_rfl))
 f219 := Tryz.func95.trans (congrArg some (by kernel_rfl))
 f224 := Tryz.func110.trans (congrArg some (by kernel_rfl))
 f225 := Tryz.func109.trans (congrArg some (by kernel_rfl))
 f266 := Tryz.func112.trans (congrArg some (by kernel_rfl))
 f267 := Tryz.func111.trans (congrArg some (by kernel_rfl))
 f314 := Tryz.func121.trans (congrArg some (by kernel_rfl))
 t3 := Tryz.underlying3
 a3 := Tryz.isAgg3
 z3 := Tryz.sizeOf3
 v3 := Tryz.zeroValue3
 t4 := Tryz.underlying4
 a4 := Tryz.isAgg4
 z4 := Tryz.sizeOf4
 v4 := Tryz.zeroValue4
 t5 := Tryz.underlying5
 a5 := Tryz.isAgg5
 z5 := Tryz.sizeOf5
 v5 := Tryz.zeroValue5
 t9 := Tryz.underlying9
 a9 := Tryz.isAgg9
 z9 := Tryz.sizeOf9
 v9 := Tryz.zeroValue9
 t46 := Tryz.underlying213
 a46 := Tryz.isAgg213
 z46 := Tryz.sizeOf213
 v46 := Tryz.zeroValue213
 t51 := Tryz.underlying28
 a51 := Tryz.isAgg28
 z51 := Tryz.sizeOf28
 v51 := Tryz.zeroValue28
 t146 := Tryz.underlying223
 a146 := Tryz.isAgg223
 z146 := Tryz.sizeOf223
 v146 := Tryz.zeroValue223
 g1 := by kernel_rfl }
open Go.RowKit Go.Lib in
theorem YtecbgehooembmaaGreatDoor.strings_Index_one (s : ByteArray) (c : UInt8) (w : World) :
  Calls Tryz.prog 94 #[.string s, .string ⟨#[c]⟩] w fun e w' => e = .returned (.int .i64 (Lib.indexByte s.data.toList c)) ∧ w' = w := Any.strings_Index_one YtecbgehooembmaaGreatDoor.lays143 s c w
def YtecbgehooembmaaGreatDoor.lays138_ren : Go.Shelf.Ren := ⟨fun | 138 => 93 | 195 => 106 | 218 => 108 | 143 => 94 | 219 => 95 | 217 => 96 | 225 => 109 | 224 => 110 | 267 => 111 | 266 => 112 | 314 => 121 | n => n, fun | 9 => 9 | 3 => 3 | 4 => 4 | 5 => 5 | 0 => 0 | 46 => 213 | 146 => 223 | 51 => 28 | n => n, fun | 1 => 0 | n => n⟩
theorem YtecbgehooembmaaGreatDoor.lays138 : Go.Proofs.Lays.n138 Tryz.prog YtecbgehooembmaaGreatDoor.lays138_ren := {
 mixed := by kernel_rfl
 f138 := Tryz.func93.trans (congrArg some (by kernel_rfl))
 f143 := Tryz.func94.trans (congrArg some (by kernel_rfl))
 f195 := Tryz.func106.trans (congrArg some (by kernel_rfl))
 f217 := Tryz.func96.trans (congrArg some (by kernel_rfl))
 f218 := Tryz.func108.trans (congrArg some (by kernel_rfl))
 f219 := Tryz.func95.trans (congrArg some (by kernel_rfl))
 f224 := Tryz.func110.trans (congrArg some (by kernel_rfl))
 f225 := Tryz.func109.trans (congrArg some (by kernel_rfl))
 f266 := Tryz.func112.trans (congrArg some (by kernel_rfl))
 f267 := Tryz.func111.trans (congrArg some (by kernel_rfl))
 f314 := Tryz.func121.trans (congrArg some (by kernel_rfl))
 t0 := Tryz.underlying0
 a0 := Tryz.isAgg0
 z0 := Tryz.sizeOf0
 v0 := Tryz.zeroValue0
 t3 := Tryz.underlying3
 a3 := Tryz.isAgg3
 z3 := Tryz.sizeOf3
 v3 := Tryz.zeroValue3
 t4 := Tryz.underlying4
 a4 := Tryz.isAgg4
 z4 := Tryz.sizeOf4
 v4 := Tryz.zeroValue4
 t5 := Tryz.underlying5
 a5 := Tryz.isAgg5
 z5 := Tryz.sizeOf5
 v5 := Tryz.zeroValue5
 t9 := Tryz.underlying9
 a9 := Tryz.isAgg9
 z9 := Tryz.sizeOf9
 v9 := Tryz.zeroValue9
 t46 := Tryz.underlying213
 a46 := Tryz.isAgg213
 z46 := Tryz.sizeOf213
 v46 := Tryz.zeroValue213
 t51 := Tryz.underlying28
 a51 := Tryz.isAgg28
 z51 := Tryz.sizeOf28
 v51 := Tryz.zeroValue28
 t146 := Tryz.underlying223
 a146 := Tryz.isAgg223
 z146 := Tryz.sizeOf223
 v146 := Tryz.zeroValue223
 g1 := by kernel_rfl }
open Go.RowKit Go.Lib in
theorem YtecbgehooembmaaGreatDoor.strings_Count_one (s : ByteArray) (c : UInt8) (w : World) :
  Calls Tryz.prog 93 #[.string s, .string ⟨#[c]⟩] w fun e w' => e = .returned (.int .i64 (Lib.countByte s.data.toList c)) ∧ w' = w := Any.strings_Count_one YtecbgehooembmaaGreatDoor.lays138 s c w
end Go.Proofs
namespace Go.Proofs.YtecbgehooembmaaGreatDoor
open Go Go.RowKit
def h1p (c : UInt8) : List UInt8 → List (List UInt8)
 | [] => [[]]
 | b :: r => if b = c then [] :: h1p c r else (b :: (h1p c r).headD []) :: (h1p c r).tail
theorem splitC_ne (c : UInt8) (l : List UInt8) : h1p c l ≠ [] := by
 cases l with
 | nil => simp [h1p]
 | cons b r => rw [h1p]; split <;> simp
theorem splitC_len (c : UInt8) (l : List UInt8) : (h1p c l).length = l.count c + 1 := by
 induction l with
 | nil => rfl
 | cons b r ih =>
  rw [h1p, List.count_cons]
  by_cases h : b = c
  ·rw [if_pos h, List.length_cons, ih]; simp [h]
  ·rw [if_neg h, List.length_cons, List.length_tail, ih]; simp [h]
theorem ix_none {c : UInt8} {l : List UInt8} (h : l.count c = 0) : h1p c l = [l] := by
 induction l with
 | nil => rfl
 | cons b r ih =>
  rw [List.count_cons] at h
  have hb : b ≠ c := by intro e; simp [e] at h
  rw [h1p, if_neg hb, ih (by omega)]; rfl
theorem ix_some {c : UInt8} {l : List UInt8} (h : 0 < l.count c) : ∃ m : Nat, Lib.indexByte l c = (m : Int) ∧ m < l.length ∧ h1p c l = l.take m :: h1p c (l.drop (m + 1)) ∧ l.count c = (l.drop (m + 1)).count c + 1 := by
 induction l with
 | nil => simp at h
 | cons b r ih =>
  rw [List.count_cons] at h
  by_cases hb : b = c
  ·exact ⟨0, by simp [Lib.indexByte, hb], by simp, by rw [h1p, if_pos hb]; rfl, by rw [List.count_cons]; simp [hb]⟩
  ·obtain ⟨m, h1, h2, h3, h4⟩ := ih (by simpa [hb] using h)
   refine ⟨m + 1, ?_, by simp; omega, ?_, ?_⟩
   ·have e1 : (b == c) = false := by simpa using hb
    have e2 : ((m : Int) == -1) = false := by rw [beq_eq_false_iff_ne]; omega
    rw [Lib.indexByte, e1, h1, e2]; rfl
   ·rw [h1p, if_neg hb, h3]; rfl
   ·rw [List.count_cons, h4]; simp [hb]
def lB (s : ByteArray) : List UInt8 := s.data.toList
def mB8 (l : List UInt8) : ByteArray := ⟨l.toArray⟩
theorem h4g (l : List UInt8) : lB (mB8 l) = l := rfl
theorem mB8_lB (s : ByteArray) : mB8 (lB s) = s := by cases s; rfl
theorem h3d (s : ByteArray) : (lB s).length = s.size := by cases s; rfl
theorem ext_take (s : ByteArray) (m : Nat) : s.extract 0 m = mB8 ((lB s).take m) := by
 rw [← mB8_lB (s.extract 0 m)]
 congr 1
 show (s.extract 0 m).data.toList = _
 rw [ByteArray.data_extract, Array.toList_extract]
 simp [lB, List.extract]
theorem ext_drop (s : ByteArray) (m : Nat) : s.extract m s.size = mB8 ((lB s).drop m) := by
 rw [← mB8_lB (s.extract m s.size)]
 congr 1
 have : s.size = s.data.toList.length := by cases s; rfl
 show (s.extract m s.size).data.toList = _
 rw [ByteArray.data_extract, Array.toList_extract, this]
 simp only [lB, List.extract]
 rw [List.take_of_length_le (by rw [List.length_drop]; omega)]
def strs (l : List (List UInt8)) : List Value := l.map fun x => .string (mB8 x)
theorem strs_len (l : List (List UInt8)) : (strs l).length = l.length := List.length_map ..
theorem HP.ofBelow {S : List Nat} {w0 w w' : World} {L : List Blk} (H : HP S w0 w L) (hb : Below w.heap.size w w') : HP S w0 w' L := by
 refine ⟨hb.os.trans H.os, hb.tape.trans H.tape, hb.output.trans H.output, Nat.le_trans H.size hb.size, fun k hk hn => ?_, fun p hp => ?_, H.own, H.sep⟩
 ·rw [hb.block k (Nat.lt_of_lt_of_le hk H.size)]; exact H.keep k hk hn
 ·have h := H.get p hp
  have hlt : p.b < w.heap.size := by
   rcases Nat.lt_or_ge p.b w.heap.size with h1 | h1
   ·exact h1
   ·rw [Array.getElem?_eq_none h1] at h; cases h
  rw [hb.block _ hlt]; exact h
theorem index1_c {S w0 L} (s : ByteArray) (c : UInt8) : Fn Tryz.prog 94 #[.string s, .string ⟨#[c]⟩] S w0 L fun v L' => v = .int .i64 (Lib.indexByte (lB s) c) ∧ L = L' :=
 .mk fun w H => (strings_Index_one s c w).mono fun e w' ⟨he, hw⟩ => ⟨_, _, he, ⟨rfl, rfl⟩, hw ▸ H⟩
theorem count1_c {S w0 L} (s : ByteArray) (c : UInt8) : Fn Tryz.prog 93 #[.string s, .string ⟨#[c]⟩] S w0 L fun v L' => v = .int .i64 ((lB s).count c : Nat) ∧ L = L' :=
 .mk fun w H => (strings_Count_one s c w).mono fun e w' ⟨he, hw⟩ => ⟨_, _, he, ⟨rfl, rfl⟩, hw ▸ H⟩
structure SpI (s : ByteArray) (c : UInt8) (g : Nat × ByteArray × List (List UInt8)) : Prop where
 len : g.2.2.length = g.1
 all : g.2.2 ++ h1p c (lB g.2.1) = h1p c (lB s)
 cnt : g.1 + (lB g.2.1).count c = (lB s).count c
 le : g.2.1.size ≤ s.size
theorem strs_fill (pre : List (List UInt8)) (x : List UInt8) (n : Nat) (hn : pre.length < n) : (strs pre ++ List.replicate (n - pre.length) (Value.string ⟨#[]⟩)).set pre.length (.string (mB8 x)) = strs (pre ++ [x]) ++ List.replicate (n - (pre.length + 1)) (Value.string ⟨#[]⟩) := by
 have e : n - pre.length = (n - (pre.length + 1)) + 1 := by omega
 have hl := strs_len pre
 rw [e, List.replicate_succ, List.set_append_right _ _ (by omega), hl, Nat.sub_self, List.set_cons_zero]
 simp [strs]
set_option maxHeartbeats 2000000 in
theorem split1_c {S w0 L} (s : ByteArray) (hs : s.size ≤ 1000000) (c : UInt8) : Fn Tryz.prog 47 #[.string s, .string ⟨#[c]⟩] S w0 L fun v L' => ∃ nb, v = .slice (some ⟨nb, 0, none⟩) (h1p c (lB s)).length (h1p c (lB s)).length ∧ ⟨true, nb, .cells (strs (h1p c (lB s))).toArray 9 (0, 0)⟩ :: L = L' := by
 have hgs : Fn Tryz.prog 68 #[.string s, .string ⟨#[c]⟩, .int .i64 0, .int .i64 (-1)] S w0 L fun v L' => ∃ nb, v = .slice (some ⟨nb, 0, none⟩) (h1p c (lB s)).length (h1p c (lB s)).length ∧ ⟨true, nb, .cells (strs (h1p c (lB s))).toArray 9 (0, 0)⟩ :: L = L' := by
  have hcs : (lB s).count c ≤ s.size := by rw [← h3d]; exact List.count_le_length
  have hsl := splitC_len c (lB s)
  have hne : ¬ ((⟨#[c]⟩ : ByteArray) = ⟨#[]⟩) := by intro h; simp at h
  have hsz : (⟨#[c]⟩ : ByteArray).size = 1 := rfl
  refine Fn4 Tryz.func68 Tryz.ntmps68 rfl rfl ?_
  repeat' (first | (refine h2h (id:=8) ?_) | refine h0p ?_ | refine h0e ?_ | refine h0u ?_ | refine h0j rfl ?_ | refine h0h rfl ?_ | (refine gR 0 (p_a (h:=h0d ?_))) | (refine gR 1 (p_m (h:=p_e (q_b (r:=by exact h1o q_o)) (h:=h0d ?_)))) | (refine gR 3 (p_m (h:=p_e (q_b (r:=by exact rb_streq)) (h:=h0d ?_)))) | (refine gR 5 (p_m (h:=p_e (q_b (r:=by exact h1d q_o)) (h:=h0d ?_)))) | (refine gR 6 (p_m (h:=q_m ?_)) <;> (try refine h0f ?_; (refine h1k (F:=93) (by kernel_rfl) rfl rfl (count1_c _ _) ?_; rintro _ _ ⟨rfl, rfl⟩)) <;> (try refine q_e (q_b (r:=by apply h1r; exact c_5; (focus (refine IntWalk.i64_in _ ?_; omega)))) ?_) <;> (try refine p_a (h:=h0d ?_))) | (refine gR 7 (p_m (h:=p_m (h:=q_e (h0g rfl (fun _ => BigFrame.builtin_len ..) (h0q Tryz.underlying9)) ?_))) <;> (try refine q_e (q_b (r:=by apply h1r; exact c_5; (focus (refine IntWalk.i64_in _ ?_; omega)))) ?_) <;> (try refine p_e (h0g rfl (fun _ => BigFrame.builtin_min ..) r_min) (h:=p_a (h:=h0d ?_)))))
  refine ⟨?_⟩
  have hmn : min (((lB s).count c : Nat) + 1 : Int) ((s.size : Int) + 1) = (((lB s).count c + 1 : Nat) : Int) := by omega
  simp only [hmn]
  repeat' (first | (refine h2r (id:=0) ?_) | refine h0p ?_ | refine h0e ?_ | (refine gR 8 (q_m ?_) <;> (try refine h0f ?_; (refine K1_makeSlice (t:=56) rfl rfl rfl Tryz.underlying56 inf_9_i inf_9_z inf_9_s inf_9_b rfl ?_ ?_ ?_; omega; omega; intro nb hnb)) <;> (try refine p_a (h:=h0d ?_))) | (refine gR 9 (q_m ?_) <;> (try refine q_e (q_b (r:=by apply rb_sub; exact c_5; (focus (refine IntWalk.i64_in _ ?_; omega)))) ?_) <;> (try refine p_a (h:=h0d ?_))) | (refine gR 10 (p_a (h:=h0d ?_))))
  refine ⟨?_⟩
  have hm1 : (((lB s).count c + 1 : Nat) : Int) - 1 = ((lB s).count c : Nat) := by omega
  simp only [hm1]
  refine h0r ?_
  refine h2s (γ:=Nat × ByteArray × List (List UInt8)) (SpI s c) (fun g => (lB s).count c - g.1) (fun g => [(0, .string g.2.1), (10, .int .i64 (g.1 : Nat))]) [(1, _), (2, _), (3, _), (9, _)]
   (fun g => ⟨true, nb, .cells (strs g.2.2 ++ List.replicate ((lB s).count c + 1 - g.1) (Value.string ⟨#[]⟩)).toArray 9 (0, 0)⟩ :: L)
   (0, s, []) (.cons rfl (.cons rfl (.cons rfl (.cons rfl .nil)))) ⟨rfl, rfl, by simp, Nat.le_refl _⟩ (by (focus (repeat (first | exact Sub.nil | refine Sub.cons rfl ?_)))) (fun _ H => H) ?_
  rintro ⟨i, r, pre⟩ ⟨hl, ha, hc, hr⟩
  dsimp only at hl ha hc hr ⊢
  by_cases hlt : i < (lB s).count c
  ·obtain ⟨m, hx1, hx2, hx3, hx4⟩ := ix_some (c:=c) (l:=lB r) (by omega)
   have hixc := fun (L : List Blk) => index1_c (S:=S) (w0:=w0) (L:=L) r c
   rw [hx1] at hixc
   have hrl := h3d r
   have hcl : (strs pre ++ List.replicate ((lB s).count c + 1 - i) (Value.string ⟨#[]⟩)).length = (lB s).count c + 1 := by rw [List.length_append, strs_len, List.length_replicate, hl]; omega
   have hcl2 : i < (strs pre ++ List.replicate ((lB s).count c + 1 - i) (Value.string ⟨#[]⟩)).toArray.size := by rw [List.size_toArray, hcl]; omega
   repeat' (first | refine h0p ?_ | refine h0e ?_ | refine h0t ?_ | refine h0x ?_ | refine h0r ?_ | refine h0u ?_ | refine h0j rfl ?_ | refine h0h rfl ?_ | (refine gR 11 (p_m (h:=p_m (h:=p_e (q_b (r:=by exact h1d q_o)) (h:=h0d ?_))))) | (refine gR 12 (p_m (h:=q_m ?_)) <;> (try refine h0f ?_; (refine h1k (F:=94) (by kernel_rfl) rfl rfl (hixc _) ?_; rintro _ _ ⟨rfl, rfl⟩)) <;> (try refine p_a (h:=h0d ?_))) | (refine gR 13 (p_m (h:=p_e (q_b (r:=by exact h1j q_o)) (h:=h0d ?_)))) | (refine gR 14 (p_m (h:=p_m (h:=p_m (h:=p_m (h:=q_m ?_))))) <;> (try refine q_e (q_b (r:=by apply h1r; exact c_5; (focus (refine IntWalk.i64_in _ ?_; omega)))) ?_) <;> (try refine p_e (by apply h4w; exact rfl; exact rfl; exact rfl; exact rfl; (focus (apply h5a Tryz.underlying9; (focus (apply bd_01; omega; omega; exact c_0)); exact rfl))) (h:=q_e (by apply h0n; exact rfl; exact rfl; (focus (apply h3e Tryz.underlying56 sz_9; omega; omega; exact c_1))) ?_)) <;> (try refine h0f ?_; (apply h6p (t:=9); exact rfl; exact rfl; exact fd0; exact rfl; exact rfl; kernel_rfl; (focus (omega)); exact c_28; (try simp only [List.set_cons_succ]); (try simp only [List.set_cons_zero]))) <;> (try refine h0d ?_)) | (refine gR 15 (p_m (h:=p_m (h:=p_m (h:=q_e (h0g rfl (fun _ => BigFrame.builtin_len ..) (h0q Tryz.underlying9)) ?_)))) <;> (try refine q_e (q_b (r:=by apply h1r; exact c_5; (focus (refine IntWalk.i64_in _ ?_; omega)))) ?_) <;> (try refine p_e (by apply h4w; exact rfl; exact rfl; exact rfl; exact rfl; (focus (apply h5a Tryz.underlying9; (focus (apply bd_10; omega; omega; exact c_0)); exact rfl))) (h:=p_a (h:=h0d ?_)))) | (refine gR 16 (q_m ?_) <;> (try refine q_e (q_b (r:=by apply h1r; exact c_5; (focus (refine IntWalk.i64_in _ ?_; omega)))) ?_) <;> (try refine p_a (h:=h0d ?_))))
   have e1 : r.extract ((m : Int) + ((⟨#[c]⟩ : ByteArray).size : Nat)).toNat r.size = mB8 ((lB r).drop (m + 1)) := by
    rw [hsz, show ((m : Int) + ((1 : Nat) : Int)).toNat = m + 1 by omega]; exact ext_drop _ _
   have e2 : r.extract 0 ((m : Int) + 0).toNat = mB8 ((lB r).take m) := by rw [Int.add_zero, Int.toNat_natCast]; exact ext_take _ _
   simp only [e1, e2]
   refine h0w (i + 1, mB8 ((lB r).drop (m + 1)), pre ++ [(lB r).take m]) ⟨⟨by simp [hl], ?_, ?_, ?_⟩, by dsimp only; omega⟩ (by (focus (repeat (first | exact Sub.nil | refine Sub.cons rfl ?_)))) ?_
   ·show (pre ++ [(lB r).take m]) ++ h1p c ((lB r).drop (m + 1)) = _
    rw [List.append_assoc, List.singleton_append, ← hx3]; exact ha
   ·show i + 1 + ((lB r).drop (m + 1)).count c = _
    omega
   ·show (mB8 ((lB r).drop (m + 1))).size ≤ s.size
    rw [← h3d, h4g, List.length_drop]; omega
   ·have hf := strs_fill pre ((lB r).take m) ((lB s).count c + 1) (by omega)
    rw [hl] at hf
    intro w H
    rw [← hf]; exact H
  ·obtain rfl : i = (lB s).count c := by omega
   have h0 : (lB r).count c = 0 := by omega
   rw [ix_none h0] at ha
   have hcl : (strs pre ++ List.replicate ((lB s).count c + 1 - (lB s).count c) (Value.string ⟨#[]⟩)).length = (lB s).count c + 1 := by rw [List.length_append, strs_len, List.length_replicate, hl]; omega
   have hcl2 : (lB s).count c < (strs pre ++ List.replicate ((lB s).count c + 1 - (lB s).count c) (Value.string ⟨#[]⟩)).toArray.size := by rw [List.size_toArray, hcl]; omega
   repeat' (first | refine h0p ?_ | refine h0e ?_ | refine h1u ?_ | refine h1n ?_ | refine h1v ?_ | refine h2o ?_ | refine h1h ?_ | refine h0h rfl ?_ | (refine gR 11 (p_m (h:=p_m (h:=p_e (q_b (r:=by exact h1j q_o)) (h:=h0d ?_))))) | (refine gR 17 (p_m (h:=p_m (h:=p_m (h:=q_e (by apply h0n; exact rfl; exact rfl; (focus (apply h3e Tryz.underlying56 sz_9; omega; omega; exact c_1))) ?_)))) <;> (try refine h0f ?_; (apply h6p (t:=9); exact rfl; exact rfl; exact fd0; exact rfl; exact rfl; kernel_rfl; (focus (omega)); exact c_28; (try simp only [List.set_cons_succ]); (try simp only [List.set_cons_zero]))) <;> (try refine h0d ?_)) | (refine gR 18 (p_m (h:=q_m ?_)) <;> (try refine q_e (q_b (r:=by apply h1r; exact c_5; (focus (refine IntWalk.i64_in _ ?_; omega)))) ?_) <;> (try refine p_e (by apply h4w; exact rfl; exact rfl; exact rfl; exact rfl; (focus (apply r_sl_s01 Tryz.underlying56 sz_9 <;> (first | omega | exact c_0)))) (h:=p_a (h:=h0d ?_)))))
   (refine h0v Tryz.results68 (.tmp rfl .nil) ?_)
   refine ⟨_, ⟨nb, by rw [hsl]; rfl, rfl⟩, ?_⟩
   have hf := strs_fill pre (lB r) ((lB s).count c + 1) (by omega)
   rw [hl, ha, Nat.sub_self, List.replicate_zero, List.append_nil, mB8_lB] at hf
   intro w H
   rw [← hf]; exact H
 refine Fn2 Tryz.func47 Tryz.ntmps47 rfl rfl ?_
 repeat' (first | refine h0p ?_ | refine h0e ?_ | refine h1h ?_ | (refine gR 0 (p_a (h:=h0d ?_))) | (refine gR 1 (p_m (h:=q_m ?_)) <;> (try refine h0f ?_; (refine h1k (F:=68) (by kernel_rfl) rfl rfl hgs ?_; rintro _ _ ⟨nb, rfl, rfl⟩)) <;> (try refine p_a (h:=h0d ?_))))
 (refine h0v Tryz.results47 (.tmp rfl .nil) ?_)
 exact ⟨_, ⟨_, rfl, rfl⟩, by intro w H; refine H.sub ?_; (try simp only [zzC, zzN]); repeat (exact List.Sublist.refl _)⟩
section
variable {P : Program} {n : Nat} {l : List (Nat × Value)} {S : List Nat} {w0 : World} {L : List Blk} {d : Tmp} {ty : TypeId} {pos : String} {af : Array Edge}
theorem E_byteStrI {src dst e : TypeId} {x : Operand} {b cap i : Nat} {q : Bool} {T : TypeId} {fr : Nat × Nat} {v : Int} (hx : ev l x = some (.slice (some ⟨b, 0, none⟩) 1 cap)) (hs : P.underlying src = some (.slice e)) (he : P.underlying e = some (.int .u8)) (hd : P.underlying dst = some .string)
  (hi : L[i]? = some ⟨q, b, .cells #[.int .u8 v] T fr⟩) : ValOf P n l S w0 L ⟨some d, .convert src dst x, ty, pos, af, none⟩ (.string (strOfNums [v])) :=
 E_bytesStr (xs:=[v]) hx hs he hd (Sli.of (i:=i) hi (by simp) rfl) rfl
end
theorem h0y {P : Program} {t : TypeId} {x y : ByteArray} (h : decide (x = y) = false) : RBin P .eql t (.string x) (.string y) (.bool false) := by
 have := rb_streq (P:=P) (t:=t) (x:=x) (y:=y)
 rwa [h] at this
theorem rb_strne_h {P : Program} {t : TypeId} {x y : ByteArray} (h : ¬ x = y) : RBin P .neq t (.string x) (.string y) (.bool true) := by
 have := rb_strne (P:=P) (t:=t) (x:=x) (y:=y)
 rwa [decide_eq_true h] at this
section
variable {P : Program} {n : Nat} {l : List (Nat × Value)} {S : List Nat} {w0 : World} {L : List Blk} {K : Act → World → Prop} {k : Kont} {ops : Array Oper} {d : Tmp} {ty : TypeId} {pos : String} {af : Array Edge}
theorem K1_append0 {E : Nat} {t tt : TypeId} {inf : TypeInfo} {s y : Operand} {sa ya : Option Addr} {m cp cy : Nat}
  (hd : Nat.blt d n = true) (ht : P.underlying t = some (.slice E)) (hi : P.info? E = some inf) (hs : ev l s = some (.slice sa m cp)) (hy : ev l y = some (.slice ya 0 cy)) (hle : m ≤ cp) (htt : tt = t)
  (h : G n ((d, .slice sa m cp) :: l) S w0 L K) :
  G n l S w0 L (K1 P ops k ⟨some d, .call { callee := .builtin .append, args := #[s, y], argTypes := #[t, tt] }, ty, pos, af, none⟩ K) := .mk fun a w hf H => h4n rfl <| by
  subst htt
  have hr : (Builtin.append_ #[tt, tt] ty #[.slice sa m cp, .slice ya 0 cy]).run P w = .ok (.slice sa m cp) w := by
   cases sa <;> cases ya <;> simp [Builtin.append_, run_underlying ht, sizeOf, typeInfo, hi, Builtin.lenOf, Builtin.firstCells, loadCells, loadCellsFrom, storeCells, hle]
  unfold Oper.wp execOp
  simp only [resolve, invoke, builtin, Sem.run_bind, Sem.run_pure, Result.andThen_ok, List.map_toArray, List.map_cons, List.map_nil, hf.eval hs, hf.eval hy, hr]
  exact (h.out _ _ (hf.put (some d) _ hd) H)
end
theorem h4s (a b : List UInt8) : mB8 a ++ mB8 b = mB8 (a ++ b) := by
 rw [← mB8_lB (mB8 a ++ mB8 b)]; congr 1
theorem h1t (a : List UInt8) : (mB8 a).size = a.length := by rw [← h3d, h4g]
theorem lB_get (s : ByteArray) (i : Nat) : (lB s)[i]? = s[i]? := by
 cases s with
 | mk d =>
  show d.toList[i]? = _
  rw [Array.getElem?_toList]
  rfl
theorem lB_inj {a b : ByteArray} (h : lB a = lB b) : a = b := by rw [← mB8_lB a, h, mB8_lB]
theorem u8_neq {x y : UInt8} (h : ¬ x = y) : ¬ ((x.toNat : Int) = (y.toNat : Int)) := by
 intro e
 exact h (UInt8.toNat.inj (by omega))
def decF (n : Nat) : List UInt8 := if n < 10 then [UInt8.ofNat (48 + n)] else decF (n / 10) ++ [UInt8.ofNat (48 + n % 10)]
termination_by n
decreasing_by omega
theorem decF_lt {n : Nat} (h : n < 10) : decF n = [UInt8.ofNat (48 + n)] := by rw [decF, if_pos h]
theorem decF_ge {n : Nat} (h : ¬ n < 10) : decF n = decF (n / 10) ++ decF (n % 10) := by rw [decF, if_neg h, decF_lt (n:=n % 10) (by omega)]
theorem decF_len (k n : Nat) (hk : 0 < k) (h : n < 10 ^ k) : (decF n).length ≤ k := by
 induction k generalizing n with
 | zero => omega
 | succ k ih =>
  by_cases hn : n < 10
  ·rw [decF_lt hn]; simp
  ·rw [decF_ge hn, List.length_append, decF_lt (n:=n % 10) (by omega), List.length_singleton]
   have hk0 : 0 < k := by
    rcases Nat.eq_zero_or_pos k with rfl | h0
    ·omega
    ·exact h0
   have := ih (n / 10) hk0 (by rw [Nat.pow_succ] at h; omega)
   omega
theorem son1 (n : Nat) (h : n < 10) : strOfNums [48 + (n : Int)] = mB8 (decF n) := by
 rw [decF_lt h]
 have : ∀ k : Fin 10, strOfNums [48 + ((k.val : Nat) : Int)] = mB8 [UInt8.ofNat (48 + k.val)] := by decide +kernel
 exact this ⟨n, h⟩
theorem printed_c (n : Nat) : n < 18446744073709551616 → ∀ S w0 L, Fn Tryz.prog 32 #[.int .u64 (n : Int)] S w0 L fun v L' => v = .string (mB8 (decF n)) ∧ L = L' := by
 induction n using Nat.strongRecOn with
 | _ n ih =>
  intro hn S w0 L
  by_cases h : n < 10
  ·rw [← son1 n h]
   refine Fn1 Tryz.func32 Tryz.ntmps32 rfl rfl ?_
   repeat' (first | refine h0p ?_ | refine h0e ?_ | refine h0u ?_ | refine h1h ?_ | refine h0h rfl ?_ | (refine gR 0 (p_a (h:=h0d ?_))) | (refine gR 1 (p_m (h:=p_e (q_b (r:=by exact h2f q_o)) (h:=h0d ?_)))) | (refine gR 3 (q_m ?_) <;> (try refine q_e (q_b (r:=by apply h1r; exact c_5; (focus (refine IntWalk.u64_in _ ?_; omega)))) ?_) <;> (try refine q_e (by apply h4l; exact rfl; (focus (apply h4r Tryz.underlying97 Tryz.underlying5; first | (refine IntWalk.i64_in _ ?_; omega) | (refine IntWalk.u8_in _ ?_; omega) | (refine IntWalk.u16_in _ ?_; omega) | (refine IntWalk.u32_in _ ?_; omega) | (refine IntWalk.u64_in _ ?_; omega) | (refine IntWalk.i32_in _ ?_; omega) | exact rfl))) ?_) <;> (try refine h0f ?_; (refine h0o (t:=45) (m:=1) (e:=5) (fun vs => (match vs with | [(_, x0)] => [x0] | _ => [])) rfl rfl (fun w => by kernel_rfl) ?_; intro nb hnb; (try simp only [Value.cells]); (try simp only [zzC, zzN]))) <;> (try refine p_e (by apply E_byteStrI; exact rfl; exact Tryz.underlying45; exact Tryz.underlying5; exact Tryz.underlying9; exact fd0) (h:=p_a (h:=h0d ?_)))))
   (refine h0v Tryz.results32 (.tmp rfl .nil) ?_)
   exact ⟨_, ⟨rfl, rfl⟩, by intro w H; refine H.sub ?_; (try simp only [zzC, zzN]); repeat (first | exact List.Sublist.refl _ | refine List.Sublist.cons _ ?_)⟩
  ·have i1 := fun (L : List Blk) => ih (n / 10) (by omega) (by omega) S w0 L
   have i2 := fun (L : List Blk) => ih (n % 10) (by omega) (by omega) S w0 L
   have e1 : ((n / 10 : Nat) : Int) = (n : Int) / 10 := rfl
   have e2 : ((n % 10 : Nat) : Int) = (n : Int) % 10 := rfl
   simp only [e1] at i1
   simp only [e2] at i2
   have hl1 := decF_len 20 (n / 10) (by omega) (by omega)
   have hl2 := decF_len 20 (n % 10) (by omega) (by omega)
   rw [← h1t] at hl1 hl2
   rw [decF_ge h, ← h4s]
   clear ih
   generalize mB8 (decF (n / 10)) = x at *
   generalize mB8 (decF (n % 10)) = y at *
   refine Fn1 Tryz.func32 Tryz.ntmps32 rfl rfl ?_
   repeat' (first | refine h0p ?_ | refine h0e ?_ | refine h1f ?_ | refine h1h ?_ | refine h0j rfl ?_ | (refine gR 0 (p_a (h:=h0d ?_))) | (refine gR 1 (p_m (h:=p_e (q_b (r:=by exact h1y q_o)) (h:=h0d ?_)))) | (refine gR 2 (q_m ?_) <;> (try refine q_e (q_b (r:=by apply rb_quo; omega; omega; exact c_5; (focus (refine IntWalk.u64_in _ ?_; omega)))) ?_) <;> (try refine h0f ?_; (refine h1k (F:=32) (by kernel_rfl) rfl rfl (i1 _) ?_; rintro _ _ ⟨rfl, rfl⟩)) <;> (try refine p_m (h:=q_e (q_b (r:=by apply rb_rem; omega; omega; exact c_5)) ?_)) <;> (try refine h0f ?_; (refine h1k (F:=32) (by kernel_rfl) rfl rfl (i2 _) ?_; rintro _ _ ⟨rfl, rfl⟩)) <;> (try refine p_e (q_b (r:=by apply h1q; exact rfl; (focus (omega)))) (h:=p_a (h:=h0d ?_)))))
   (refine h0v Tryz.results32 (.tmp rfl .nil) ?_)
   exact ⟨_, ⟨rfl, rfl⟩, by intro w H; refine H.sub ?_; (try simp only [zzC, zzN]); repeat (exact List.Sublist.refl _)⟩
theorem pre_iff (p s : ByteArray) (h : p.size ≤ s.size) : decide (s.extract 0 ((p.size : Nat) : Int).toNat = p) = (lB p).isPrefixOf (lB s) := by
 rw [Int.toNat_natCast, ext_take, Bool.eq_iff_iff, decide_eq_true_iff, List.isPrefixOf_iff_prefix, List.prefix_iff_eq_take, h3d]
 constructor
 ·intro e
  have := congrArg lB e
  rw [h4g] at this
  exact this.symm
 ·intro e
  apply lB_inj
  rw [h4g]
  exact e.symm
theorem haspre_c {S w0 L} (s p : ByteArray) : Fn Tryz.prog 128 #[.string s, .string p] S w0 L fun v L' => v = .bool ((lB p).isPrefixOf (lB s)) ∧ L = L' := by
 by_cases h : p.size ≤ s.size
 ·rw [← pre_iff p s h]
  refine Fn2 Tryz.func128 Tryz.ntmps128 rfl rfl ?_
  repeat' (first | refine h0p ?_ | refine h0e ?_ | refine h1h ?_ | (refine gR 0 (p_a (h:=h0d ?_))) | (refine gR 1 (p_m (h:=p_e (h0g rfl (fun _ => BigFrame.builtin_len ..) (h0q Tryz.underlying9)) (h:=p_m (h:=p_e (h0g rfl (fun _ => BigFrame.builtin_len ..) (h0q Tryz.underlying9)) (h:=p_e (q_b (r:=by exact rb_geq_t q_o)) (h:=p_m (h:=p_y (h0m rfl) (h:=p_y (h0m rfl) (h:=p_y (h0g rfl (fun _ => BigFrame.builtin_len ..) (h0q Tryz.underlying9)) (h:=p_y (by apply h4w; exact rfl; exact rfl; exact rfl; exact rfl; (focus (apply h5a Tryz.underlying9; (focus (apply bd_01; omega; omega; exact c_0)); exact rfl))) (h:=p_y (h0m rfl) (h:=p_y (q_b (r:=by exact rb_streq)) (h:=p_p (h:=p_a (h:=h0d ?_)))))))))))))))))
  (refine h0v Tryz.results128 (.tmp rfl .nil) ?_)
  exact ⟨_, ⟨rfl, rfl⟩, by intro w H; refine H.sub ?_; (try simp only [zzC, zzN]); repeat (exact List.Sublist.refl _)⟩
 ·have e : (lB p).isPrefixOf (lB s) = false := by
   rw [Bool.eq_false_iff]
   intro e
   have := (List.isPrefixOf_iff_prefix.1 e).length_le
   rw [h3d, h3d] at this
   exact h this
  rw [e]
  clear e
  refine Fn2 Tryz.func128 Tryz.ntmps128 rfl rfl ?_
  repeat' (first | refine h0p ?_ | refine h0e ?_ | refine h1h ?_ | (refine gR 0 (p_a (h:=h0d ?_))) | (refine gR 1 (p_m (h:=p_e (h0g rfl (fun _ => BigFrame.builtin_len ..) (h0q Tryz.underlying9)) (h:=p_m (h:=p_e (h0g rfl (fun _ => BigFrame.builtin_len ..) (h0q Tryz.underlying9)) (h:=p_e (q_b (r:=by exact rb_geq_f q_o)) (h:=p_m (h:=p_z (h:=p_z (h:=p_z (h:=p_z (h:=p_z (h:=p_z (h:=p_p (h:=p_a (h:=h0d ?_)))))))))))))))))
  (refine h0v Tryz.results128 (.tmp rfl .nil) ?_)
  exact ⟨_, ⟨rfl, rfl⟩, by intro w H; refine H.sub ?_; (try simp only [zzC, zzN]); repeat (exact List.Sublist.refl _)⟩
theorem cutpre_c {S w0 L} (s p : ByteArray) : Fn Tryz.prog 113 #[.string s, .string p] S w0 L fun v L' => v = h2y [.string (if (lB p).isPrefixOf (lB s) then mB8 ((lB s).drop p.size) else s), .bool ((lB p).isPrefixOf (lB s))] ∧ L = L' := by
 have hh := fun (L : List Blk) => haspre_c (S:=S) (w0:=w0) (L:=L) s p
 have main : Fn Tryz.prog 122 #[.string s, .string p] S w0 L fun v L' => v = h2y [.string (if (lB p).isPrefixOf (lB s) then mB8 ((lB s).drop p.size) else s), .bool ((lB p).isPrefixOf (lB s))] ∧ L = L' := by
  cases hb : (lB p).isPrefixOf (lB s)
  ·rw [hb] at hh
   rw [if_neg (by decide)]
   clear hb
   refine Fn2 Tryz.func122 Tryz.ntmps122 rfl rfl ?_
   repeat' (first | refine h0p ?_ | refine h0e ?_ | refine h1f ?_ | refine h1h ?_ | refine h0j rfl ?_ | (refine gR 0 (p_a (h:=p_a (h:=h0d ?_)))) | (refine gR 1 (p_m (h:=q_m ?_)) <;> (try refine h0f ?_; (refine h1k (F:=128) (by kernel_rfl) rfl rfl (hh _) ?_; rintro _ _ ⟨rfl, rfl⟩)) <;> (try refine p_e (by apply E_un; exact rfl; exact h4z) (h:=h0d ?_))) | (refine gR 2 (p_m (h:=p_a (h:=p_a (h:=h0d ?_))))))
   (refine h0v Tryz.results122 (.tmp rfl (.tmp rfl .nil)) ?_)
   exact ⟨_, ⟨rfl, rfl⟩, by intro w H; refine H.sub ?_; (try simp only [zzC, zzN]); repeat (exact List.Sublist.refl _)⟩
  ·have hle := (List.isPrefixOf_iff_prefix.1 hb).length_le
   rw [h3d, h3d] at hle
   rw [hb] at hh
   rw [if_pos rfl]
   clear hb
   have e : s.extract ((p.size : Nat) : Int).toNat s.size = mB8 ((lB s).drop p.size) := by rw [Int.toNat_natCast]; exact ext_drop _ _
   rw [← e]
   clear e
   refine Fn2 Tryz.func122 Tryz.ntmps122 rfl rfl ?_
   repeat' (first | refine h0p ?_ | refine h0e ?_ | refine h0u ?_ | refine h1h ?_ | refine h0h rfl ?_ | (refine gR 0 (p_a (h:=p_a (h:=h0d ?_)))) | (refine gR 1 (p_m (h:=q_m ?_)) <;> (try refine h0f ?_; (refine h1k (F:=128) (by kernel_rfl) rfl rfl (hh _) ?_; rintro _ _ ⟨rfl, rfl⟩)) <;> (try refine p_e (by apply E_un; exact rfl; exact h4a) (h:=h0d ?_))) | (refine gR 3 (p_m (h:=p_m (h:=p_e (h0g rfl (fun _ => BigFrame.builtin_len ..) (h0q Tryz.underlying9)) (h:=p_e (by apply h4w; exact rfl; exact rfl; exact rfl; exact rfl; (focus (apply h5a Tryz.underlying9; (focus (apply bd_10; omega; omega; exact c_0)); exact rfl))) (h:=p_a (h:=p_a (h:=h0d ?_)))))))))
   (refine h0v Tryz.results122 (.tmp rfl (.tmp rfl .nil)) ?_)
   exact ⟨_, ⟨rfl, rfl⟩, by intro w H; refine H.sub ?_; (try simp only [zzC, zzN]); repeat (exact List.Sublist.refl _)⟩
 generalize (if (lB p).isPrefixOf (lB s) then mB8 ((lB s).drop p.size) else s) = x at *
 generalize (lB p).isPrefixOf (lB s) = y at *
 clear hh
 have main := Lib.hid main
 refine Fn2 Tryz.func113 Tryz.ntmps113 rfl rfl ?_
 repeat' (first | refine h0p ?_ | refine h0e ?_ | refine h1h ?_ | (refine gR 0 (p_a (h:=p_a (h:=h0d ?_)))) | (refine gR 1 (p_m (h:=q_m ?_)) <;> (try refine h0f ?_; (refine h1k (F:=122) (by kernel_rfl) rfl rfl (main.out) ?_; rintro _ _ ⟨rfl, rfl⟩)) <;> (try refine p_x (h:=p_x (h:=p_a (h:=p_a (h:=h0d ?_)))))))
 (refine h0v Tryz.results113 (.tmp rfl (.tmp rfl .nil)) ?_)
 exact ⟨_, ⟨rfl, rfl⟩, by intro w H; refine H.sub ?_; (try simp only [zzC, zzN]); repeat (exact List.Sublist.refl _)⟩
theorem ixb_c {S w0 L} (D : ByteArray) (x : UInt8) : Fn Tryz.prog 77 #[.string D, .int .u8 (x.toNat : Int)] S w0 L fun v L' => v = .int .i64 (Lib.indexByte (lB D) x) ∧ L = L' := by
 refine .mk fun w H => (strings_IndexByte D (x.toNat : Int) w).mono fun e w' ⟨he, hw⟩ => ⟨_, _, he, ⟨?_, rfl⟩, hw ▸ H⟩
 rw [Int.toNat_natCast]
 have e2 : x.toNat.toUInt8 = x := by simp
 rw [e2]; rfl
def dgt (c : UInt8) : Nat := if 48 ≤ c.toNat ∧ c.toNat ≤ 57 then c.toNat - 48 else if 97 ≤ c.toNat ∧ c.toNat ≤ 102 then c.toNat - 87 else 99
def D10 : ByteArray := ⟨#[48, 49, 50, 51, 52, 53, 54, 55, 56, 57]⟩
def D16 : ByteArray := ⟨#[48, 49, 50, 51, 52, 53, 54, 55, 56, 57, 97, 98, 99, 100, 101, 102]⟩
theorem fin_u8 {p : UInt8 → Prop} (h : ∀ k : Fin 256, p (UInt8.ofNat k.val)) (c : UInt8) : p c := by
 have := h ⟨c.toNat, c.toNat_lt⟩
 simpa using this
theorem ix10 (c : UInt8) : Lib.indexByte (lB D10) c = if dgt c < 10 then (dgt c : Int) else -1 := fin_u8 (p:=fun c => Lib.indexByte (lB D10) c = if dgt c < 10 then (dgt c : Int) else -1) (by decide +kernel) c
theorem ix16 (c : UInt8) : Lib.indexByte (lB D16) c = if dgt c < 16 then (dgt c : Int) else -1 := fin_u8 (p:=fun c => Lib.indexByte (lB D16) c = if dgt c < 16 then (dgt c : Int) else -1) (by decide +kernel) c
def numGo (b : Nat) : Nat → List UInt8 → Option Nat
 | n, [] => some n
 | n, c :: r => if dgt c < b ∧ n ≤ (18446744073709551615 - dgt c) / b then numGo b (n * b + dgt c) r else none
def numD (b : Nat) (l : List UInt8) : Option Nat := if l.length < 1 ∨ l.length > 20 ∨ (l.length > 1 ∧ l[0]? = some 48) then none else numGo b 0 l
def numF (l : List UInt8) : Option Nat := if [48, 120].isPrefixOf l then numD 16 (l.drop 2) else numD 10 l
structure NuI (b : Nat) (s : ByteArray) (g : Nat × Nat) : Prop where
 le : g.1 ≤ s.size
 lt : g.2 < 18446744073709551616
 eq : numGo b 0 (lB s) = numGo b g.2 ((lB s).drop g.1)
theorem ba_at {s : ByteArray} {k : Nat} (h : k < s.size) : ∃ x : UInt8, s[k]? = some x ∧ (lB s).drop k = x :: (lB s).drop (k + 1) := by
 have hl : k < (lB s).length := by rw [h3d]; exact h
 refine ⟨(lB s)[k], ?_, List.drop_eq_getElem_cons hl⟩
 rw [← lB_get, List.getElem?_eq_getElem hl]
set_option maxHeartbeats 4000000 in
theorem number_c {S w0 L} (s : ByteArray) (hs : s.size ≤ 1000000) : Fn Tryz.prog 97 #[.string s] S w0 L fun v L' => v = h2y [.int .u64 ((numF (lB s)).getD 0 : Nat), .bool (numF (lB s)).isSome] ∧ L = L' := by
 have hcp := fun (L : List Blk) => cutpre_c (S:=S) (w0:=w0) (L:=L) s ⟨#[48, 120]⟩
 have hnf : numF (lB s) = if (lB ⟨#[48, 120]⟩).isPrefixOf (lB s) then numD 16 ((lB s).drop 2) else numD 10 (lB s) := rfl
 rw [hnf]
 have main : ∀ (b : Nat) (D r : ByteArray), (b = 10 ∧ D = D10) ∨ (b = 16 ∧ D = D16) → r.size ≤ 1000000 → (lB r).length = r.size →
   (numD b (lB r) = if r.size < 1 then none else if 20 < r.size then none else if 1 < r.size ∧ (lB r)[0]? = some 48 then none else numGo b 0 (lB r)) := by
  intro b D r _ _ hl
  unfold numD
  by_cases h1 : r.size < 1
  ·rw [if_pos (by left; omega), if_pos h1]
  ·by_cases h2 : 20 < r.size
   ·rw [if_pos (by right; left; omega), if_neg h1, if_pos h2]
   ·by_cases h3 : 1 < r.size ∧ (lB r)[0]? = some 48
    ·rw [if_pos (by right; right; exact ⟨by omega, h3.2⟩), if_neg h1, if_neg h2, if_pos h3]
    ·rw [if_neg (by
      rintro (h | h | h)
      ·omega
      ·omega
      ·exact h3 ⟨by omega, h.2⟩), if_neg h1, if_neg h2, if_neg h3]
 cases hb : (lB ⟨#[48, 120]⟩).isPrefixOf (lB s)
 ·simp only [hb, if_neg (show ¬ (false = true) by decide)] at hcp
  rw [if_neg (by decide), main 10 D10 s (.inl ⟨rfl, rfl⟩) hs (h3d s)]
  have hixd := fun (L : List Blk) (x : UInt8) => ixb_c (S:=S) (w0:=w0) (L:=L) D10 x
  simp only [ix10] at hixd
  unfold D10 at hixd
  clear hb hnf main
  refine Fn1 Tryz.func97 Tryz.ntmps97 rfl rfl ?_
  by_cases h1 : s.size < 1
  ·rw [if_pos h1]
   repeat' (first | refine h0p ?_ | refine h0e ?_ | refine h1f ?_ | refine h0u ?_ | refine h1h ?_ | refine h0j rfl ?_ | refine h0h rfl ?_ | (refine gR 0 (p_a (h:=p_a (h:=h0d ?_)))) | (refine gR 1 (p_a (h:=p_a (h:=h0d ?_)))) | (refine gR 2 (q_m ?_) <;> (try refine h0f ?_; (refine h1k (F:=113) (by kernel_rfl) rfl rfl (hcp _) ?_; rintro _ _ ⟨rfl, rfl⟩)) <;> (try refine p_m (h:=p_x (h:=p_x (h:=p_a (h:=p_a (h:=h0d ?_))))))) | (refine gR 3 (p_m (h:=h0d ?_))) | (refine gR 5 (p_m (h:=p_e (h0g rfl (fun _ => BigFrame.builtin_len ..) (h0q Tryz.underlying9)) (h:=p_e (q_b (r:=by exact h1d q_o)) (h:=p_m (h:=p_z (h:=p_z (h:=p_z (h:=p_p (h:=p_m (h:=p_z (h:=p_z (h:=p_z (h:=q_z ?_))))))))))))) <;> (try refine h0f ?_; (refine h5h rfl rfl rfl ?_)) <;> (try refine h0f ?_; (refine h5h rfl rfl rfl ?_)) <;> (try refine h0f ?_; (refine h5h rfl rfl rfl ?_)) <;> (try refine p_z (h:=p_p (h:=h0d ?_)))) | (refine gR 6 (p_a (h:=p_a (h:=h0d ?_)))))
   (refine h0v Tryz.results97 (.tmp rfl (.tmp rfl .nil)) ?_)
   exact ⟨_, ⟨rfl, rfl⟩, by intro w H; refine H.sub ?_; (try simp only [zzC, zzN]); repeat (exact List.Sublist.refl _)⟩
  rw [if_neg h1]
  by_cases h2 : 20 < s.size
  ·rw [if_pos h2]
   repeat' (first | refine h0p ?_ | refine h0e ?_ | refine h1f ?_ | refine h0u ?_ | refine h1h ?_ | refine h0j rfl ?_ | refine h0h rfl ?_ | (refine gR 0 (p_a (h:=p_a (h:=h0d ?_)))) | (refine gR 1 (p_a (h:=p_a (h:=h0d ?_)))) | (refine gR 2 (q_m ?_) <;> (try refine h0f ?_; (refine h1k (F:=113) (by kernel_rfl) rfl rfl (hcp _) ?_; rintro _ _ ⟨rfl, rfl⟩)) <;> (try refine p_m (h:=p_x (h:=p_x (h:=p_a (h:=p_a (h:=h0d ?_))))))) | (refine gR 3 (p_m (h:=h0d ?_))) | (refine gR 5 (p_m (h:=p_e (h0g rfl (fun _ => BigFrame.builtin_len ..) (h0q Tryz.underlying9)) (h:=p_e (q_b (r:=by exact h1j q_o)) (h:=p_m (h:=p_y (h0m rfl) (h:=p_y (h0g rfl (fun _ => BigFrame.builtin_len ..) (h0q Tryz.underlying9)) (h:=p_y (q_b (r:=by exact h1y q_o)) (h:=p_p (h:=p_m (h:=p_z (h:=p_z (h:=p_z (h:=q_z ?_))))))))))))) <;> (try refine h0f ?_; (refine h5h rfl rfl rfl ?_)) <;> (try refine h0f ?_; (refine h5h rfl rfl rfl ?_)) <;> (try refine h0f ?_; (refine h5h rfl rfl rfl ?_)) <;> (try refine p_z (h:=p_p (h:=h0d ?_)))) | (refine gR 6 (p_a (h:=p_a (h:=h0d ?_)))))
   (refine h0v Tryz.results97 (.tmp rfl (.tmp rfl .nil)) ?_)
   exact ⟨_, ⟨rfl, rfl⟩, by intro w H; refine H.sub ?_; (try simp only [zzC, zzN]); repeat (exact List.Sublist.refl _)⟩
  rw [if_neg h2]
  obtain ⟨x0, hx0, -⟩ := ba_at (s:=s) (k:=0) (by omega)
  have hx0' : s[(0 : Int).toNat]? = some x0 := hx0
  rw [lB_get, hx0]
  by_cases h3 : 1 < s.size ∧ some x0 = some (48 : UInt8)
  ·rw [if_pos h3]
   obtain ⟨h3a, h3b⟩ := h3
   obtain rfl : x0 = 48 := Option.some.inj h3b
   have h48 : (((48 : UInt8).toNat : Nat) : Int) = 48 := rfl
   repeat' (first | refine h0p ?_ | refine h0e ?_ | refine h1f ?_ | refine h0u ?_ | refine h1h ?_ | refine h0j rfl ?_ | refine h0h rfl ?_ | (refine gR 0 (p_a (h:=p_a (h:=h0d ?_)))) | (refine gR 1 (p_a (h:=p_a (h:=h0d ?_)))) | (refine gR 2 (q_m ?_) <;> (try refine h0f ?_; (refine h1k (F:=113) (by kernel_rfl) rfl rfl (hcp _) ?_; rintro _ _ ⟨rfl, rfl⟩)) <;> (try refine p_m (h:=p_x (h:=p_x (h:=p_a (h:=p_a (h:=h0d ?_))))))) | (refine gR 3 (p_m (h:=h0d ?_))) | (refine gR 5 (p_m (h:=p_e (h0g rfl (fun _ => BigFrame.builtin_len ..) (h0q Tryz.underlying9)) (h:=p_e (q_b (r:=by exact h1j q_o)) (h:=p_m (h:=p_y (h0m rfl) (h:=p_y (h0g rfl (fun _ => BigFrame.builtin_len ..) (h0q Tryz.underlying9)) (h:=p_y (q_b (r:=by exact h2f q_o)) (h:=p_p (h:=p_m (h:=p_y (h0m rfl) (h:=p_y (h0g rfl (fun _ => BigFrame.builtin_len ..) (h0q Tryz.underlying9)) (h:=p_y (q_b (r:=by exact h1y q_o)) (h:=p_y (h0m rfl) (h:=p_y (h0m rfl) (h:=q_y (by apply h2n; exact rfl; exact rfl; (focus (apply h3h Tryz.underlying9; omega; (with_reducible assumption)))) ?_))))))))))))))) <;> (try refine q_y (by exact q_b (r:=by refine h1i ?_; first | rfl | (with_reducible assumption) | (decide; done) | omega)) ?_) <;> (try refine p_y (h5k rfl rfl) (h:=p_p (h:=h0d ?_)))) | (refine gR 6 (p_a (h:=p_a (h:=h0d ?_)))))
   (refine h0v Tryz.results97 (.tmp rfl (.tmp rfl .nil)) ?_)
   exact ⟨_, ⟨rfl, rfl⟩, by intro w H; refine H.sub ?_; (try simp only [zzC, zzN]); repeat (exact List.Sublist.refl _)⟩
  rw [if_neg h3]
  have h3' : s.size ≤ 1 ∨ (1 < s.size ∧ ¬ ((x0.toNat : Int) = 48)) := by
   by_cases h : 1 < s.size
   ·exact .inr ⟨h, fun e => h3 ⟨h, by congr 1; exact UInt8.toNat.inj (by have : (48 : UInt8).toNat = 48 := rfl; omega)⟩⟩
   ·exact .inl (by omega)
  clear h3
  rcases h3' with h3 | ⟨h3, h4⟩
  all_goals repeat' (first | (refine h2r (id:=0) ?_) | refine h0p ?_ | refine h0e ?_ | refine h0u ?_ | refine h0h rfl ?_ | (refine gR 0 (p_a (h:=p_a (h:=h0d ?_)))) | (refine gR 1 (p_a (h:=p_a (h:=h0d ?_)))) | (refine gR 2 (q_m ?_) <;> (try refine h0f ?_; (refine h1k (F:=113) (by kernel_rfl) rfl rfl (hcp _) ?_; rintro _ _ ⟨rfl, rfl⟩)) <;> (try refine p_m (h:=p_x (h:=p_x (h:=p_a (h:=p_a (h:=h0d ?_))))))) | (refine gR 3 (p_m (h:=h0d ?_))) | (refine gR 5 (p_m (h:=p_e (h0g rfl (fun _ => BigFrame.builtin_len ..) (h0q Tryz.underlying9)) (h:=p_e (q_b (r:=by exact h1j q_o)) (h:=p_m (h:=p_y (h0m rfl) (h:=p_y (h0g rfl (fun _ => BigFrame.builtin_len ..) (h0q Tryz.underlying9)) (h:=p_y (q_b (r:=by exact h2f q_o)) (h:=p_p (h:=p_m (h:=p_y (h0m rfl) (h:=p_y (h0g rfl (fun _ => BigFrame.builtin_len ..) (h0q Tryz.underlying9)) (h:=p_y (by exact q_b (r:=by first | (exact h1y q_o) | (exact h2f q_o))) (h:=q_y (h0m rfl) ?_))))))))))))) <;> (try refine h0f ?_; (first | refine h3l rfl rfl rfl rfl ?_ | (refine h1x rfl rfl rfl ?_; (refine q_k (h0m rfl) ?_)))) <;> (try refine h0f ?_; (first | refine h3l rfl rfl rfl rfl ?_ | (refine h1x rfl rfl rfl ?_; (refine q_k (by apply h2n; exact rfl; exact rfl; (focus (apply h3h Tryz.underlying9; omega; (with_reducible assumption)))) ?_)))) <;> (try refine h0f ?_; (first | refine h3l rfl rfl rfl rfl ?_ | (refine h1x rfl rfl rfl ?_; (refine q_k (q_b (r:=by exact h1o q_o)) ?_)))) <;> (try refine p_y (h5k rfl rfl) (h:=p_p (h:=h0d ?_)))) | (refine gR 7 (p_a (h:=h0d ?_))) | (refine gR 8 (p_m (h:=p_e (h0g rfl (fun _ => BigFrame.builtin_len ..) (h0q Tryz.underlying9)) (h:=p_m (h:=h0d ?_))))))
  all_goals refine ⟨?_⟩
  all_goals refine h0r ?_
  all_goals
   refine h2s (γ:=Nat × Nat) (NuI 10 s) (fun g => s.size - g.1) (fun g => [(38, .int .i64 (g.1 : Nat)), (8, .int .u64 (g.2 : Nat))]) [(0, _), (4, _), (5, _), (37, _)]
    (fun _ => L) (0, 0) (.cons rfl (.cons rfl (.cons rfl (.cons rfl .nil)))) ⟨Nat.zero_le _, by dsimp only; omega, rfl⟩ (by (focus (repeat (first | exact Sub.nil | refine Sub.cons rfl ?_)))) c_26 ?_
   rintro ⟨i, n⟩ ⟨hi, hn, he⟩
   dsimp only at hi hn he ⊢
   by_cases hlt : i < s.size
   ·obtain ⟨x, hx, hxd⟩ := ba_at hlt
    have hxi : s[((i : Nat) : Int).toNat]? = some x := by rw [Int.toNat_natCast]; exact hx
    have hix := fun (L : List Blk) => hixd L x
    rw [hxd, numGo] at he
    by_cases hd : dgt x < 10
    ·rw [if_pos hd] at hix
     by_cases hq : n ≤ (18446744073709551615 - dgt x) / 10
     ·rw [if_pos ⟨hd, hq⟩] at he
      have he' := Lib.hid he
      clear he hxd hixd
      generalize dgt x = d at *
      repeat' (first | refine h0p ?_ | refine h0e ?_ | refine h0t ?_ | refine h0x ?_ | refine h0r ?_ | refine h0u ?_ | refine h0j rfl ?_ | refine h0h rfl ?_ | (refine gR 9 (p_e (q_b (r:=by exact h1d q_o)) (h:=h0d ?_))) | (refine gR 10 (p_m (h:=p_a (h:=h0d ?_)))) | (refine gR 11 (p_m (h:=p_m (h:=p_m (h:=q_e (by apply h2n; exact rfl; exact rfl; (focus (apply h3h Tryz.underlying9; omega; (with_reducible assumption)))) ?_)))) <;> (try refine h0f ?_; (refine h1k (F:=77) (by kernel_rfl) rfl rfl (hix _) ?_; rintro _ _ ⟨rfl, rfl⟩)) <;> (try refine p_a (h:=h0d ?_))) | (refine gR 12 (p_m (h:=p_e (q_b (r:=by exact h1j q_o)) (h:=p_m (h:=p_y (h0m rfl) (h:=q_y (h0m rfl) ?_))))) <;> (try refine q_y (by apply h4l; exact rfl; (focus (apply h4r Tryz.underlying3 Tryz.underlying97; first | (refine IntWalk.i64_in _ ?_; omega) | (refine IntWalk.u8_in _ ?_; omega) | (refine IntWalk.u16_in _ ?_; omega) | (refine IntWalk.u32_in _ ?_; omega) | (refine IntWalk.u64_in _ ?_; omega) | (refine IntWalk.i32_in _ ?_; omega) | exact rfl))) ?_) <;> (try refine q_y (q_b (r:=by apply rb_sub; exact c_5; (focus (refine IntWalk.u64_in _ ?_; omega)))) ?_) <;> (try refine q_y (h0m rfl) ?_) <;> (try refine q_y (q_b (r:=by apply rb_quo; omega; omega; exact c_5; (focus (refine IntWalk.u64_in _ ?_; omega)))) ?_) <;> (try refine p_y (q_b (r:=by exact h2f q_o)) (h:=p_p (h:=h0d ?_)))) | (refine gR 14 (p_m (h:=q_m ?_)) <;> (try refine q_e (q_b (r:=by apply rb_mul; exact c_5; (focus (refine IntWalk.u64_in _ ?_; omega)))) ?_) <;> (try refine q_m ?_) <;> (try refine q_e (by apply h4l; exact rfl; (focus (apply h4r Tryz.underlying3 Tryz.underlying97; first | (refine IntWalk.i64_in _ ?_; omega) | (refine IntWalk.u8_in _ ?_; omega) | (refine IntWalk.u16_in _ ?_; omega) | (refine IntWalk.u32_in _ ?_; omega) | (refine IntWalk.u64_in _ ?_; omega) | (refine IntWalk.i32_in _ ?_; omega) | exact rfl))) ?_) <;> (try refine q_e (q_b (r:=by apply h1r; exact c_5; (focus (refine IntWalk.u64_in _ ?_; omega)))) ?_) <;> (try refine p_a (h:=h0d ?_))) | (refine gR 15 ?_ <;> (try refine q_e (q_b (r:=by apply h1r; exact c_5; (focus (refine IntWalk.i64_in _ ?_; omega)))) ?_) <;> (try refine p_m (h:=h0d ?_))))
      refine h0w (i + 1, n * 10 + d) ⟨⟨by dsimp only; omega, by dsimp only; omega, he'.out⟩, by dsimp only; omega⟩ (by (focus (repeat (first | exact Sub.nil | refine Sub.cons rfl ?_)))) c_26
     ·rw [if_neg (fun h => hq h.2)] at he
      have he' := Lib.hid he
      clear he hxd hixd
      generalize dgt x = d at *
      repeat' (first | refine h0p ?_ | refine h0e ?_ | refine h4u ?_ | refine h1f ?_ | refine h2p ?_ | refine h0r ?_ | refine h0u ?_ | refine h1h ?_ | refine h0j rfl ?_ | (refine gR 9 (p_e (q_b (r:=by exact h1d q_o)) (h:=h0d ?_))) | (refine gR 10 (p_m (h:=p_a (h:=h0d ?_)))) | (refine gR 11 (p_m (h:=p_m (h:=p_m (h:=q_e (by apply h2n; exact rfl; exact rfl; (focus (apply h3h Tryz.underlying9; omega; (with_reducible assumption)))) ?_)))) <;> (try refine h0f ?_; (refine h1k (F:=77) (by kernel_rfl) rfl rfl (hix _) ?_; rintro _ _ ⟨rfl, rfl⟩)) <;> (try refine p_a (h:=h0d ?_))) | (refine gR 12 (p_m (h:=p_e (q_b (r:=by exact h1j q_o)) (h:=p_m (h:=p_y (h0m rfl) (h:=q_y (h0m rfl) ?_))))) <;> (try refine q_y (by apply h4l; exact rfl; (focus (apply h4r Tryz.underlying3 Tryz.underlying97; first | (refine IntWalk.i64_in _ ?_; omega) | (refine IntWalk.u8_in _ ?_; omega) | (refine IntWalk.u16_in _ ?_; omega) | (refine IntWalk.u32_in _ ?_; omega) | (refine IntWalk.u64_in _ ?_; omega) | (refine IntWalk.i32_in _ ?_; omega) | exact rfl))) ?_) <;> (try refine q_y (q_b (r:=by apply rb_sub; exact c_5; (focus (refine IntWalk.u64_in _ ?_; omega)))) ?_) <;> (try refine q_y (h0m rfl) ?_) <;> (try refine q_y (q_b (r:=by apply rb_quo; omega; omega; exact c_5; (focus (refine IntWalk.u64_in _ ?_; omega)))) ?_) <;> (try refine p_y (q_b (r:=by exact h1y q_o)) (h:=p_p (h:=h0d ?_)))) | (refine gR 13 (p_a (h:=p_a (h:=h0d ?_)))))
      (refine h0v Tryz.results97 (.tmp rfl (.tmp rfl .nil)) ?_)
      exact ⟨_, ⟨by rw [he'.out]; rfl, rfl⟩, by intro w H; refine H.sub ?_; (try simp only [zzC, zzN]); repeat (exact List.Sublist.refl _)⟩
    ·rw [if_neg hd] at hix
     rw [if_neg (fun h => hd h.1)] at he
     have he' := Lib.hid he
     clear he hxd hixd
     repeat' (first | refine h0p ?_ | refine h0e ?_ | refine h4u ?_ | refine h1f ?_ | refine h2p ?_ | refine h0r ?_ | refine h0u ?_ | refine h1h ?_ | refine h0j rfl ?_ | (refine gR 9 (p_e (q_b (r:=by exact h1d q_o)) (h:=h0d ?_))) | (refine gR 10 (p_m (h:=p_a (h:=h0d ?_)))) | (refine gR 11 (p_m (h:=p_m (h:=p_m (h:=q_e (by apply h2n; exact rfl; exact rfl; (focus (apply h3h Tryz.underlying9; omega; (with_reducible assumption)))) ?_)))) <;> (try refine h0f ?_; (refine h1k (F:=77) (by kernel_rfl) rfl rfl (hix _) ?_; rintro _ _ ⟨rfl, rfl⟩)) <;> (try refine p_a (h:=h0d ?_))) | (refine gR 12 (p_m (h:=p_e (q_b (r:=by exact h1d q_o)) (h:=p_m (h:=p_z (h:=p_z (h:=p_z (h:=p_z (h:=p_z (h:=p_z (h:=p_z (h:=p_p (h:=h0d ?_))))))))))))) | (refine gR 13 (p_a (h:=p_a (h:=h0d ?_)))))
     (refine h0v Tryz.results97 (.tmp rfl (.tmp rfl .nil)) ?_)
     exact ⟨_, ⟨by rw [he'.out]; rfl, rfl⟩, by intro w H; refine H.sub ?_; (try simp only [zzC, zzN]); repeat (exact List.Sublist.refl _)⟩
   ·obtain rfl : i = s.size := by omega
    rw [List.drop_eq_nil_of_le (by rw [h3d]; exact Nat.le_refl _), numGo] at he
    have he' := Lib.hid he
    clear he hixd
    repeat' (first | refine h0p ?_ | refine h0e ?_ | refine h1u ?_ | refine h1n ?_ | refine h1v ?_ | refine h2o ?_ | refine h1h ?_ | refine h0h rfl ?_ | (refine gR 9 (p_e (q_b (r:=by exact h1j q_o)) (h:=h0d ?_))) | (refine gR 16 (p_m (h:=p_a (h:=p_a (h:=h0d ?_))))))
    (refine h0v Tryz.results97 (.tmp rfl (.tmp rfl .nil)) ?_)
    exact ⟨_, ⟨by rw [he'.out]; rfl, rfl⟩, by intro w H; refine H.sub ?_; (try simp only [zzC, zzN]); repeat (exact List.Sublist.refl _)⟩
 ·simp only [hb, if_true] at hcp
  rw [if_pos rfl]
  have hcp' : ∀ (L : List Blk), Fn Tryz.prog 113 #[.string s, .string ⟨#[48, 120]⟩] S w0 L fun v L' => v = h2y [.string (mB8 ((lB s).drop 2)), .bool true] ∧ L = L' := hcp
  clear hcp
  have hrl : lB (mB8 ((lB s).drop 2)) = (lB s).drop 2 := rfl
  rw [← hrl, main 16 D16 (mB8 ((lB s).drop 2)) (.inr ⟨rfl, rfl⟩) (by rw [h1t, List.length_drop, h3d]; omega) (h3d _)]
  have hrs : (mB8 ((lB s).drop 2)).size ≤ 1000000 := by rw [h1t, List.length_drop, h3d]; omega
  have hixd := fun (L : List Blk) (x : UInt8) => ixb_c (S:=S) (w0:=w0) (L:=L) D16 x
  simp only [ix16] at hixd
  unfold D16 at hixd
  clear hb hnf main hrl
  generalize mB8 ((lB s).drop 2) = s' at *
  refine Fn1 Tryz.func97 Tryz.ntmps97 rfl rfl ?_
  by_cases h1 : s'.size < 1
  ·rw [if_pos h1]
   repeat' (first | refine h0p ?_ | refine h0e ?_ | refine h1f ?_ | refine h1h ?_ | refine h0j rfl ?_ | (refine gR 0 (p_a (h:=p_a (h:=h0d ?_)))) | (refine gR 1 (p_a (h:=p_a (h:=h0d ?_)))) | (refine gR 2 (q_m ?_) <;> (try refine h0f ?_; (refine h1k (F:=113) (by kernel_rfl) rfl rfl (hcp' _) ?_; rintro _ _ ⟨rfl, rfl⟩)) <;> (try refine p_m (h:=p_x (h:=p_x (h:=p_a (h:=p_a (h:=h0d ?_))))))) | (refine gR 3 (p_m (h:=h0d ?_))) | (refine gR 4 (p_m (h:=p_a (h:=p_a (h:=p_a (h:=h0d ?_)))))) | (refine gR 5 (p_m (h:=p_e (h0g rfl (fun _ => BigFrame.builtin_len ..) (h0q Tryz.underlying9)) (h:=p_e (q_b (r:=by exact h1d q_o)) (h:=p_m (h:=p_z (h:=p_z (h:=p_z (h:=p_p (h:=p_m (h:=p_z (h:=p_z (h:=p_z (h:=q_z ?_))))))))))))) <;> (try refine h0f ?_; (refine h5h rfl rfl rfl ?_)) <;> (try refine h0f ?_; (refine h5h rfl rfl rfl ?_)) <;> (try refine h0f ?_; (refine h5h rfl rfl rfl ?_)) <;> (try refine p_z (h:=p_p (h:=h0d ?_)))) | (refine gR 6 (p_a (h:=p_a (h:=h0d ?_)))))
   (refine h0v Tryz.results97 (.tmp rfl (.tmp rfl .nil)) ?_)
   exact ⟨_, ⟨rfl, rfl⟩, by intro w H; refine H.sub ?_; (try simp only [zzC, zzN]); repeat (exact List.Sublist.refl _)⟩
  rw [if_neg h1]
  by_cases h2 : 20 < s'.size
  ·rw [if_pos h2]
   repeat' (first | refine h0p ?_ | refine h0e ?_ | refine h1f ?_ | refine h1h ?_ | refine h0j rfl ?_ | (refine gR 0 (p_a (h:=p_a (h:=h0d ?_)))) | (refine gR 1 (p_a (h:=p_a (h:=h0d ?_)))) | (refine gR 2 (q_m ?_) <;> (try refine h0f ?_; (refine h1k (F:=113) (by kernel_rfl) rfl rfl (hcp' _) ?_; rintro _ _ ⟨rfl, rfl⟩)) <;> (try refine p_m (h:=p_x (h:=p_x (h:=p_a (h:=p_a (h:=h0d ?_))))))) | (refine gR 3 (p_m (h:=h0d ?_))) | (refine gR 4 (p_m (h:=p_a (h:=p_a (h:=p_a (h:=h0d ?_)))))) | (refine gR 5 (p_m (h:=p_e (h0g rfl (fun _ => BigFrame.builtin_len ..) (h0q Tryz.underlying9)) (h:=p_e (q_b (r:=by exact h1j q_o)) (h:=p_m (h:=p_y (h0m rfl) (h:=p_y (h0g rfl (fun _ => BigFrame.builtin_len ..) (h0q Tryz.underlying9)) (h:=p_y (q_b (r:=by exact h1y q_o)) (h:=p_p (h:=p_m (h:=p_z (h:=p_z (h:=p_z (h:=q_z ?_))))))))))))) <;> (try refine h0f ?_; (refine h5h rfl rfl rfl ?_)) <;> (try refine h0f ?_; (refine h5h rfl rfl rfl ?_)) <;> (try refine h0f ?_; (refine h5h rfl rfl rfl ?_)) <;> (try refine p_z (h:=p_p (h:=h0d ?_)))) | (refine gR 6 (p_a (h:=p_a (h:=h0d ?_)))))
   (refine h0v Tryz.results97 (.tmp rfl (.tmp rfl .nil)) ?_)
   exact ⟨_, ⟨rfl, rfl⟩, by intro w H; refine H.sub ?_; (try simp only [zzC, zzN]); repeat (exact List.Sublist.refl _)⟩
  rw [if_neg h2]
  obtain ⟨x0, hx0, -⟩ := ba_at (s:=s') (k:=0) (by omega)
  have hx0' : s'[(0 : Int).toNat]? = some x0 := hx0
  rw [lB_get, hx0]
  by_cases h3 : 1 < s'.size ∧ some x0 = some (48 : UInt8)
  ·rw [if_pos h3]
   obtain ⟨h3a, h3b⟩ := h3
   obtain rfl : x0 = 48 := Option.some.inj h3b
   have h48 : (((48 : UInt8).toNat : Nat) : Int) = 48 := rfl
   repeat' (first | refine h0p ?_ | refine h0e ?_ | refine h1f ?_ | refine h1h ?_ | refine h0j rfl ?_ | (refine gR 0 (p_a (h:=p_a (h:=h0d ?_)))) | (refine gR 1 (p_a (h:=p_a (h:=h0d ?_)))) | (refine gR 2 (q_m ?_) <;> (try refine h0f ?_; (refine h1k (F:=113) (by kernel_rfl) rfl rfl (hcp' _) ?_; rintro _ _ ⟨rfl, rfl⟩)) <;> (try refine p_m (h:=p_x (h:=p_x (h:=p_a (h:=p_a (h:=h0d ?_))))))) | (refine gR 3 (p_m (h:=h0d ?_))) | (refine gR 4 (p_m (h:=p_a (h:=p_a (h:=p_a (h:=h0d ?_)))))) | (refine gR 5 (p_m (h:=p_e (h0g rfl (fun _ => BigFrame.builtin_len ..) (h0q Tryz.underlying9)) (h:=p_e (q_b (r:=by exact h1j q_o)) (h:=p_m (h:=p_y (h0m rfl) (h:=p_y (h0g rfl (fun _ => BigFrame.builtin_len ..) (h0q Tryz.underlying9)) (h:=p_y (q_b (r:=by exact h2f q_o)) (h:=p_p (h:=p_m (h:=p_y (h0m rfl) (h:=p_y (h0g rfl (fun _ => BigFrame.builtin_len ..) (h0q Tryz.underlying9)) (h:=p_y (q_b (r:=by exact h1y q_o)) (h:=p_y (h0m rfl) (h:=p_y (h0m rfl) (h:=q_y (by apply h2n; exact rfl; exact rfl; (focus (apply h3h Tryz.underlying9; omega; (with_reducible assumption)))) ?_))))))))))))))) <;> (try refine q_y (by exact q_b (r:=by refine h1i ?_; first | rfl | (with_reducible assumption) | (decide; done) | omega)) ?_) <;> (try refine p_y (h5k rfl rfl) (h:=p_p (h:=h0d ?_)))) | (refine gR 6 (p_a (h:=p_a (h:=h0d ?_)))))
   (refine h0v Tryz.results97 (.tmp rfl (.tmp rfl .nil)) ?_)
   exact ⟨_, ⟨rfl, rfl⟩, by intro w H; refine H.sub ?_; (try simp only [zzC, zzN]); repeat (exact List.Sublist.refl _)⟩
  rw [if_neg h3]
  have h3' : s'.size ≤ 1 ∨ (1 < s'.size ∧ ¬ ((x0.toNat : Int) = 48)) := by
   by_cases h : 1 < s'.size
   ·exact .inr ⟨h, fun e => h3 ⟨h, by congr 1; exact UInt8.toNat.inj (by have : (48 : UInt8).toNat = 48 := rfl; omega)⟩⟩
   ·exact .inl (by omega)
  clear h3
  rcases h3' with h3 | ⟨h3, h4⟩
  all_goals repeat' (first | (refine h2r (id:=0) ?_) | refine h0p ?_ | refine h0e ?_ | refine h0u ?_ | refine h0j rfl ?_ | refine h0h rfl ?_ | (refine gR 0 (p_a (h:=p_a (h:=h0d ?_)))) | (refine gR 1 (p_a (h:=p_a (h:=h0d ?_)))) | (refine gR 2 (q_m ?_) <;> (try refine h0f ?_; (refine h1k (F:=113) (by kernel_rfl) rfl rfl (hcp' _) ?_; rintro _ _ ⟨rfl, rfl⟩)) <;> (try refine p_m (h:=p_x (h:=p_x (h:=p_a (h:=p_a (h:=h0d ?_))))))) | (refine gR 3 (p_m (h:=h0d ?_))) | (refine gR 4 (p_m (h:=p_a (h:=p_a (h:=p_a (h:=h0d ?_)))))) | (refine gR 5 (p_m (h:=p_e (h0g rfl (fun _ => BigFrame.builtin_len ..) (h0q Tryz.underlying9)) (h:=p_e (q_b (r:=by exact h1j q_o)) (h:=p_m (h:=p_y (h0m rfl) (h:=p_y (h0g rfl (fun _ => BigFrame.builtin_len ..) (h0q Tryz.underlying9)) (h:=p_y (q_b (r:=by exact h2f q_o)) (h:=p_p (h:=p_m (h:=p_y (h0m rfl) (h:=p_y (h0g rfl (fun _ => BigFrame.builtin_len ..) (h0q Tryz.underlying9)) (h:=p_y (by exact q_b (r:=by first | (exact h1y q_o) | (exact h2f q_o))) (h:=q_y (h0m rfl) ?_))))))))))))) <;> (try refine h0f ?_; (first | refine h3l rfl rfl rfl rfl ?_ | (refine h1x rfl rfl rfl ?_; (refine q_k (h0m rfl) ?_)))) <;> (try refine h0f ?_; (first | refine h3l rfl rfl rfl rfl ?_ | (refine h1x rfl rfl rfl ?_; (refine q_k (by apply h2n; exact rfl; exact rfl; (focus (apply h3h Tryz.underlying9; omega; (with_reducible assumption)))) ?_)))) <;> (try refine h0f ?_; (first | refine h3l rfl rfl rfl rfl ?_ | (refine h1x rfl rfl rfl ?_; (refine q_k (q_b (r:=by exact h1o q_o)) ?_)))) <;> (try refine p_y (h5k rfl rfl) (h:=p_p (h:=h0d ?_)))) | (refine gR 7 (p_a (h:=h0d ?_))) | (refine gR 8 (p_m (h:=p_e (h0g rfl (fun _ => BigFrame.builtin_len ..) (h0q Tryz.underlying9)) (h:=p_m (h:=h0d ?_))))))
  all_goals refine ⟨?_⟩
  all_goals refine h0r ?_
  all_goals
   refine h2s (γ:=Nat × Nat) (NuI 16 s') (fun g => s'.size - g.1) (fun g => [(38, .int .i64 (g.1 : Nat)), (8, .int .u64 (g.2 : Nat))]) [(0, _), (4, _), (5, _), (37, _)]
    (fun _ => L) (0, 0) (.cons rfl (.cons rfl (.cons rfl (.cons rfl .nil)))) ⟨Nat.zero_le _, by dsimp only; omega, rfl⟩ (by (focus (repeat (first | exact Sub.nil | refine Sub.cons rfl ?_)))) c_26 ?_
   rintro ⟨i, n⟩ ⟨hi, hn, he⟩
   dsimp only at hi hn he ⊢
   by_cases hlt : i < s'.size
   ·obtain ⟨x, hx, hxd⟩ := ba_at hlt
    have hxi : s'[((i : Nat) : Int).toNat]? = some x := by rw [Int.toNat_natCast]; exact hx
    have hix := fun (L : List Blk) => hixd L x
    rw [hxd, numGo] at he
    by_cases hd : dgt x < 16
    ·rw [if_pos hd] at hix
     by_cases hq : n ≤ (18446744073709551615 - dgt x) / 16
     ·rw [if_pos ⟨hd, hq⟩] at he
      have he' := Lib.hid he
      clear he hxd hixd
      generalize dgt x = d at *
      repeat' (first | refine h0p ?_ | refine h0e ?_ | refine h0t ?_ | refine h0x ?_ | refine h0r ?_ | refine h0u ?_ | refine h0j rfl ?_ | refine h0h rfl ?_ | (refine gR 9 (p_e (q_b (r:=by exact h1d q_o)) (h:=h0d ?_))) | (refine gR 10 (p_m (h:=p_a (h:=h0d ?_)))) | (refine gR 11 (p_m (h:=p_m (h:=p_m (h:=q_e (by apply h2n; exact rfl; exact rfl; (focus (apply h3h Tryz.underlying9; omega; (with_reducible assumption)))) ?_)))) <;> (try refine h0f ?_; (refine h1k (F:=77) (by kernel_rfl) rfl rfl (hix _) ?_; rintro _ _ ⟨rfl, rfl⟩)) <;> (try refine p_a (h:=h0d ?_))) | (refine gR 12 (p_m (h:=p_e (q_b (r:=by exact h1j q_o)) (h:=p_m (h:=p_y (h0m rfl) (h:=q_y (h0m rfl) ?_))))) <;> (try refine q_y (by apply h4l; exact rfl; (focus (apply h4r Tryz.underlying3 Tryz.underlying97; first | (refine IntWalk.i64_in _ ?_; omega) | (refine IntWalk.u8_in _ ?_; omega) | (refine IntWalk.u16_in _ ?_; omega) | (refine IntWalk.u32_in _ ?_; omega) | (refine IntWalk.u64_in _ ?_; omega) | (refine IntWalk.i32_in _ ?_; omega) | exact rfl))) ?_) <;> (try refine q_y (q_b (r:=by apply rb_sub; exact c_5; (focus (refine IntWalk.u64_in _ ?_; omega)))) ?_) <;> (try refine q_y (h0m rfl) ?_) <;> (try refine q_y (q_b (r:=by apply rb_quo; omega; omega; exact c_5; (focus (refine IntWalk.u64_in _ ?_; omega)))) ?_) <;> (try refine p_y (q_b (r:=by exact h2f q_o)) (h:=p_p (h:=h0d ?_)))) | (refine gR 14 (p_m (h:=q_m ?_)) <;> (try refine q_e (q_b (r:=by apply rb_mul; exact c_5; (focus (refine IntWalk.u64_in _ ?_; omega)))) ?_) <;> (try refine q_m ?_) <;> (try refine q_e (by apply h4l; exact rfl; (focus (apply h4r Tryz.underlying3 Tryz.underlying97; first | (refine IntWalk.i64_in _ ?_; omega) | (refine IntWalk.u8_in _ ?_; omega) | (refine IntWalk.u16_in _ ?_; omega) | (refine IntWalk.u32_in _ ?_; omega) | (refine IntWalk.u64_in _ ?_; omega) | (refine IntWalk.i32_in _ ?_; omega) | exact rfl))) ?_) <;> (try refine q_e (q_b (r:=by apply h1r; exact c_5; (focus (refine IntWalk.u64_in _ ?_; omega)))) ?_) <;> (try refine p_a (h:=h0d ?_))) | (refine gR 15 ?_ <;> (try refine q_e (q_b (r:=by apply h1r; exact c_5; (focus (refine IntWalk.i64_in _ ?_; omega)))) ?_) <;> (try refine p_m (h:=h0d ?_))))
      refine h0w (i + 1, n * 16 + d) ⟨⟨by dsimp only; omega, by dsimp only; omega, he'.out⟩, by dsimp only; omega⟩ (by (focus (repeat (first | exact Sub.nil | refine Sub.cons rfl ?_)))) c_26
     ·rw [if_neg (fun h => hq h.2)] at he
      have he' := Lib.hid he
      clear he hxd hixd
      generalize dgt x = d at *
      repeat' (first | refine h0p ?_ | refine h0e ?_ | refine h4u ?_ | refine h1f ?_ | refine h2p ?_ | refine h0r ?_ | refine h0u ?_ | refine h1h ?_ | refine h0j rfl ?_ | (refine gR 9 (p_e (q_b (r:=by exact h1d q_o)) (h:=h0d ?_))) | (refine gR 10 (p_m (h:=p_a (h:=h0d ?_)))) | (refine gR 11 (p_m (h:=p_m (h:=p_m (h:=q_e (by apply h2n; exact rfl; exact rfl; (focus (apply h3h Tryz.underlying9; omega; (with_reducible assumption)))) ?_)))) <;> (try refine h0f ?_; (refine h1k (F:=77) (by kernel_rfl) rfl rfl (hix _) ?_; rintro _ _ ⟨rfl, rfl⟩)) <;> (try refine p_a (h:=h0d ?_))) | (refine gR 12 (p_m (h:=p_e (q_b (r:=by exact h1j q_o)) (h:=p_m (h:=p_y (h0m rfl) (h:=q_y (h0m rfl) ?_))))) <;> (try refine q_y (by apply h4l; exact rfl; (focus (apply h4r Tryz.underlying3 Tryz.underlying97; first | (refine IntWalk.i64_in _ ?_; omega) | (refine IntWalk.u8_in _ ?_; omega) | (refine IntWalk.u16_in _ ?_; omega) | (refine IntWalk.u32_in _ ?_; omega) | (refine IntWalk.u64_in _ ?_; omega) | (refine IntWalk.i32_in _ ?_; omega) | exact rfl))) ?_) <;> (try refine q_y (q_b (r:=by apply rb_sub; exact c_5; (focus (refine IntWalk.u64_in _ ?_; omega)))) ?_) <;> (try refine q_y (h0m rfl) ?_) <;> (try refine q_y (q_b (r:=by apply rb_quo; omega; omega; exact c_5; (focus (refine IntWalk.u64_in _ ?_; omega)))) ?_) <;> (try refine p_y (q_b (r:=by exact h1y q_o)) (h:=p_p (h:=h0d ?_)))) | (refine gR 13 (p_a (h:=p_a (h:=h0d ?_)))))
      (refine h0v Tryz.results97 (.tmp rfl (.tmp rfl .nil)) ?_)
      exact ⟨_, ⟨by rw [he'.out]; rfl, rfl⟩, by intro w H; refine H.sub ?_; (try simp only [zzC, zzN]); repeat (exact List.Sublist.refl _)⟩
    ·rw [if_neg hd] at hix
     rw [if_neg (fun h => hd h.1)] at he
     have he' := Lib.hid he
     clear he hxd hixd
     repeat' (first | refine h0p ?_ | refine h0e ?_ | refine h4u ?_ | refine h1f ?_ | refine h2p ?_ | refine h0r ?_ | refine h0u ?_ | refine h1h ?_ | refine h0j rfl ?_ | (refine gR 9 (p_e (q_b (r:=by exact h1d q_o)) (h:=h0d ?_))) | (refine gR 10 (p_m (h:=p_a (h:=h0d ?_)))) | (refine gR 11 (p_m (h:=p_m (h:=p_m (h:=q_e (by apply h2n; exact rfl; exact rfl; (focus (apply h3h Tryz.underlying9; omega; (with_reducible assumption)))) ?_)))) <;> (try refine h0f ?_; (refine h1k (F:=77) (by kernel_rfl) rfl rfl (hix _) ?_; rintro _ _ ⟨rfl, rfl⟩)) <;> (try refine p_a (h:=h0d ?_))) | (refine gR 12 (p_m (h:=p_e (q_b (r:=by exact h1d q_o)) (h:=p_m (h:=p_z (h:=p_z (h:=p_z (h:=p_z (h:=p_z (h:=p_z (h:=p_z (h:=p_p (h:=h0d ?_))))))))))))) | (refine gR 13 (p_a (h:=p_a (h:=h0d ?_)))))
     (refine h0v Tryz.results97 (.tmp rfl (.tmp rfl .nil)) ?_)
     exact ⟨_, ⟨by rw [he'.out]; rfl, rfl⟩, by intro w H; refine H.sub ?_; (try simp only [zzC, zzN]); repeat (exact List.Sublist.refl _)⟩
   ·obtain rfl : i = s'.size := by omega
    rw [List.drop_eq_nil_of_le (by rw [h3d]; exact Nat.le_refl _), numGo] at he
    have he' := Lib.hid he
    clear he hixd
    repeat' (first | refine h0p ?_ | refine h0e ?_ | refine h1u ?_ | refine h1n ?_ | refine h1v ?_ | refine h2o ?_ | refine h1h ?_ | refine h0h rfl ?_ | (refine gR 9 (p_e (q_b (r:=by exact h1j q_o)) (h:=h0d ?_))) | (refine gR 16 (p_m (h:=p_a (h:=p_a (h:=h0d ?_))))))
    (refine h0v Tryz.results97 (.tmp rfl (.tmp rfl .nil)) ?_)
    exact ⟨_, ⟨by rw [he'.out]; rfl, rfl⟩, by intro w H; refine H.sub ?_; (try simp only [zzC, zzN]); repeat (exact List.Sublist.refl _)⟩
section
variable {P : Program} {n : Nat} {l : List (Nat × Value)} {S : List Nat} {w0 : World} {L : List Blk} {K : Act → World → Prop} {k : Kont} {ops : Array Oper} {d : Tmp} {ty : TypeId} {pos : String} {af : Array Edge}
theorem K1_callv {F : FuncId} {t : Tmp} {first captured : Array Value} {xs : List Operand} {vs : List Value} {ats : Array TypeId} {R : Value → List Blk → Prop} (hfn : (P.funcs[F]?).map (fun fn => (fn.name == "runtime.NumGoroutine", fn.body.isNone)) = some (false, false)) (hd : Nat.blt d n = true)
  (ht : lk l t = some (.func (.func F) first captured)) (hx : evs l xs = some vs) (hc : Fn P F (first ++ vs.toArray ++ captured) S w0 L R) (h : ∀ v L', R v L' → G n ((d, v) :: l) S w0 L' K) :
  G n l S w0 L (K1 P ops k ⟨some d, .call { callee := .value (.tmp t), args := xs.toArray, argTypes := ats }, ty, pos, af, none⟩ K) := .mk fun a w hf H => h4n rfl <| by
  unfold Oper.wp
  have e1 : a.eval (.tmp t) = .func (.func F) first captured := hf.eval (x:=.tmp t) ht
  have e : execOp a.eval ⟨some d, .call { callee := .value (.tmp t), args := xs.toArray, argTypes := ats }, ty, pos, af, none⟩ = callFunc F (first ++ (xs.toArray.map a.eval) ++ captured) := by
   show (do let d ← Deferred.ofValue (a.eval (.tmp t)) (xs.toArray.map a.eval); invoke d.target d.args) = _
   rw [e1]; rfl
  rw [e, List.map_toArray, hf.evals hx, run_callFunc hfn]
  refine (hc.out w H).mono fun e w' ⟨v, L', he, hR, H'⟩ => ?_
  subst he
  exact ((h v L' hR).out _ _ (hf.put (some d) v hd) H')
theorem K1_callv0 {F : FuncId} {t : Tmp} {xs : List Operand} {vs : List Value} {ats : Array TypeId} {R : Value → List Blk → Prop} (hfn : (P.funcs[F]?).map (fun fn => (fn.name == "runtime.NumGoroutine", fn.body.isNone)) = some (false, false)) (hd : Nat.blt d n = true)
  (ht : lk l t = some (.func (.func F) #[] #[])) (hx : evs l xs = some vs) (hc : Fn P F vs.toArray S w0 L R) (h : ∀ v L', R v L' → G n ((d, v) :: l) S w0 L' K) :
  G n l S w0 L (K1 P ops k ⟨some d, .call { callee := .value (.tmp t), args := xs.toArray, argTypes := ats }, ty, pos, af, none⟩ K) :=
 K1_callv hfn hd ht hx (by simpa using hc) h
theorem G_meetj {γ : Type} {c y : Code} (R : γ → Prop) (ch : γ → List (Nat × Value)) (kp : List (Nat × Value)) (L' : γ → List Blk) (_hk : Sub l kp)
  (h1 : G n l S w0 L (KC P c (.cut (At n S w0 R (fun g => ch g ++ kp) L') k))) (h2 : ∀ g, R g → G n (ch g ++ kp) S w0 (L' g) (KC P y k)) :
  G n l S w0 L (KC P c (.seq y k)) := .mk fun a w hf H =>
 ⟨wp_mono (h1.out a w hf H).out fun e a w h => by
  cases e <;> first | exact (let ⟨g, hR, hf, H⟩ := h.out; ((h2 g hR).out a w hf H).out) | exact h⟩
end
def PlainKey : TypeDesc → Value → Prop
 | .int k, .int k' _ => k' = k
 | .string, .string _ => True
 | _, _ => False
section
variable {P : Program} {o : Oper} {a : Act} {w w0 : World} {K : Act → World → Prop} {Q : Exit → Act → World → Prop} {S : List Nat} {L : List Blk} {ops : Array Oper} {rest : List Oper}
theorem h6g {e : Bool} {key : TypeId} {d : TypeDesc} {v : Value} (hk : P.underlying key = some d) (hp : PlainKey d v) (w : World) : (Instr.checkKey e 10000 key v).run P w = .ok () w := by
 show (Instr.checkKey e (9999 + 1) key v).run P w = .ok () w
 unfold Instr.checkKey
 rw [Sem.run_bind, run_underlying hk w]
 cases d <;> cases v <;> simp_all [PlainKey]
theorem run_findKey {key : TypeId} {d : TypeDesc} {v : Value} {es : List MapEntry} {r : Option (Nat × Value)} (hk : P.underlying key = some d) (hf : Instr.findNow d v es 0 = some r) (w : World) :
  (Instr.findKey key v es).run P w = .ok r w := by
 unfold Instr.findKey
 rw [Sem.run_bind, run_underlying hk w]
 simp [hf]
theorem run_getObj_map {b : Nat} {es : Array MapEntry} {c : Nat} (h : w.heap[b]? = some (.map es c)) : (getObj b).run P w = .ok (.map es c) w := by
 simp only [getObj, Sem.run, h]
def found (r : Option (Nat × Value)) (z : Value) : Value := match r with | some (_, v) => v | none => z
theorem run_lookup (H : HP S w0 w L) (i : Nat) {t key elem : TypeId} {d : TypeDesc} {q : Bool} {b : Nat} {es : Array MapEntry} {c : Nat} {kv z : Value} {r : Option (Nat × Value)} {ok : Bool}
  (ht : P.underlying t = some (.map key elem)) (hk : P.underlying key = some d) (hp : PlainKey d kv) (hz : ∀ w, (zeroValue elem).run P w = .ok z w)
  (hi : L[i]? = some ⟨q, b, .map es c⟩) (hf : Instr.findNow d kv es.toList 0 = some r) :
  (Instr.lookup t (.map (some b)) kv ok).run P w = .ok (if ok then .tuple #[found r z, .bool r.isSome] else found r z) w := by
 unfold Instr.lookup
 simp only [Sem.run_bind, run_underlying ht, Result.andThen_ok, run_getObj_map (H.at_ i hi), Sem.run_pure, h6g hk hp, run_findKey hk hf]
 cases r with
 | none => cases ok <;> simp [found, hz]
 | some p => cases ok <;> simp [found]
end
def mkE : List (Value × Value) → Nat → List MapEntry
 | [], _ => []
 | p :: r, i => { key := p.1, val := p.2, born := i } :: mkE r (i + 1)
abbrev h3m (b : Nat) (kvs : List (Value × Value)) : Blk := ⟨true, b, .map (mkE kvs 0).toArray kvs.length⟩
def fd (d : TypeDesc) (k : Value) : List (Value × Value) → Nat → Option (Option (Nat × Value))
 | [], _ => some none
 | p :: r, i => match Instr.sameNow d k p.1 with
  | some true => some (some (i, p.2))
  | some false => fd d k r (i + 1)
  | none => none
theorem fd_eq (d : TypeDesc) (k : Value) (kvs : List (Value × Value)) (i j : Nat) : Instr.findNow d k (mkE kvs j) i = fd d k kvs i := by
 induction kvs generalizing i j with
 | nil => rfl
 | cons p r ih =>
  simp only [mkE, Instr.findNow, fd]
  cases h : Instr.sameNow d k p.1 with
  | none => rfl
  | some q => cases q with
   | true => rfl
   | false => exact ih _ _
theorem mkE_app (kvs : List (Value × Value)) (p : Value × Value) (i : Nat) : mkE (kvs ++ [p]) i = mkE kvs i ++ [{ key := p.1, val := p.2, born := i + kvs.length }] := by
 induction kvs generalizing i with
 | nil => simp [mkE]
 | cons q r ih => simp only [List.cons_append, mkE, ih, List.length_cons]; rw [show i + 1 + r.length = i + (r.length + 1) by omega]
theorem mkE_get (kvs : List (Value × Value)) (i j : Nat) (p : Value × Value) (h : kvs[j]? = some p) : (mkE kvs i)[j]? = some { key := p.1, val := p.2, born := i + j } := by
 induction kvs generalizing i j with
 | nil => simp at h
 | cons q r ih =>
  cases j with
  | zero => simp at h; subst h; simp [mkE]
  | succ j =>
   simp only [List.getElem?_cons_succ] at h
   simp only [mkE, List.getElem?_cons_succ, ih (i + 1) j h]
   congr 2; omega
theorem mkE_set (kvs : List (Value × Value)) (i j : Nat) (p : Value × Value) (f : MapEntry → MapEntry) (hf : ∀ q, kvs[j]? = some q → f { key := q.1, val := q.2, born := i + j } = { key := p.1, val := p.2, born := i + j }) : (mkE kvs i).modify j f = mkE (kvs.set j p) i := by
 induction kvs generalizing i j with
 | nil => cases j <;> rfl
 | cons q r ih =>
  cases j with
  | zero => simp only [mkE, List.modify_zero_cons, List.set_cons_zero]; have := hf q (by simp); simp only [Nat.add_zero] at this; rw [this]
  | succ j =>
   simp only [mkE, List.modify_succ_cons, List.set_cons_succ]
   rw [ih (i + 1) j (fun q hq => by have := hf q (by simpa using hq); rw [show i + 1 + j = i + (j + 1) by omega]; exact this)]
theorem fd_get {d : TypeDesc} {k : Value} {kvs : List (Value × Value)} {i j : Nat} {v : Value} (h : fd d k kvs i = some (some (j, v))) : i ≤ j ∧ ∃ p, kvs[j - i]? = some p ∧ p.2 = v ∧ Instr.sameNow d k p.1 = some true := by
 induction kvs generalizing i with
 | nil => simp [fd] at h
 | cons q r ih =>
  simp only [fd] at h
  split at h
  ·rename_i hs
   simp only [Option.some.injEq, Prod.mk.injEq] at h
   obtain ⟨rfl, rfl⟩ := h
   exact ⟨Nat.le_refl _, q, by simp, rfl, hs⟩
  ·obtain ⟨h1, p, h2, h3⟩ := ih h
   refine ⟨by omega, p, ?_, h3⟩
   rw [show j - i = (j - (i + 1)) + 1 by omega, List.getElem?_cons_succ]; exact h2
  ·simp at h
theorem ba_beq (x y : ByteArray) : (x == y) = decide (x = y) := by
 show (x.data == y.data) = _
 cases x with | mk a => cases y with | mk b =>
 by_cases h : a = b
 ·subst h; simp
 ·have h2 : ¬ (ByteArray.mk a = ByteArray.mk b) := fun e => h (by injection e)
  simp [h2]; exact fun e => h e
theorem same_plain {d : TypeDesc} {k k' : Value} (hp : PlainKey d k) (h : Instr.sameNow d k k' = some true) : Instr.sameBits 10000 k' k = true ∧ k' = k := by
 cases d <;> cases k <;> simp [PlainKey] at hp <;> cases k' <;> simp_all [Instr.sameNow, Instr.sameBits, ba_beq]
section
variable {P : Program} {n : Nat} {l : List (Nat × Value)} {S : List Nat} {w0 : World} {L : List Blk} {K : Act → World → Prop} {kt : Kont} {ops : Array Oper} {d : Tmp} {ty : TypeId} {pos : String} {af : Array Edge}
theorem K1_makeMap {t : TypeId} (hd : Nat.blt d n = true) (h : ∀ nb, w0.heap.size ≤ nb → G n ((d, .map (some nb)) :: l) S w0 (h3m nb [] :: L) K) :
  G n l S w0 L (K1 P ops kt ⟨some d, .makeMap t none, ty, pos, af, none⟩ K) := .mk fun a w hf H => h4n rfl <| by
 unfold Oper.wp execOp
 simp only [Option.map_none, Instr.makeMap, Sem.run_bind, Sem.run_pure, Result.andThen_ok, run_newObj]
 exact (h _ H.size).out _ _ (hf.put (some d) _ hd) (H.alloc _)
theorem E_lookup {t key elem : TypeId} {dd : TypeDesc} {x ix : Operand} {i b : Nat} {kvs : List (Value × Value)} {kv z : Value} {r : Option (Nat × Value)} (hx : ev l x = some (.map (some b))) (hk : ev l ix = some kv) (hi : L[i]? = some (h3m b kvs))
  (ht : P.underlying t = some (.map key elem)) (hkt : P.underlying key = some dd) (hp : PlainKey dd kv) (hz : ∀ w, (zeroValue elem).run P w = .ok z w) (hf : fd dd kv kvs 0 = some r) {fv : Value} {fb : Bool} (hfv : found r z = fv) (hfb : r.isSome = fb) :
  ValOf P n l S w0 L ⟨some d, .lookup t x ix true, ty, pos, af, none⟩ (h2y [fv, .bool fb]) :=
 ⟨fun a w hF H => by
  subst hfv
  subst hfb
  unfold execOp
  simp only [hF.eval hx, hF.eval hk, Sem.run_bind, run_lookup H i ht hkt hp hz hi (by simpa [fd_eq] using hf), Result.andThen_ok, Sem.run_pure]
  rfl⟩
theorem h5s {t key elem : TypeId} {dd : TypeDesc} {x ix : Operand} {i b : Nat} {kvs : List (Value × Value)} {kv z : Value} {r : Option (Nat × Value)} (hx : ev l x = some (.map (some b))) (hk : ev l ix = some kv) (hi : L[i]? = some (h3m b kvs))
  (ht : P.underlying t = some (.map key elem)) (hkt : P.underlying key = some dd) (hp : PlainKey dd kv) (hz : ∀ w, (zeroValue elem).run P w = .ok z w) (hf : fd dd kv kvs 0 = some r) {fv : Value} (hfv : found r z = fv) :
  ValOf P n l S w0 L ⟨some d, .lookup t x ix false, ty, pos, af, none⟩ fv :=
 ⟨fun a w hF H => by
  subst hfv
  unfold execOp
  simp only [hF.eval hx, hF.eval hk, Sem.run_bind, run_lookup H i ht hkt hp hz hi (by simpa [fd_eq] using hf), Result.andThen_ok, Sem.run_pure]
  rfl⟩
theorem E_makeFunc {fn : Go.Fn} {xs ys : List Operand} {vs us : List Value} (hx : evs l xs = some vs) (hy : evs l ys = some us) :
  ValOf P n l S w0 L ⟨some d, .makeFunc fn xs.toArray ys.toArray, ty, pos, af, none⟩ (.func fn vs.toArray us.toArray) :=
 ⟨fun a w hF H => by
  unfold execOp
  simp only [List.map_toArray, hF.evals hx, hF.evals hy, Instr.makeFunc, Sem.run_bind, Sem.run_pure, Result.andThen_ok]⟩
theorem HP.setMap {w : World} {i b : Nat} {es : Array MapEntry} {c : Nat} (H : HP S w0 w L) (hi : L[i]? = some ⟨true, b, .map es c⟩) (o' : Obj) : HP S w0 { w with heap := w.heap.setIfInBounds b o' } (L.set i ⟨true, b, o'⟩) := by
 have hb : b < w.heap.size := H.lt i hi
 exact H.turn i hi _ o' rfl rfl rfl (by simp) (by simp [hb]) (fun k hk => by rw [Array.getElem?_setIfInBounds, if_neg (fun e => hk (Eq.symm e))])
theorem run_setMap {w : World} {b : Nat} {es : Array MapEntry} {c : Nat} (hat : w.heap[b]? = some (.map es c)) (o' : Obj) : (setObj b o').run P w = .ok () { w with heap := w.heap.setIfInBounds b o' } := by
 simp only [setObj, Sem.run, hat]
def updE (kvs : List (Value × Value)) (kv v : Value) (r : Option (Nat × Value)) : List (Value × Value) :=
 match r with
 | some (i, _) => kvs.set i (kv, v)
 | none => kvs ++ [(kv, v)]
theorem h5i {t key elem : TypeId} {dd : TypeDesc} {x ix y : Operand} {i b : Nat} {kvs : List (Value × Value)} {kv v : Value} {r : Option (Nat × Value)} (hx : ev l x = some (.map (some b))) (hk : ev l ix = some kv) (hy : ev l y = some v) (hi : L[i]? = some (h3m b kvs))
  (ht : P.underlying t = some (.map key elem)) (hkt : P.underlying key = some dd) (hp : PlainKey dd kv) (hf : fd dd kv kvs 0 = some r)
  (h : G n l S w0 (L.set i (h3m b (updE kvs kv v r))) K) : G n l S w0 L (K1 P ops kt ⟨none, .mapUpdate t x ix y, ty, pos, af, none⟩ K) := .mk fun a w hF H => h4n rfl <| by
 have hat := H.at_ i hi
 have hfn : Instr.findNow dd kv (mkE kvs 0) 0 = some r := by rw [fd_eq]; exact hf
 have hr : (Instr.mapUpdate t (.map (some b)) kv v).run P w = .ok () { w with heap := w.heap.setIfInBounds b (h3m b (updE kvs kv v r)).o } := by
  unfold Instr.mapUpdate
  simp only [Sem.run_bind, run_underlying ht, Result.andThen_ok, run_getObj_map hat, h6g hkt hp, run_findKey hkt hfn]
  cases r with
  | none =>
   simp only [updE, run_setMap hat]
   simp [mkE_app]
  | some p =>
   obtain ⟨j, u⟩ := p
   obtain ⟨_, q, hq, _, hsn⟩ := fd_get hf
   simp only [Nat.sub_zero] at hq
   obtain ⟨hsb, hqe⟩ := same_plain hp hsn
   have hg := mkE_get kvs 0 j q hq
   have e1 : (mkE kvs 0).modify j (fun e => { key := kv, val := v, born := e.born }) = mkE (kvs.set j (kv, v)) 0 := mkE_set kvs 0 j (kv, v) _ (fun _ _ => rfl)
   simp only [List.getElem?_toArray, hg, Option.map_some, Option.getD_some, Instr.keyThatStays, hsb, if_true, Sem.run_pure, Result.andThen_ok, updE, Sem.run_bind, run_setMap hat]
   congr 1
   simp [e1]
 have hgo : (execOp a.eval (⟨none, .mapUpdate t x ix y, ty, pos, af, none⟩ : Oper)).run P w = .ok .skip { w with heap := w.heap.setIfInBounds b (h3m b (updE kvs kv v r)).o } := by
  unfold execOp
  simp only [hF.eval hx, hF.eval hk, hF.eval hy, Sem.run_bind, hr, Result.andThen_ok, Sem.run_pure]
 unfold Oper.wp
 rw [hgo]
 exact h.out _ _ hF (H.setMap hi _)
theorem K1_mapEntry {t key elem : TypeId} {dd : TypeDesc} {x ix : Operand} {i b : Nat} {kvs : List (Value × Value)} {kv z : Value} (hd : Nat.blt d n = true) (hx : ev l x = some (.map (some b))) (hk : ev l ix = some kv) (hi : L[i]? = some (h3m b kvs))
  (ht : P.underlying t = some (.map key elem)) (hkt : P.underlying key = some dd) (hp : PlainKey dd kv) (hz : ∀ w, (zeroValue elem).run P w = .ok z w) (hf : fd dd kv kvs 0 = some none)
  (h : G n ((d, h2y [z, .int .i64 kvs.length]) :: l) S w0 (L.set i (h3m b (kvs ++ [(kv, z)]))) K) : G n l S w0 L (K1 P ops kt ⟨some d, .mapEntry t x ix, ty, pos, af, none⟩ K) := .mk fun a w hF H => h4n rfl <| by
 have hat := H.at_ i hi
 have hfn : Instr.findNow dd kv (mkE kvs 0) 0 = some none := by rw [fd_eq]; exact hf
 have hr : (Instr.mapEntry t (.map (some b)) kv).run P w = .ok (h2y [z, .int .i64 kvs.length]) { w with heap := w.heap.setIfInBounds b (h3m b (kvs ++ [(kv, z)])).o } := by
  unfold Instr.mapEntry
  simp only [Sem.run_bind, run_underlying ht, Result.andThen_ok, run_getObj_map hat, h6g hkt hp, run_findKey hkt hfn, hz, run_setMap hat, Sem.run_pure]
  simp [mkE_app, h2y, goInt]
 have hgo : (execOp a.eval (⟨some d, .mapEntry t x ix, ty, pos, af, none⟩ : Oper)).run P w = .ok (.value (h2y [z, .int .i64 kvs.length])) { w with heap := w.heap.setIfInBounds b (h3m b (kvs ++ [(kv, z)])).o } := by
  unfold execOp
  simp only [hF.eval hx, hF.eval hk, Sem.run_bind, hr, Result.andThen_ok, Sem.run_pure]
 unfold Oper.wp
 rw [hgo]
 exact h.out _ _ (hF.put (some d) _ hd) (H.setMap hi _)
theorem find_born (kvs : List (Value × Value)) (i j : Nat) (hj : j < kvs.length) : (mkE kvs i).findIdx? (fun e => (e.born : Int) == ((i + j : Nat) : Int)) = some j := by
 induction kvs generalizing i j with
 | nil => simp at hj
 | cons p r ih =>
  cases j with
  | zero => simp [mkE, List.findIdx?_cons]
  | succ j =>
   have hne : ((i : Int) == ((i + (j + 1) : Nat) : Int)) = false := by simp; omega
   rw [mkE, List.findIdx?_cons]
   simp only [hne]
   have := ih (i + 1) j (by simpa using hj)
   rw [show i + 1 + j = i + (j + 1) by omega] at this
   rw [if_neg (by simp)]
   simpa using this
theorem K1_entryStore {t : TypeId} {x s y : Operand} {i b j : Nat} {kvs : List (Value × Value)} {k0 u v : Value} {st : Int} (hx : ev l x = some (.map (some b))) (hs : ev l s = some (.int .i64 st)) (hy : ev l y = some v) (hi : L[i]? = some (h3m b kvs)) (hj : kvs[j]? = some (k0, u)) (hst : st = (j : Nat))
  (h : G n l S w0 (L.set i (h3m b (kvs.set j (k0, v)))) K) : G n l S w0 L (K1 P ops kt ⟨none, .entryStore t x s y, ty, pos, af, none⟩ K) := .mk fun a w hF H => h4n rfl <| by
 subst hst
 have hat := H.at_ i hi
 have hlt : j < kvs.length := by
  rcases Nat.lt_or_ge j kvs.length with h | h
  ·exact h
  ·simp [List.getElem?_eq_none h] at hj
 have hfb := find_born kvs 0 j hlt
 rw [Nat.zero_add] at hfb
 have e1 : (mkE kvs 0).modify j (fun e => { key := e.key, val := v, born := e.born }) = mkE (kvs.set j (k0, v)) 0 := mkE_set kvs 0 j (k0, v) _ (fun q hq => by rw [hj] at hq; obtain rfl := Option.some.inj hq; rfl)
 have hr : (Instr.entryStore t (.map (some b)) (.int .i64 (j : Nat)) v).run P w = .ok () { w with heap := w.heap.setIfInBounds b (h3m b (kvs.set j (k0, v))).o } := by
  unfold Instr.entryStore
  simp only [Sem.run_bind, run_getObj_map hat, Result.andThen_ok, asInt, asIntOf, Sem.run_pure, List.findIdx?_toArray, hfb, run_setMap hat]
  congr 1
  simp [e1]
 have hgo : (execOp a.eval (⟨none, .entryStore t x s y, ty, pos, af, none⟩ : Oper)).run P w = .ok .skip { w with heap := w.heap.setIfInBounds b (h3m b (kvs.set j (k0, v))).o } := by
  unfold execOp
  simp only [hF.eval hx, hF.eval hs, hF.eval hy, Sem.run_bind, hr, Result.andThen_ok, Sem.run_pure]
 unfold Oper.wp
 rw [hgo]
 exact h.out _ _ hF (H.setMap hi _)
theorem K1_entryStoreL {t : TypeId} {x s y : Operand} {i b : Nat} {kvs : List (Value × Value)} {k0 u v : Value} (hx : ev l x = some (.map (some b))) (hs : ev l s = some (.int .i64 kvs.length)) (hy : ev l y = some v) (hi : L[i]? = some (h3m b (kvs ++ [(k0, u)])))
  (h : G n l S w0 (L.set i (h3m b (kvs ++ [(k0, v)]))) K) : G n l S w0 L (K1 P ops kt ⟨none, .entryStore t x s y, ty, pos, af, none⟩ K) :=
 K1_entryStore (j:=kvs.length) (k0:=k0) (u:=u) hx hs hy hi (by simp) rfl (by rw [List.set_append_right _ _ (Nat.le_refl _), Nat.sub_self, List.set_cons_zero]; exact h)
theorem h4t {i j id m : Nat} {os : List Oper} {Lb : List Blk} (hb : (L.eraseIdx i).eraseIdx j = Lb) (hm : P.follows .mixedOrders = true) (hl : os.length = m) (h : G n l S w0 L (KH P S w0 Lb os.toArray kt m (Array.replicate m false))) : G n l S w0 L (KC P (.region id os.toArray true) kt) := .mk fun a w hf H => by
 subst hl
 have _ := hb
 exact ⟨wp_region_held hm (by simpa using (h.out a _ hf H.drew).out)⟩
end
section
variable {P : Program} {n : Nat} {l : List (Nat × Value)} {S : List Nat} {w0 : World} {L : List Blk} {K : Act → World → Prop} {k : Kont} {ops : Array Oper} {d : Tmp} {ty : TypeId} {pos : String} {af : Array Edge}
end
theorem h3i {E size : Nat} {v : Value} {n : Nat} {xs : List Value} {e : List Blk} (h : Own E size v n xs e) :
  (v = .slice none 0 0 ∧ n = 0 ∧ xs = [] ∧ e = []) ∨ ∃ g cap cur, v = .slice (some ⟨g, 0, none⟩) n cap ∧ e = [⟨true, g, .cells cur E (0, 0)⟩] ∧ n ≤ cap ∧ cap ≤ maxLen ∧ cur.size = cap * size ∧ cur.toList.take (n * size) = xs := by
 obtain ⟨h1, h | h⟩ := h
 ·obtain ⟨a, b, c⟩ := h
  subst b
  rw [Nat.zero_mul] at h1
  exact .inl ⟨a, rfl, List.eq_nil_of_length_eq_zero h1, c⟩
 ·exact .inr h
theorem h4f {E size n g cap : Nat} {cur : Array Value} {xs : List Value} (h1 : n ≤ cap) (h2 : cap ≤ maxLen) (h3 : cur.size = cap * size) (h4 : cur.toList.take (n * size) = xs) :
  Own E size (.slice (some ⟨g, 0, none⟩) n cap) n xs [⟨true, g, .cells cur E (0, 0)⟩] := by subst h4; exact Own.of_block h1 h2 h3
def letF (c : UInt8) : Bool := decide (97 ≤ c.toNat) && decide (c.toNat ≤ 122)
def digF (c : UInt8) : Bool := decide (48 ≤ c.toNat) && decide (c.toNat ≤ 57)
def witF (c : UInt8) : Bool := letF c || digF c || decide (c = 45) || decide (c = 95) || decide (c = 44)
def prnF (c : UInt8) : Bool := decide (32 < c.toNat) && decide (c.toNat < 127) && !decide (c = 35)
def alnF (c : UInt8) : Bool := letF c || digF c
def sgnF (c : UInt8) : Bool := decide (c = 61) || decide (c = 33) || decide (c = 60) || decide (c = 62) || decide (c = 38)
def blkF (c : UInt8) : Bool := decide (c = 32) || decide (c = 9) || decide (c = 13)
theorem u8_dec (c y : UInt8) : decide (c = y) = decide ((c.toNat : Int) = (y.toNat : Int)) := by
 apply decide_eq_decide.2
 constructor
 ·rintro rfl; rfl
 ·intro e; exact UInt8.toNat.inj (by omega)
theorem letter_c {S w0 L} (c : UInt8) : Fn Tryz.prog 70 #[.int .u8 (c.toNat : Int)] S w0 L fun v L' => v = .bool (letF c) ∧ L = L' := by
 unfold letF
 by_cases h1 : 97 ≤ c.toNat <;> by_cases h2 : c.toNat ≤ 122
 all_goals (try exfalso; omega)
 all_goals
  simp only [h1, h2, decide_true, decide_false, Bool.and_true, Bool.true_and, Bool.false_and, Bool.and_false, Bool.and_self]
  refine Fn1 Tryz.func70 Tryz.ntmps70 rfl rfl ?_
  repeat' (first | refine h0p ?_ | refine h0e ?_ | refine h1h ?_ | (refine gR 0 (p_a (h:=h0d ?_))) | (refine gR 1 (p_m (h:=p_e (by exact q_b (r:=by first | (exact rb_geq_t q_o) | (exact rb_geq_f q_o))) (h:=q_m ?_))) <;> (try refine h0f ?_; (first | refine h3l rfl rfl rfl rfl ?_ | (refine h1x rfl rfl rfl ?_; (refine q_k (h0m rfl) ?_)))) <;> (try refine h0f ?_; (first | refine h3l rfl rfl rfl rfl ?_ | (refine h1x rfl rfl rfl ?_; (refine q_k (by exact q_b (r:=by first | (exact rb_leq_t q_o) | (exact rb_leq_f q_o))) ?_)))) <;> (try refine p_p (h:=p_a (h:=h0d ?_)))))
  (refine h0v Tryz.results70 (.tmp rfl .nil) ?_)
  exact ⟨_, ⟨rfl, rfl⟩, by intro w H; refine H.sub ?_; (try simp only [zzC, zzN]); repeat (exact List.Sublist.refl _)⟩
theorem digit_c {S w0 L} (c : UInt8) : Fn Tryz.prog 73 #[.int .u8 (c.toNat : Int)] S w0 L fun v L' => v = .bool (digF c) ∧ L = L' := by
 unfold digF
 by_cases h1 : 48 ≤ c.toNat <;> by_cases h2 : c.toNat ≤ 57
 all_goals (try exfalso; omega)
 all_goals
  simp only [h1, h2, decide_true, decide_false, Bool.and_true, Bool.true_and, Bool.false_and, Bool.and_false, Bool.and_self]
  refine Fn1 Tryz.func73 Tryz.ntmps73 rfl rfl ?_
  repeat' (first | refine h0p ?_ | refine h0e ?_ | refine h1h ?_ | (refine gR 0 (p_a (h:=h0d ?_))) | (refine gR 1 (p_m (h:=p_e (by exact q_b (r:=by first | (exact rb_geq_t q_o) | (exact rb_geq_f q_o))) (h:=q_m ?_))) <;> (try refine h0f ?_; (first | refine h3l rfl rfl rfl rfl ?_ | (refine h1x rfl rfl rfl ?_; (refine q_k (h0m rfl) ?_)))) <;> (try refine h0f ?_; (first | refine h3l rfl rfl rfl rfl ?_ | (refine h1x rfl rfl rfl ?_; (refine q_k (by exact q_b (r:=by first | (exact rb_leq_t q_o) | (exact rb_leq_f q_o))) ?_)))) <;> (try refine p_p (h:=p_a (h:=h0d ?_)))))
  (refine h0v Tryz.results73 (.tmp rfl .nil) ?_)
  exact ⟨_, ⟨rfl, rfl⟩, by intro w H; refine H.sub ?_; (try simp only [zzC, zzN]); repeat (exact List.Sublist.refl _)⟩
theorem within_c {S w0 L} (c : UInt8) : Fn Tryz.prog 72 #[.int .u8 (c.toNat : Int)] S w0 L fun v L' => v = .bool (witF c) ∧ L = L' := by
 have h1 := fun (L : List Blk) => letter_c (S:=S) (w0:=w0) (L:=L) c
 have h2 := fun (L : List Blk) => digit_c (S:=S) (w0:=w0) (L:=L) c
 unfold witF
 rw [u8_dec c 45, u8_dec c 95, u8_dec c 44]
 have e1 : (((45 : UInt8).toNat : Nat) : Int) = 45 := rfl
 have e2 : (((95 : UInt8).toNat : Nat) : Int) = 95 := rfl
 have e3 : (((44 : UInt8).toNat : Nat) : Int) = 44 := rfl
 rw [e1, e2, e3]
 generalize letF c = b1 at *
 generalize digF c = b2 at *
 have hc := c.toNat_lt
 generalize c.toNat = x at *
 by_cases k1 : (x : Int) = 45
 ·rw [decide_eq_true k1]
  cases b1 <;> cases b2
  all_goals
   simp only [Bool.or_true, Bool.true_or, Bool.or_false, Bool.false_or, Bool.or_self]
   refine Fn1 Tryz.func72 Tryz.ntmps72 rfl rfl ?_
   repeat' (first | refine h0p ?_ | refine h0e ?_ | refine h1h ?_ | (refine gR 0 (p_a (h:=h0d ?_))) | (refine gR 1 (q_m ?_) <;> (try refine h0f ?_; (refine h1k (F:=70) (by kernel_rfl) rfl rfl (h1 _) ?_; rintro _ _ ⟨rfl, rfl⟩)) <;> (try refine q_m ?_) <;> (try refine h0f ?_; (first | refine h3l rfl rfl rfl rfl ?_ | (refine h1x rfl rfl rfl ?_; (refine q_k (h0m rfl) ?_)))) <;> (try refine h0f ?_; (first | refine h3l rfl rfl rfl rfl ?_ | (refine h1x rfl rfl rfl ?_; (refine h1k (F:=73) (by kernel_rfl) rfl rfl (h2 _) ?_; rintro _ _ ⟨rfl, rfl⟩)))) <;> (try refine p_p (h:=q_m ?_)) <;> (try refine h0f ?_; (first | refine h3l rfl rfl rfl rfl ?_ | (refine h1x rfl rfl rfl ?_; (refine q_k (h0m rfl) ?_)))) <;> (try refine h0f ?_; (first | refine h3l rfl rfl rfl rfl ?_ | (refine h1x rfl rfl rfl ?_; (refine q_k (by exact q_b (r:=by refine h1i ?_; first | rfl | (with_reducible assumption) | (decide; done) | omega)) ?_)))) <;> (try refine p_p (h:=p_m (h:=p_z (h:=p_z (h:=p_p (h:=p_m (h:=p_z (h:=p_z (h:=p_p (h:=p_a (h:=h0d ?_)))))))))))))
   (refine h0v Tryz.results72 (.tmp rfl .nil) ?_)
   exact ⟨_, ⟨rfl, rfl⟩, by intro w H; refine H.sub ?_; (try simp only [zzC, zzN]); repeat (exact List.Sublist.refl _)⟩
 ·rw [decide_eq_false k1]
  by_cases k2 : (x : Int) = 95
  ·rw [decide_eq_true k2]
   cases b1 <;> cases b2
   all_goals
    simp only [Bool.or_true, Bool.true_or, Bool.or_false, Bool.false_or, Bool.or_self]
    refine Fn1 Tryz.func72 Tryz.ntmps72 rfl rfl ?_
    repeat' (first | refine h0p ?_ | refine h0e ?_ | refine h1h ?_ | (refine gR 0 (p_a (h:=h0d ?_))) | (refine gR 1 (q_m ?_) <;> (try refine h0f ?_; (refine h1k (F:=70) (by kernel_rfl) rfl rfl (h1 _) ?_; rintro _ _ ⟨rfl, rfl⟩)) <;> (try refine q_m ?_) <;> (try refine h0f ?_; (first | refine h3l rfl rfl rfl rfl ?_ | (refine h1x rfl rfl rfl ?_; (refine q_k (h0m rfl) ?_)))) <;> (try refine h0f ?_; (first | refine h3l rfl rfl rfl rfl ?_ | (refine h1x rfl rfl rfl ?_; (refine h1k (F:=73) (by kernel_rfl) rfl rfl (h2 _) ?_; rintro _ _ ⟨rfl, rfl⟩)))) <;> (try refine p_p (h:=q_m ?_)) <;> (try refine h0f ?_; (first | refine h3l rfl rfl rfl rfl ?_ | (refine h1x rfl rfl rfl ?_; (refine q_k (h0m rfl) ?_)))) <;> (try refine h0f ?_; (first | refine h3l rfl rfl rfl rfl ?_ | (refine h1x rfl rfl rfl ?_; (refine q_k (q_b (r:=by exact h1o q_o)) ?_)))) <;> (try refine p_p (h:=q_m ?_)) <;> (try refine h0f ?_; (first | refine h3l rfl rfl rfl rfl ?_ | (refine h1x rfl rfl rfl ?_; (refine q_k (h0m rfl) ?_)))) <;> (try refine h0f ?_; (first | refine h3l rfl rfl rfl rfl ?_ | (refine h1x rfl rfl rfl ?_; (refine q_k (by exact q_b (r:=by refine h1i ?_; first | rfl | (with_reducible assumption) | (decide; done) | omega)) ?_)))) <;> (try refine p_p (h:=p_m (h:=p_z (h:=p_z (h:=p_p (h:=p_a (h:=h0d ?_)))))))))
    (refine h0v Tryz.results72 (.tmp rfl .nil) ?_)
    exact ⟨_, ⟨rfl, rfl⟩, by intro w H; refine H.sub ?_; (try simp only [zzC, zzN]); repeat (exact List.Sublist.refl _)⟩
  ·rw [decide_eq_false k2]
   cases b1 <;> cases b2
   all_goals
    simp only [Bool.or_true, Bool.true_or, Bool.or_false, Bool.false_or, Bool.or_self]
    refine Fn1 Tryz.func72 Tryz.ntmps72 rfl rfl ?_
    repeat' (first | refine h0p ?_ | refine h0e ?_ | refine h1h ?_ | (refine gR 0 (p_a (h:=h0d ?_))) | (refine gR 1 (q_m ?_) <;> (try refine h0f ?_; (refine h1k (F:=70) (by kernel_rfl) rfl rfl (h1 _) ?_; rintro _ _ ⟨rfl, rfl⟩)) <;> (try refine q_m ?_) <;> (try refine h0f ?_; (first | refine h3l rfl rfl rfl rfl ?_ | (refine h1x rfl rfl rfl ?_; (refine q_k (h0m rfl) ?_)))) <;> (try refine h0f ?_; (first | refine h3l rfl rfl rfl rfl ?_ | (refine h1x rfl rfl rfl ?_; (refine h1k (F:=73) (by kernel_rfl) rfl rfl (h2 _) ?_; rintro _ _ ⟨rfl, rfl⟩)))) <;> (try refine p_p (h:=q_m ?_)) <;> (try refine h0f ?_; (first | refine h3l rfl rfl rfl rfl ?_ | (refine h1x rfl rfl rfl ?_; (refine q_k (h0m rfl) ?_)))) <;> (try refine h0f ?_; (first | refine h3l rfl rfl rfl rfl ?_ | (refine h1x rfl rfl rfl ?_; (refine q_k (q_b (r:=by exact h1o q_o)) ?_)))) <;> (try refine p_p (h:=q_m ?_)) <;> (try refine h0f ?_; (first | refine h3l rfl rfl rfl rfl ?_ | (refine h1x rfl rfl rfl ?_; (refine q_k (h0m rfl) ?_)))) <;> (try refine h0f ?_; (first | refine h3l rfl rfl rfl rfl ?_ | (refine h1x rfl rfl rfl ?_; (refine q_k (q_b (r:=by exact h1o q_o)) ?_)))) <;> (try refine p_p (h:=q_m ?_)) <;> (try refine h0f ?_; (first | refine h3l rfl rfl rfl rfl ?_ | (refine h1x rfl rfl rfl ?_; (refine q_k (h0m rfl) ?_)))) <;> (try refine h0f ?_; (first | refine h3l rfl rfl rfl rfl ?_ | (refine h1x rfl rfl rfl ?_; (refine q_k (q_b (r:=by exact rb_eql)) ?_)))) <;> (try refine p_p (h:=p_a (h:=h0d ?_)))))
    (refine h0v Tryz.results72 (.tmp rfl .nil) ?_)
    exact ⟨_, ⟨rfl, rfl⟩, by intro w H; refine H.sub ?_; (try simp only [zzC, zzN]); repeat (exact List.Sublist.refl _)⟩
theorem printable_c {S w0 L} (c : UInt8) : Fn Tryz.prog 75 #[.int .u8 (c.toNat : Int)] S w0 L fun v L' => v = .bool (prnF c) ∧ L = L' := by
 unfold prnF
 rw [u8_dec c 35]
 have e1 : (((35 : UInt8).toNat : Nat) : Int) = 35 := rfl
 rw [e1]
 have hc := c.toNat_lt
 generalize c.toNat = x at *
 by_cases h1 : 32 < x <;> by_cases h2 : x < 127 <;> by_cases h3 : (x : Int) = 35
 all_goals (try exfalso; omega)
 all_goals
  simp only [h1, h2, h3, decide_true, decide_false, Bool.and_true, Bool.true_and, Bool.false_and, Bool.and_false, Bool.and_self, Bool.not_true, Bool.not_false]
  refine Fn1 Tryz.func75 Tryz.ntmps75 rfl rfl ?_
  repeat' (first | refine h0p ?_ | refine h0e ?_ | refine h1h ?_ | (refine gR 0 (p_a (h:=h0d ?_))) | (refine gR 1 (p_m (h:=p_e (by exact q_b (r:=by first | (exact h1y q_o) | (exact h2f q_o))) (h:=q_m ?_))) <;> (try refine h0f ?_; (first | refine h3l rfl rfl rfl rfl ?_ | (refine h1x rfl rfl rfl ?_; (refine q_k (h0m rfl) ?_)))) <;> (try refine h0f ?_; (first | refine h3l rfl rfl rfl rfl ?_ | (refine h1x rfl rfl rfl ?_; (refine q_k (by exact q_b (r:=by first | (exact h1d q_o) | (exact h1j q_o))) ?_)))) <;> (try refine p_p (h:=q_m ?_)) <;> (try refine h0f ?_; (first | refine h3l rfl rfl rfl rfl ?_ | (refine h1x rfl rfl rfl ?_; (refine q_k (h0m rfl) ?_)))) <;> (try refine h0f ?_; (first | refine h3l rfl rfl rfl rfl ?_ | (refine h1x rfl rfl rfl ?_; (refine q_k (by exact q_b (r:=by first | (refine h3o ?_; first | rfl | (with_reducible assumption) | (decide; done) | omega) | (exact h3v q_o))) ?_)))) <;> (try refine p_p (h:=p_a (h:=h0d ?_)))))
  (refine h0v Tryz.results75 (.tmp rfl .nil) ?_)
  exact ⟨_, ⟨rfl, rfl⟩, by intro w H; refine H.sub ?_; (try simp only [zzC, zzN]); repeat (exact List.Sublist.refl _)⟩
theorem alnum_c {S w0 L} (c : UInt8) : Fn Tryz.prog 74 #[.int .u8 (c.toNat : Int)] S w0 L fun v L' => v = .bool (alnF c) ∧ L = L' := by
 have h1 := fun (L : List Blk) => letter_c (S:=S) (w0:=w0) (L:=L) c
 have h2 := fun (L : List Blk) => digit_c (S:=S) (w0:=w0) (L:=L) c
 unfold alnF
 generalize letF c = b1 at *
 generalize digF c = b2 at *
 cases b1 <;> cases b2
 all_goals
  simp only [Bool.or_true, Bool.true_or, Bool.or_false, Bool.false_or, Bool.or_self]
  refine Fn1 Tryz.func74 Tryz.ntmps74 rfl rfl ?_
  repeat' (first | refine h0p ?_ | refine h0e ?_ | refine h1h ?_ | (refine gR 0 (p_a (h:=h0d ?_))) | (refine gR 1 (q_m ?_) <;> (try refine h0f ?_; (refine h1k (F:=70) (by kernel_rfl) rfl rfl (h1 _) ?_; rintro _ _ ⟨rfl, rfl⟩)) <;> (try refine q_m ?_) <;> (try refine h0f ?_; (first | refine h3l rfl rfl rfl rfl ?_ | (refine h1x rfl rfl rfl ?_; (refine q_k (h0m rfl) ?_)))) <;> (try refine h0f ?_; (first | refine h3l rfl rfl rfl rfl ?_ | (refine h1x rfl rfl rfl ?_; (refine h1k (F:=73) (by kernel_rfl) rfl rfl (h2 _) ?_; rintro _ _ ⟨rfl, rfl⟩)))) <;> (try refine p_p (h:=p_a (h:=h0d ?_)))))
  (refine h0v Tryz.results74 (.tmp rfl .nil) ?_)
  exact ⟨_, ⟨rfl, rfl⟩, by intro w H; refine H.sub ?_; (try simp only [zzC, zzN]); repeat (exact List.Sublist.refl _)⟩
def DSG : ByteArray := ⟨#[61, 33, 60, 62, 38]⟩
theorem ixsg (c : UInt8) : decide (0 ≤ Lib.indexByte (lB DSG) c) = sgnF c := fin_u8 (p:=fun c => decide (0 ≤ Lib.indexByte (lB DSG) c) = sgnF c) (by decide +kernel) c
theorem sign_c {S w0 L} (c : UInt8) : Fn Tryz.prog 76 #[.int .u8 (c.toNat : Int)] S w0 L fun v L' => v = .bool (sgnF c) ∧ L = L' := by
 have h1 := fun (L : List Blk) => ixb_c (S:=S) (w0:=w0) (L:=L) DSG c
 rw [← ixsg]
 unfold DSG at *
 refine Fn1 Tryz.func76 Tryz.ntmps76 rfl rfl ?_
 repeat' (first | refine h0p ?_ | refine h0e ?_ | refine h1h ?_ | (refine gR 0 (p_a (h:=h0d ?_))) | (refine gR 1 (q_m ?_) <;> (try refine h0f ?_; (refine h1k (F:=77) (by kernel_rfl) rfl rfl (h1 _) ?_; rintro _ _ ⟨rfl, rfl⟩)) <;> (try refine p_e (q_b (r:=by exact rb_geq)) (h:=p_a (h:=h0d ?_)))))
 all_goals
  (refine h0v Tryz.results76 (.tmp rfl .nil) ?_)
  exact ⟨_, ⟨rfl, rfl⟩, by intro w H; refine H.sub ?_; (try simp only [zzC, zzN]); repeat (exact List.Sublist.refl _)⟩
def wl (p : UInt8 → Bool) (l : List UInt8) : Nat := (l.takeWhile p).length
theorem wl_nil (p : UInt8 → Bool) : wl p [] = 0 := rfl
theorem wl_yes {p : UInt8 → Bool} {c : UInt8} (r : List UInt8) (h : p c = true) : wl p (c :: r) = wl p r + 1 := by simp [wl, List.takeWhile, h]
theorem wl_no {p : UInt8 → Bool} {c : UInt8} (r : List UInt8) (h : p c = false) : wl p (c :: r) = 0 := by simp [wl, List.takeWhile, h]
theorem wl_le (p : UInt8 → Bool) (l : List UInt8) : wl p l ≤ l.length := (List.takeWhile_sublist p).length_le
abbrev lxB (b : Nat) (s : ByteArray) (at_ line : Nat) (v w1 w2 w3 : Value) : Blk := ⟨true, b, .cells [.string s, .int .i64 (at_ : Nat), .int .i64 (line : Nat), v, w1, w2, w3].toArray 163 (0, 0)⟩
structure WhI (s : ByteArray) (p : UInt8 → Bool) (a0 : Nat) (a : Nat) : Prop where
 le : a ≤ s.size
 eq : a0 + wl p ((lB s).drop a0) = a + wl p ((lB s).drop a)
set_option maxHeartbeats 2000000 in
theorem while_c {S w0 L} {F : FuncId} (p : UInt8 → Bool) (hfn : (Tryz.prog.funcs[F]?).map (fun fn => (fn.name == "runtime.NumGoroutine", fn.body.isNone)) = some (false, false)) (hF : ∀ (c : UInt8) (L : List Blk), Fn Tryz.prog F #[.int .u8 (c.toNat : Int)] S w0 L fun v L' => v = .bool (p c) ∧ L = L')
  (b a0 line : Nat) (s : ByteArray) (v w1 w2 w3 : Value) (hs : s.size ≤ 1000000) (ha : a0 ≤ s.size) :
  Fn Tryz.prog 71 #[.pointer (some ⟨b, 0, none⟩), .func (.func F) #[] #[]] S w0 (lxB b s a0 line v w1 w2 w3 :: L) fun r L' => r = .tuple #[] ∧ lxB b s (a0 + wl p ((lB s).drop a0)) line v w1 w2 w3 :: L = L' := by
 refine Fn2 Tryz.func71 Tryz.ntmps71 rfl rfl ?_
 refine h0r ?_
 refine h2s (γ:=Nat) (WhI s p a0) (fun a => s.size - a) (fun _ => []) [(0, _), (1, _)]
  (fun a => lxB b s a line v w1 w2 w3 :: L) a0 (.cons rfl (.cons rfl .nil)) ⟨ha, rfl⟩ (by (focus (repeat (exact Sub.nil)))) (fun _ H => H) ?_
 rintro a ⟨hle, he⟩
 have he' := Lib.hid he
 clear he
 by_cases hlt : a < s.size
 ·obtain ⟨x, hx, hxd⟩ := ba_at hlt
  have hxi : s[((a : Nat) : Int).toNat]? = some x := by rw [Int.toNat_natCast]; exact hx
  have hFx := hF x
  have hxd' := Lib.hid hxd
  clear hxd
  cases hp : p x
  ·rw [hp] at hFx
   have hp' := Lib.hid hp
   clear hp
   repeat' (first | refine h0p ?_ | refine h0e ?_ | refine h1u ?_ | refine h1n ?_ | refine h1v ?_ | refine h2o ?_ | refine h0h rfl ?_ | ((refine h2q (id:=0) (m:=23) (by kernel_rfl) rfl (q_u 0 (x:=by exact h0m rfl) (h:=q_u 1 (x:=by exact h0l rfl) (h:=q_u 2 (x:=by exact q_f h3k) (h:=q_u 3 (x:=by exact q_l) (h:=q_u 4 (x:=by exact h0m rfl) (h:=q_u 5 (x:=by exact h0l rfl) (h:=q_u 6 (x:=by exact q_f h3x) (h:=q_u 7 (x:=by exact q_l) (h:=q_u 8 (x:=by exact h0g rfl (fun _ => BigFrame.builtin_len ..) (h0q Tryz.underlying9)) (h:=q_u 9 (x:=by exact q_b (r:=by exact h1d q_o)) (h:=q_u 10 (x:=by exact h0m rfl) (h:=q_T 11 (e:=(fun _ H => H)) (x:=by exact h0m rfl) (h:=q_T 12 (e:=(fun _ H => H)) (x:=by exact h0m rfl) (h:=q_T 13 (e:=(fun _ H => H)) (x:=by exact h0l rfl) (h:=q_T 14 (e:=(fun _ H => H)) (x:=by exact q_f h3x) (h:=q_T 15 (e:=(fun _ H => H)) (x:=by exact q_l) (h:=q_T 16 (e:=(fun _ H => H)) (x:=by exact h0m rfl) (h:=q_T 17 (e:=(fun _ H => H)) (x:=by exact h0l rfl) (h:=q_T 18 (e:=(fun _ H => H)) (x:=by exact q_f h3k) (h:=q_T 19 (e:=(fun _ H => H)) (x:=by exact q_l) (h:=q_T 20 (e:=(fun _ H => H)) (x:=by apply h2n; exact rfl; exact rfl; (focus (apply h3h Tryz.underlying9; omega; (with_reducible assumption)))) (h:=?_))))))))))))))))))))))) <;> (try refine q_r 21 ?_; (refine h1x rfl rfl rfl ?_; (refine K1_callv0 (F:=F) hfn rfl rfl rfl (hFx _) ?_; rintro _ _ ⟨rfl, rfl⟩)); refine h1g (fun _ H => H) ?_) <;> (try refine q_u 22 (x:=by exact h5k rfl rfl) (h:=h1e (by kernel_rfl) ?_))))
   (first | refine h0v Tryz.results71 .nil ?_ | refine h2w Tryz.results71 .nil ?_)
   refine ⟨_, ⟨rfl, rfl⟩, ?_⟩
   rw [he'.out, hxd'.out, wl_no _ hp'.out, Nat.add_zero]
   exact fun _ H => H
  ·rw [hp] at hFx
   have hp' := Lib.hid hp
   clear hp
   repeat' (first | refine h0p ?_ | refine h0e ?_ | refine h0t ?_ | refine h0x ?_ | refine h0r ?_ | refine h0u ?_ | refine h0j rfl ?_ | ((refine h2q (id:=0) (m:=23) (by kernel_rfl) rfl (q_u 0 (x:=by exact h0m rfl) (h:=q_u 1 (x:=by exact h0l rfl) (h:=q_u 2 (x:=by exact q_f h3k) (h:=q_u 3 (x:=by exact q_l) (h:=q_u 4 (x:=by exact h0m rfl) (h:=q_u 5 (x:=by exact h0l rfl) (h:=q_u 6 (x:=by exact q_f h3x) (h:=q_u 7 (x:=by exact q_l) (h:=q_u 8 (x:=by exact h0g rfl (fun _ => BigFrame.builtin_len ..) (h0q Tryz.underlying9)) (h:=q_u 9 (x:=by exact q_b (r:=by exact h1d q_o)) (h:=q_u 10 (x:=by exact h0m rfl) (h:=q_T 11 (e:=(fun _ H => H)) (x:=by exact h0m rfl) (h:=q_T 12 (e:=(fun _ H => H)) (x:=by exact h0m rfl) (h:=q_T 13 (e:=(fun _ H => H)) (x:=by exact h0l rfl) (h:=q_T 14 (e:=(fun _ H => H)) (x:=by exact q_f h3x) (h:=q_T 15 (e:=(fun _ H => H)) (x:=by exact q_l) (h:=q_T 16 (e:=(fun _ H => H)) (x:=by exact h0m rfl) (h:=q_T 17 (e:=(fun _ H => H)) (x:=by exact h0l rfl) (h:=q_T 18 (e:=(fun _ H => H)) (x:=by exact q_f h3k) (h:=q_T 19 (e:=(fun _ H => H)) (x:=by exact q_l) (h:=q_T 20 (e:=(fun _ H => H)) (x:=by apply h2n; exact rfl; exact rfl; (focus (apply h3h Tryz.underlying9; omega; (with_reducible assumption)))) (h:=?_))))))))))))))))))))))) <;> (try refine q_r 21 ?_; (refine h1x rfl rfl rfl ?_; (refine K1_callv0 (F:=F) hfn rfl rfl rfl (hFx _) ?_; rintro _ _ ⟨rfl, rfl⟩)); refine h1g (fun _ H => H) ?_) <;> (try refine q_u 22 (x:=by exact h5k rfl rfl) (h:=h1e (by kernel_rfl) ?_))) | (refine gR 1 (p_m (h:=p_n (h:=p_e (q_f h3k) (h:=q_e q_l ?_)))) <;> (try refine q_e (q_b (r:=by apply h1r; exact c_5; (focus (refine IntWalk.i64_in _ ?_; omega)))) ?_) <;> (try refine p_n (h:=q_e (q_f h3k) ?_)) <;> (try refine h0f ?_; (refine q_S ?_)) <;> (try refine h0d ?_)))
   refine h0w (a + 1) ⟨⟨by omega, ?_⟩, by omega⟩ (by (focus (repeat (first | exact Sub.nil | refine Sub.cons rfl ?_)))) (fun _ H => H)
   rw [he'.out, hxd'.out, wl_yes _ hp'.out]
   omega
 ·obtain rfl : a = s.size := by omega
  repeat' (first | refine h0p ?_ | refine h0e ?_ | refine h1u ?_ | refine h1n ?_ | refine h1v ?_ | refine h2o ?_ | refine h0h rfl ?_ | ((refine h2q (id:=0) (m:=23) (by kernel_rfl) rfl (q_u 0 (x:=by exact h0m rfl) (h:=q_u 1 (x:=by exact h0l rfl) (h:=q_u 2 (x:=by exact q_f h3k) (h:=q_u 3 (x:=by exact q_l) (h:=q_u 4 (x:=by exact h0m rfl) (h:=q_u 5 (x:=by exact h0l rfl) (h:=q_u 6 (x:=by exact q_f h3x) (h:=q_u 7 (x:=by exact q_l) (h:=q_u 8 (x:=by exact h0g rfl (fun _ => BigFrame.builtin_len ..) (h0q Tryz.underlying9)) (h:=q_u 9 (x:=by exact q_b (r:=by exact h1j q_o)) (h:=q_u 10 (x:=by exact h0m rfl) (h:=?_))))))))))))) <;> (try apply h2e (i:=11); exact rfl; kernel_rfl; kernel_rfl; kernel_rfl; exact rfl; (exact fun _ H => H); exact Y_no rfl rfl rfl) <;> (try apply h2e (i:=12); exact rfl; kernel_rfl; kernel_rfl; kernel_rfl; exact rfl; (exact fun _ H => H); exact Y_no rfl rfl rfl) <;> (try apply h2e (i:=13); exact rfl; kernel_rfl; kernel_rfl; kernel_rfl; exact rfl; (exact fun _ H => H); exact Y_no rfl rfl rfl) <;> (try apply h2e (i:=14); exact rfl; kernel_rfl; kernel_rfl; kernel_rfl; exact rfl; (exact fun _ H => H); exact Y_no rfl rfl rfl) <;> (try apply h2e (i:=15); exact rfl; kernel_rfl; kernel_rfl; kernel_rfl; exact rfl; (exact fun _ H => H); exact Y_no rfl rfl rfl) <;> (try apply h2e (i:=16); exact rfl; kernel_rfl; kernel_rfl; kernel_rfl; exact rfl; (exact fun _ H => H); exact Y_no rfl rfl rfl) <;> (try apply h2e (i:=17); exact rfl; kernel_rfl; kernel_rfl; kernel_rfl; exact rfl; (exact fun _ H => H); exact Y_no rfl rfl rfl) <;> (try apply h2e (i:=18); exact rfl; kernel_rfl; kernel_rfl; kernel_rfl; exact rfl; (exact fun _ H => H); exact Y_no rfl rfl rfl) <;> (try apply h2e (i:=19); exact rfl; kernel_rfl; kernel_rfl; kernel_rfl; exact rfl; (exact fun _ H => H); exact Y_no rfl rfl rfl) <;> (try apply h2e (i:=20); exact rfl; kernel_rfl; kernel_rfl; kernel_rfl; exact rfl; (exact fun _ H => H); exact Y_no rfl rfl rfl) <;> (try refine q_r 21 ?_; (refine h3l rfl rfl rfl rfl ?_); refine h1g (fun _ H => H) ?_) <;> (try refine q_u 22 (x:=by exact h5k rfl rfl) (h:=h1e (by kernel_rfl) ?_))))
  (first | refine h0v Tryz.results71 .nil ?_ | refine h2w Tryz.results71 .nil ?_)
  refine ⟨_, ⟨rfl, rfl⟩, ?_⟩
  rw [he'.out, List.drop_eq_nil_of_le (by rw [h3d]; exact Nat.le_refl _), wl_nil, Nat.add_zero]
  exact fun _ H => H
end Go.Proofs.YtecbgehooembmaaGreatDoor
