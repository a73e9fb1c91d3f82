/- Sizes and zero values of the types that the walks name. Conditions: none. -/
import Derived.Test.YtcimcihhpkedfaaRows
import Derived.Test.YtcimcihhpkedfaaGl3
namespace Go.Proofs.Ytcimcihhpkedfaa
open Go Go.RowKit
theorem sz_2 : (Try.prog.info? 2).map (·.size) = some 1 := by kernel_rfl
theorem sz_3 : (Try.prog.info? 3).map (·.size) = some 1 := by kernel_rfl
theorem sz_4 : (Try.prog.info? 4).map (·.size) = some 1 := by kernel_rfl
theorem sz_5 : (Try.prog.info? 5).map (·.size) = some 1 := by kernel_rfl
theorem sz_6 : (Try.prog.info? 6).map (·.size) = some 1 := by kernel_rfl
theorem sz_7 : (Try.prog.info? 7).map (·.size) = some 4 := by kernel_rfl
theorem sz_8 : (Try.prog.info? 8).map (·.size) = some 4 := by kernel_rfl
theorem sz_9 : (Try.prog.info? 9).map (·.size) = some 1 := by kernel_rfl
theorem sz_10 : (Try.prog.info? 10).map (·.size) = some 1 := by kernel_rfl
theorem sz_11 : (Try.prog.info? 11).map (·.size) = some 1 := by kernel_rfl
theorem sz_12 : (Try.prog.info? 12).map (·.size) = some 1 := by kernel_rfl
theorem sz_13 : (Try.prog.info? 13).map (·.size) = some 2 := by kernel_rfl
theorem sz_14 : (Try.prog.info? 14).map (·.size) = some 2 := by kernel_rfl
theorem sz_15 : (Try.prog.info? 15).map (·.size) = some 1 := by kernel_rfl
theorem sz_16 : (Try.prog.info? 16).map (·.size) = some 1 := by kernel_rfl
theorem sz_17 : (Try.prog.info? 17).map (·.size) = some 1 := by kernel_rfl
theorem sz_18 : (Try.prog.info? 18).map (·.size) = some 1 := by kernel_rfl
theorem sz_19 : (Try.prog.info? 19).map (·.size) = some 1 := by kernel_rfl
theorem sz_20 : (Try.prog.info? 20).map (·.size) = some 1 := by kernel_rfl
theorem sz_21 : (Try.prog.info? 21).map (·.size) = some 1 := by kernel_rfl
theorem sz_22 : (Try.prog.info? 22).map (·.size) = some 1 := by kernel_rfl
theorem sz_24 : (Try.prog.info? 24).map (·.size) = some 1 := by kernel_rfl
theorem sz_25 : (Try.prog.info? 25).map (·.size) = some 1 := by kernel_rfl
theorem sz_26 : (Try.prog.info? 26).map (·.size) = some 4 := by kernel_rfl
theorem sz_27 : (Try.prog.info? 27).map (·.size) = some 4 := by kernel_rfl
theorem sz_29 : (Try.prog.info? 29).map (·.size) = some 1 := by kernel_rfl
theorem sz_30 : (Try.prog.info? 30).map (·.size) = some 2 := by kernel_rfl
theorem sz_31 : (Try.prog.info? 31).map (·.size) = some 2 := by kernel_rfl
theorem sz_36 : (Try.prog.info? 36).map (·.size) = some 1 := by kernel_rfl
theorem sz_41 : (Try.prog.info? 41).map (·.size) = some 1 := by kernel_rfl
theorem sz_43 : (Try.prog.info? 43).map (·.size) = some 8 := by kernel_rfl
theorem sz_44 : (Try.prog.info? 44).map (·.size) = some 8 := by kernel_rfl
theorem sz_46 : (Try.prog.info? 46).map (·.size) = some 1 := by kernel_rfl
theorem sz_49 : (Try.prog.info? 49).map (·.size) = some 1 := by kernel_rfl
theorem sz_50 : (Try.prog.info? 50).map (·.size) = some 1 := by kernel_rfl
theorem sz_54 : (Try.prog.info? 54).map (·.size) = some 1 := by kernel_rfl
theorem sz_57 : (Try.prog.info? 57).map (·.size) = some 1 := by kernel_rfl
theorem sz_58 : (Try.prog.info? 58).map (·.size) = some 6 := by kernel_rfl
theorem sz_59 : (Try.prog.info? 59).map (·.size) = some 9 := by kernel_rfl
theorem sz_60 : (Try.prog.info? 60).map (·.size) = some 9 := by kernel_rfl
theorem sz_62 : (Try.prog.info? 62).map (·.size) = some 1 := by kernel_rfl
theorem sz_69 : (Try.prog.info? 69).map (·.size) = some 1 := by kernel_rfl
theorem sz_70 : (Try.prog.info? 70).map (·.size) = some 1 := by kernel_rfl
theorem sz_72 : (Try.prog.info? 72).map (·.size) = some 3 := by kernel_rfl
theorem sz_73 : (Try.prog.info? 73).map (·.size) = some 3 := by kernel_rfl
theorem sz_74 : (Try.prog.info? 74).map (·.size) = some 1 := by kernel_rfl
theorem sz_76 : (Try.prog.info? 76).map (·.size) = some 4 := by kernel_rfl
theorem sz_77 : (Try.prog.info? 77).map (·.size) = some 4 := by kernel_rfl
theorem sz_84 : (Try.prog.info? 84).map (·.size) = some 1 := by kernel_rfl
theorem sz_86 : (Try.prog.info? 86).map (·.size) = some 16 := by kernel_rfl
theorem sz_87 : (Try.prog.info? 87).map (·.size) = some 16 := by kernel_rfl
theorem sz_90 : (Try.prog.info? 90).map (·.size) = some 1 := by kernel_rfl
theorem sz_97 : (Try.prog.info? 97).map (·.size) = some 9 := by kernel_rfl
theorem sz_98 : (Try.prog.info? 98).map (·.size) = some 9 := by kernel_rfl
theorem sz_100 : (Try.prog.info? 100).map (·.size) = some 1 := by kernel_rfl
theorem sz_103 : (Try.prog.info? 103).map (·.size) = some 0 := by kernel_rfl
theorem sz_104 : (Try.prog.info? 104).map (·.size) = some 0 := by kernel_rfl
theorem sz_105 : (Try.prog.info? 105).map (·.size) = some 0 := by kernel_rfl
theorem sz_106 : (Try.prog.info? 106).map (·.size) = some 1 := by kernel_rfl
theorem sz_107 : (Try.prog.info? 107).map (·.size) = some 1 := by kernel_rfl
theorem sz_108 : (Try.prog.info? 108).map (·.size) = some 3 := by kernel_rfl
theorem sz_109 : (Try.prog.info? 109).map (·.size) = some 3 := by kernel_rfl
theorem sz_110 : (Try.prog.info? 110).map (·.size) = some 30 := by kernel_rfl
theorem sz_111 : (Try.prog.info? 111).map (·.size) = some 30 := by kernel_rfl
theorem sz_115 : (Try.prog.info? 115).map (·.size) = some 64 := by kernel_rfl
theorem sz_118 : (Try.prog.info? 118).map (·.size) = some 1 := by kernel_rfl
theorem sz_127 : (Try.prog.info? 127).map (·.size) = some 1 := by kernel_rfl
theorem sz_129 : (Try.prog.info? 129).map (·.size) = some 1 := by kernel_rfl
theorem sz_131 : (Try.prog.info? 131).map (·.size) = some 1 := by kernel_rfl
theorem sz_137 : (Try.prog.info? 137).map (·.size) = some 4 := by kernel_rfl
theorem sz_138 : (Try.prog.info? 138).map (·.size) = some 4 := by kernel_rfl
theorem sz_139 : (Try.prog.info? 139).map (·.size) = some 0 := by kernel_rfl
theorem sz_140 : (Try.prog.info? 140).map (·.size) = some 0 := by kernel_rfl
theorem sz_141 : (Try.prog.info? 141).map (·.size) = some 0 := by kernel_rfl
theorem sz_142 : (Try.prog.info? 142).map (·.size) = some 1 := by kernel_rfl
theorem sz_143 : (Try.prog.info? 143).map (·.size) = some 1 := by kernel_rfl
theorem sz_145 : (Try.prog.info? 145).map (·.size) = some 1 := by kernel_rfl
theorem sz_146 : (Try.prog.info? 146).map (·.size) = some 1 := by kernel_rfl
theorem sz_147 : (Try.prog.info? 147).map (·.size) = some 1 := by kernel_rfl
theorem sz_148 : (Try.prog.info? 148).map (·.size) = some 11 := by kernel_rfl
theorem sz_149 : (Try.prog.info? 149).map (·.size) = some 11 := by kernel_rfl
theorem sz_151 : (Try.prog.info? 151).map (·.size) = some 1 := by kernel_rfl
theorem sz_152 : (Try.prog.info? 152).map (·.size) = some 8 := by kernel_rfl
theorem fo_7_0 : FldOff Try.prog 7 0 0 := .of Try.underlying7 rfl (by kernel_rfl) rfl
theorem fo_7_1 : FldOff Try.prog 7 1 1 := .of Try.underlying7 rfl (by kernel_rfl) rfl
theorem fo_7_2 : FldOff Try.prog 7 2 2 := .of Try.underlying7 rfl (by kernel_rfl) rfl
theorem fo_7_3 : FldOff Try.prog 7 3 3 := .of Try.underlying7 rfl (by kernel_rfl) rfl
theorem fo_8_0 : FldOff Try.prog 8 0 0 := .of Try.underlying8 rfl (by kernel_rfl) rfl
theorem fo_8_1 : FldOff Try.prog 8 1 1 := .of Try.underlying8 rfl (by kernel_rfl) rfl
theorem fo_8_2 : FldOff Try.prog 8 2 2 := .of Try.underlying8 rfl (by kernel_rfl) rfl
theorem fo_8_3 : FldOff Try.prog 8 3 3 := .of Try.underlying8 rfl (by kernel_rfl) rfl
theorem fo_13_0 : FldOff Try.prog 13 0 0 := .of Try.underlying13 rfl (by kernel_rfl) rfl
theorem fo_13_1 : FldOff Try.prog 13 1 1 := .of Try.underlying13 rfl (by kernel_rfl) rfl
theorem fo_14_0 : FldOff Try.prog 14 0 0 := .of Try.underlying14 rfl (by kernel_rfl) rfl
theorem fo_14_1 : FldOff Try.prog 14 1 1 := .of Try.underlying14 rfl (by kernel_rfl) rfl
theorem fo_18_0 : FldOff Try.prog 18 0 0 := .of Try.underlying18 rfl (by kernel_rfl) rfl
theorem fo_19_0 : FldOff Try.prog 19 0 0 := .of Try.underlying19 rfl (by kernel_rfl) rfl
theorem fo_26_0 : FldOff Try.prog 26 0 0 := .of Try.underlying26 rfl (by kernel_rfl) rfl
theorem fo_26_1 : FldOff Try.prog 26 1 1 := .of Try.underlying26 rfl (by kernel_rfl) rfl
theorem fo_26_2 : FldOff Try.prog 26 2 2 := .of Try.underlying26 rfl (by kernel_rfl) rfl
theorem fo_26_3 : FldOff Try.prog 26 3 3 := .of Try.underlying26 rfl (by kernel_rfl) rfl
theorem fo_27_0 : FldOff Try.prog 27 0 0 := .of Try.underlying27 rfl (by kernel_rfl) rfl
theorem fo_27_1 : FldOff Try.prog 27 1 1 := .of Try.underlying27 rfl (by kernel_rfl) rfl
theorem fo_27_2 : FldOff Try.prog 27 2 2 := .of Try.underlying27 rfl (by kernel_rfl) rfl
theorem fo_27_3 : FldOff Try.prog 27 3 3 := .of Try.underlying27 rfl (by kernel_rfl) rfl
theorem fo_30_0 : FldOff Try.prog 30 0 0 := .of Try.underlying30 rfl (by kernel_rfl) rfl
theorem fo_30_1 : FldOff Try.prog 30 1 1 := .of Try.underlying30 rfl (by kernel_rfl) rfl
theorem fo_31_0 : FldOff Try.prog 31 0 0 := .of Try.underlying31 rfl (by kernel_rfl) rfl
theorem fo_31_1 : FldOff Try.prog 31 1 1 := .of Try.underlying31 rfl (by kernel_rfl) rfl
theorem fo_59_0 : FldOff Try.prog 59 0 0 := .of Try.underlying59 rfl (by kernel_rfl) rfl
theorem fo_59_1 : FldOff Try.prog 59 1 1 := .of Try.underlying59 rfl (by kernel_rfl) rfl
theorem fo_59_2 : FldOff Try.prog 59 2 2 := .of Try.underlying59 rfl (by kernel_rfl) rfl
theorem fo_59_3 : FldOff Try.prog 59 3 3 := .of Try.underlying59 rfl (by kernel_rfl) rfl
theorem fo_60_0 : FldOff Try.prog 60 0 0 := .of Try.underlying60 rfl (by kernel_rfl) rfl
theorem fo_60_1 : FldOff Try.prog 60 1 1 := .of Try.underlying60 rfl (by kernel_rfl) rfl
theorem fo_60_2 : FldOff Try.prog 60 2 2 := .of Try.underlying60 rfl (by kernel_rfl) rfl
theorem fo_60_3 : FldOff Try.prog 60 3 3 := .of Try.underlying60 rfl (by kernel_rfl) rfl
theorem fo_72_0 : FldOff Try.prog 72 0 0 := .of Try.underlying72 rfl (by kernel_rfl) rfl
theorem fo_72_1 : FldOff Try.prog 72 1 1 := .of Try.underlying72 rfl (by kernel_rfl) rfl
theorem fo_72_2 : FldOff Try.prog 72 2 2 := .of Try.underlying72 rfl (by kernel_rfl) rfl
theorem fo_73_0 : FldOff Try.prog 73 0 0 := .of Try.underlying73 rfl (by kernel_rfl) rfl
theorem fo_73_1 : FldOff Try.prog 73 1 1 := .of Try.underlying73 rfl (by kernel_rfl) rfl
theorem fo_73_2 : FldOff Try.prog 73 2 2 := .of Try.underlying73 rfl (by kernel_rfl) rfl
theorem fo_76_0 : FldOff Try.prog 76 0 0 := .of Try.underlying76 rfl (by kernel_rfl) rfl
theorem fo_76_1 : FldOff Try.prog 76 1 1 := .of Try.underlying76 rfl (by kernel_rfl) rfl
theorem fo_76_2 : FldOff Try.prog 76 2 2 := .of Try.underlying76 rfl (by kernel_rfl) rfl
theorem fo_76_3 : FldOff Try.prog 76 3 3 := .of Try.underlying76 rfl (by kernel_rfl) rfl
theorem fo_77_0 : FldOff Try.prog 77 0 0 := .of Try.underlying77 rfl (by kernel_rfl) rfl
theorem fo_77_1 : FldOff Try.prog 77 1 1 := .of Try.underlying77 rfl (by kernel_rfl) rfl
theorem fo_77_2 : FldOff Try.prog 77 2 2 := .of Try.underlying77 rfl (by kernel_rfl) rfl
theorem fo_77_3 : FldOff Try.prog 77 3 3 := .of Try.underlying77 rfl (by kernel_rfl) rfl
theorem fo_97_0 : FldOff Try.prog 97 0 0 := .of Try.underlying97 rfl (by kernel_rfl) rfl
theorem fo_97_1 : FldOff Try.prog 97 1 1 := .of Try.underlying97 rfl (by kernel_rfl) rfl
theorem fo_97_2 : FldOff Try.prog 97 2 2 := .of Try.underlying97 rfl (by kernel_rfl) rfl
theorem fo_97_3 : FldOff Try.prog 97 3 3 := .of Try.underlying97 rfl (by kernel_rfl) rfl
theorem fo_97_4 : FldOff Try.prog 97 4 4 := .of Try.underlying97 rfl (by kernel_rfl) rfl
theorem fo_97_5 : FldOff Try.prog 97 5 8 := .of Try.underlying97 rfl (by kernel_rfl) rfl
theorem fo_98_0 : FldOff Try.prog 98 0 0 := .of Try.underlying98 rfl (by kernel_rfl) rfl
theorem fo_98_1 : FldOff Try.prog 98 1 1 := .of Try.underlying98 rfl (by kernel_rfl) rfl
theorem fo_98_2 : FldOff Try.prog 98 2 2 := .of Try.underlying98 rfl (by kernel_rfl) rfl
theorem fo_98_3 : FldOff Try.prog 98 3 3 := .of Try.underlying98 rfl (by kernel_rfl) rfl
theorem fo_98_4 : FldOff Try.prog 98 4 4 := .of Try.underlying98 rfl (by kernel_rfl) rfl
theorem fo_98_5 : FldOff Try.prog 98 5 8 := .of Try.underlying98 rfl (by kernel_rfl) rfl
theorem fo_106_2 : FldOff Try.prog 106 2 0 := .of Try.underlying106 rfl (by kernel_rfl) rfl
theorem fo_107_2 : FldOff Try.prog 107 2 0 := .of Try.underlying107 rfl (by kernel_rfl) rfl
theorem fo_108_0 : FldOff Try.prog 108 0 0 := .of Try.underlying108 rfl (by kernel_rfl) rfl
theorem fo_108_1 : FldOff Try.prog 108 1 1 := .of Try.underlying108 rfl (by kernel_rfl) rfl
theorem fo_108_2 : FldOff Try.prog 108 2 2 := .of Try.underlying108 rfl (by kernel_rfl) rfl
theorem fo_109_0 : FldOff Try.prog 109 0 0 := .of Try.underlying109 rfl (by kernel_rfl) rfl
theorem fo_109_1 : FldOff Try.prog 109 1 1 := .of Try.underlying109 rfl (by kernel_rfl) rfl
theorem fo_109_2 : FldOff Try.prog 109 2 2 := .of Try.underlying109 rfl (by kernel_rfl) rfl
theorem fo_110_0 : FldOff Try.prog 110 0 0 := .of Try.underlying110 rfl (by kernel_rfl) rfl
theorem fo_110_1 : FldOff Try.prog 110 1 1 := .of Try.underlying110 rfl (by kernel_rfl) rfl
theorem fo_110_2 : FldOff Try.prog 110 2 2 := .of Try.underlying110 rfl (by kernel_rfl) rfl
theorem fo_110_3 : FldOff Try.prog 110 3 18 := .of Try.underlying110 rfl (by kernel_rfl) rfl
theorem fo_110_4 : FldOff Try.prog 110 4 19 := .of Try.underlying110 rfl (by kernel_rfl) rfl
theorem fo_110_5 : FldOff Try.prog 110 5 28 := .of Try.underlying110 rfl (by kernel_rfl) rfl
theorem fo_110_6 : FldOff Try.prog 110 6 29 := .of Try.underlying110 rfl (by kernel_rfl) rfl
theorem fo_111_0 : FldOff Try.prog 111 0 0 := .of Try.underlying111 rfl (by kernel_rfl) rfl
theorem fo_111_1 : FldOff Try.prog 111 1 1 := .of Try.underlying111 rfl (by kernel_rfl) rfl
theorem fo_111_2 : FldOff Try.prog 111 2 2 := .of Try.underlying111 rfl (by kernel_rfl) rfl
theorem fo_111_3 : FldOff Try.prog 111 3 18 := .of Try.underlying111 rfl (by kernel_rfl) rfl
theorem fo_111_4 : FldOff Try.prog 111 4 19 := .of Try.underlying111 rfl (by kernel_rfl) rfl
theorem fo_111_5 : FldOff Try.prog 111 5 28 := .of Try.underlying111 rfl (by kernel_rfl) rfl
theorem fo_111_6 : FldOff Try.prog 111 6 29 := .of Try.underlying111 rfl (by kernel_rfl) rfl
theorem fo_137_0 : FldOff Try.prog 137 0 0 := .of Try.underlying137 rfl (by kernel_rfl) rfl
theorem fo_137_1 : FldOff Try.prog 137 1 1 := .of Try.underlying137 rfl (by kernel_rfl) rfl
theorem fo_137_2 : FldOff Try.prog 137 2 2 := .of Try.underlying137 rfl (by kernel_rfl) rfl
theorem fo_137_3 : FldOff Try.prog 137 3 3 := .of Try.underlying137 rfl (by kernel_rfl) rfl
theorem fo_138_0 : FldOff Try.prog 138 0 0 := .of Try.underlying138 rfl (by kernel_rfl) rfl
theorem fo_138_1 : FldOff Try.prog 138 1 1 := .of Try.underlying138 rfl (by kernel_rfl) rfl
theorem fo_138_2 : FldOff Try.prog 138 2 2 := .of Try.underlying138 rfl (by kernel_rfl) rfl
theorem fo_138_3 : FldOff Try.prog 138 3 3 := .of Try.underlying138 rfl (by kernel_rfl) rfl
theorem fo_148_0 : FldOff Try.prog 148 0 0 := .of Try.underlying148 rfl (by kernel_rfl) rfl
theorem fo_148_1 : FldOff Try.prog 148 1 1 := .of Try.underlying148 rfl (by kernel_rfl) rfl
theorem fo_148_2 : FldOff Try.prog 148 2 2 := .of Try.underlying148 rfl (by kernel_rfl) rfl
theorem fo_148_3 : FldOff Try.prog 148 3 3 := .of Try.underlying148 rfl (by kernel_rfl) rfl
theorem fo_148_4 : FldOff Try.prog 148 4 4 := .of Try.underlying148 rfl (by kernel_rfl) rfl
theorem fo_148_5 : FldOff Try.prog 148 5 5 := .of Try.underlying148 rfl (by kernel_rfl) rfl
theorem fo_148_6 : FldOff Try.prog 148 6 6 := .of Try.underlying148 rfl (by kernel_rfl) rfl
theorem fo_148_7 : FldOff Try.prog 148 7 7 := .of Try.underlying148 rfl (by kernel_rfl) rfl
theorem fo_148_8 : FldOff Try.prog 148 8 8 := .of Try.underlying148 rfl (by kernel_rfl) rfl
theorem fo_148_9 : FldOff Try.prog 148 9 9 := .of Try.underlying148 rfl (by kernel_rfl) rfl
theorem fo_148_10 : FldOff Try.prog 148 10 10 := .of Try.underlying148 rfl (by kernel_rfl) rfl
theorem fo_149_0 : FldOff Try.prog 149 0 0 := .of Try.underlying149 rfl (by kernel_rfl) rfl
theorem fo_149_1 : FldOff Try.prog 149 1 1 := .of Try.underlying149 rfl (by kernel_rfl) rfl
theorem fo_149_2 : FldOff Try.prog 149 2 2 := .of Try.underlying149 rfl (by kernel_rfl) rfl
theorem fo_149_3 : FldOff Try.prog 149 3 3 := .of Try.underlying149 rfl (by kernel_rfl) rfl
theorem fo_149_4 : FldOff Try.prog 149 4 4 := .of Try.underlying149 rfl (by kernel_rfl) rfl
theorem fo_149_5 : FldOff Try.prog 149 5 5 := .of Try.underlying149 rfl (by kernel_rfl) rfl
theorem fo_149_6 : FldOff Try.prog 149 6 6 := .of Try.underlying149 rfl (by kernel_rfl) rfl
theorem fo_149_7 : FldOff Try.prog 149 7 7 := .of Try.underlying149 rfl (by kernel_rfl) rfl
theorem fo_149_8 : FldOff Try.prog 149 8 8 := .of Try.underlying149 rfl (by kernel_rfl) rfl
theorem fo_149_9 : FldOff Try.prog 149 9 9 := .of Try.underlying149 rfl (by kernel_rfl) rfl
theorem fo_149_10 : FldOff Try.prog 149 10 10 := .of Try.underlying149 rfl (by kernel_rfl) rfl
theorem inf_3 : (Try.prog.info? 3).map (fun i => (i.zero, i.size, i.bytes)) = some (some (Value.int .i64 0), 1, 8) := by kernel_rfl
theorem inf_3_i : Try.prog.info? 3 = some ((Try.prog.info? 3).getD default) := (info_of inf_3).1
theorem inf_3_z : ((Try.prog.info? 3).getD default).zero = some (Value.int .i64 0) := (info_of inf_3).2.1
theorem inf_3_s : ((Try.prog.info? 3).getD default).size = 1 := (info_of inf_3).2.2.1
theorem inf_3_b : ((Try.prog.info? 3).getD default).bytes = 8 := (info_of inf_3).2.2.2
theorem inf_4 : (Try.prog.info? 4).map (fun i => (i.zero, i.size, i.bytes)) = some (some (Value.bool false), 1, 1) := by kernel_rfl
theorem inf_4_i : Try.prog.info? 4 = some ((Try.prog.info? 4).getD default) := (info_of inf_4).1
theorem inf_4_z : ((Try.prog.info? 4).getD default).zero = some (Value.bool false) := (info_of inf_4).2.1
theorem inf_4_s : ((Try.prog.info? 4).getD default).size = 1 := (info_of inf_4).2.2.1
theorem inf_4_b : ((Try.prog.info? 4).getD default).bytes = 1 := (info_of inf_4).2.2.2
theorem inf_5 : (Try.prog.info? 5).map (fun i => (i.zero, i.size, i.bytes)) = some (some (Value.int .u8 0), 1, 1) := by kernel_rfl
theorem inf_5_i : Try.prog.info? 5 = some ((Try.prog.info? 5).getD default) := (info_of inf_5).1
theorem inf_5_z : ((Try.prog.info? 5).getD default).zero = some (Value.int .u8 0) := (info_of inf_5).2.1
theorem inf_5_s : ((Try.prog.info? 5).getD default).size = 1 := (info_of inf_5).2.2.1
theorem inf_5_b : ((Try.prog.info? 5).getD default).bytes = 1 := (info_of inf_5).2.2.2
theorem inf_22 : (Try.prog.info? 22).map (fun i => (i.zero, i.size, i.bytes)) = some (some (Value.int .u16 0), 1, 2) := by kernel_rfl
theorem inf_22_i : Try.prog.info? 22 = some ((Try.prog.info? 22).getD default) := (info_of inf_22).1
theorem inf_22_z : ((Try.prog.info? 22).getD default).zero = some (Value.int .u16 0) := (info_of inf_22).2.1
theorem inf_22_s : ((Try.prog.info? 22).getD default).size = 1 := (info_of inf_22).2.2.1
theorem inf_22_b : ((Try.prog.info? 22).getD default).bytes = 2 := (info_of inf_22).2.2.2
theorem inf_24 : (Try.prog.info? 24).map (fun i => (i.zero, i.size, i.bytes)) = some (some (Value.slice none 0 0), 1, 24) := by kernel_rfl
theorem inf_24_i : Try.prog.info? 24 = some ((Try.prog.info? 24).getD default) := (info_of inf_24).1
theorem inf_24_z : ((Try.prog.info? 24).getD default).zero = some (Value.slice none 0 0) := (info_of inf_24).2.1
theorem inf_24_s : ((Try.prog.info? 24).getD default).size = 1 := (info_of inf_24).2.2.1
theorem inf_24_b : ((Try.prog.info? 24).getD default).bytes = 24 := (info_of inf_24).2.2.2
theorem inf_25 : (Try.prog.info? 25).map (fun i => (i.zero, i.size, i.bytes)) = some (some (Value.int .u32 0), 1, 4) := by kernel_rfl
theorem inf_25_i : Try.prog.info? 25 = some ((Try.prog.info? 25).getD default) := (info_of inf_25).1
theorem inf_25_z : ((Try.prog.info? 25).getD default).zero = some (Value.int .u32 0) := (info_of inf_25).2.1
theorem inf_25_s : ((Try.prog.info? 25).getD default).size = 1 := (info_of inf_25).2.2.1
theorem inf_25_b : ((Try.prog.info? 25).getD default).bytes = 4 := (info_of inf_25).2.2.2
theorem inf_27 : (Try.prog.info? 27).map (fun i => (i.zero, i.size, i.bytes)) = some (some (Value.agg #[Value.int .u16 0, Value.int .u8 0, Value.int .u8 0, Value.int .u32 0]), 4, 8) := by kernel_rfl
theorem inf_27_i : Try.prog.info? 27 = some ((Try.prog.info? 27).getD default) := (info_of inf_27).1
theorem inf_27_z : ((Try.prog.info? 27).getD default).zero = some (Value.agg #[Value.int .u16 0, Value.int .u8 0, Value.int .u8 0, Value.int .u32 0]) := (info_of inf_27).2.1
theorem inf_27_s : ((Try.prog.info? 27).getD default).size = 4 := (info_of inf_27).2.2.1
theorem inf_27_b : ((Try.prog.info? 27).getD default).bytes = 8 := (info_of inf_27).2.2.2
theorem inf_50 : (Try.prog.info? 50).map (fun i => (i.zero, i.size, i.bytes)) = some (some (Value.pointer none), 1, 8) := by kernel_rfl
theorem inf_50_i : Try.prog.info? 50 = some ((Try.prog.info? 50).getD default) := (info_of inf_50).1
theorem inf_50_z : ((Try.prog.info? 50).getD default).zero = some (Value.pointer none) := (info_of inf_50).2.1
theorem inf_50_s : ((Try.prog.info? 50).getD default).size = 1 := (info_of inf_50).2.2.1
theorem inf_50_b : ((Try.prog.info? 50).getD default).bytes = 8 := (info_of inf_50).2.2.2
theorem inf_60 : (Try.prog.info? 60).map (fun i => (i.zero, i.size, i.bytes)) = some (some (Value.agg #[Value.int .u32 0, Value.int .u32 0, Value.int .u64 0, Value.int .u64 0, Value.int .u64 0, Value.int .u64 0, Value.int .u64 0, Value.int .u64 0, Value.int .u64 0]), 9, 64) := by kernel_rfl
theorem inf_60_i : Try.prog.info? 60 = some ((Try.prog.info? 60).getD default) := (info_of inf_60).1
theorem inf_60_z : ((Try.prog.info? 60).getD default).zero = some (Value.agg #[Value.int .u32 0, Value.int .u32 0, Value.int .u64 0, Value.int .u64 0, Value.int .u64 0, Value.int .u64 0, Value.int .u64 0, Value.int .u64 0, Value.int .u64 0]) := (info_of inf_60).2.1
theorem inf_60_s : ((Try.prog.info? 60).getD default).size = 9 := (info_of inf_60).2.2.1
theorem inf_60_b : ((Try.prog.info? 60).getD default).bytes = 64 := (info_of inf_60).2.2.2
theorem inf_73 : (Try.prog.info? 73).map (fun i => (i.zero, i.size, i.bytes)) = some (some (Value.agg #[Value.int .i64 0, Value.int .u32 0, Value.int .u32 0]), 3, 16) := by kernel_rfl
theorem inf_73_i : Try.prog.info? 73 = some ((Try.prog.info? 73).getD default) := (info_of inf_73).1
theorem inf_73_z : ((Try.prog.info? 73).getD default).zero = some (Value.agg #[Value.int .i64 0, Value.int .u32 0, Value.int .u32 0]) := (info_of inf_73).2.1
theorem inf_73_s : ((Try.prog.info? 73).getD default).size = 3 := (info_of inf_73).2.2.1
theorem inf_73_b : ((Try.prog.info? 73).getD default).bytes = 16 := (info_of inf_73).2.2.2
theorem inf_77 : (Try.prog.info? 77).map (fun i => (i.zero, i.size, i.bytes)) = some (some (Value.agg #[Value.int .i64 0, Value.int .i64 0, Value.int .i64 0, Value.int .u32 0]), 4, 32) := by kernel_rfl
theorem inf_77_i : Try.prog.info? 77 = some ((Try.prog.info? 77).getD default) := (info_of inf_77).1
theorem inf_77_z : ((Try.prog.info? 77).getD default).zero = some (Value.agg #[Value.int .i64 0, Value.int .i64 0, Value.int .i64 0, Value.int .u32 0]) := (info_of inf_77).2.1
theorem inf_77_s : ((Try.prog.info? 77).getD default).size = 4 := (info_of inf_77).2.2.1
theorem inf_77_b : ((Try.prog.info? 77).getD default).bytes = 32 := (info_of inf_77).2.2.2
theorem inf_98 : (Try.prog.info? 98).map (fun i => (i.zero, i.size, i.bytes)) = some (some (Value.agg #[Value.int .u8 0, Value.int .u8 0, Value.int .u8 0, Value.int .u8 0, Value.int .u16 0, Value.int .u8 0, Value.int .u8 0, Value.int .u32 0, Value.bool false]), 9, 16) := by kernel_rfl
theorem inf_98_i : Try.prog.info? 98 = some ((Try.prog.info? 98).getD default) := (info_of inf_98).1
theorem inf_98_z : ((Try.prog.info? 98).getD default).zero = some (Value.agg #[Value.int .u8 0, Value.int .u8 0, Value.int .u8 0, Value.int .u8 0, Value.int .u16 0, Value.int .u8 0, Value.int .u8 0, Value.int .u32 0, Value.bool false]) := (info_of inf_98).2.1
theorem inf_98_s : ((Try.prog.info? 98).getD default).size = 9 := (info_of inf_98).2.2.1
theorem inf_98_b : ((Try.prog.info? 98).getD default).bytes = 16 := (info_of inf_98).2.2.2
end Go.Proofs.Ytcimcihhpkedfaa
