/- Sizes and zero values of the types that the walks name. Conditions: none. -/
import Derived.Test.YtojkmhfpnkhfaaaRows
import Derived.Test.YtojkmhfpnkhfaaaGl3
namespace Go.Proofs.Ytojkmhfpnkhfaaa
open Go Go.RowKit
theorem sz_2 : (Try.prog.info? 2).map (·.size) = some 1 := by kernel_rfl
theorem sz_3 : (Try.prog.info? 3).map (·.size) = some 1 := by kernel_rfl
theorem sz_4 : (Try.prog.info? 4).map (·.size) = some 1 := by kernel_rfl
theorem sz_5 : (Try.prog.info? 5).map (·.size) = some 1 := by kernel_rfl
theorem sz_6 : (Try.prog.info? 6).map (·.size) = some 1 := by kernel_rfl
theorem sz_7 : (Try.prog.info? 7).map (·.size) = some 4 := by kernel_rfl
theorem sz_8 : (Try.prog.info? 8).map (·.size) = some 4 := by kernel_rfl
theorem sz_9 : (Try.prog.info? 9).map (·.size) = some 1 := by kernel_rfl
theorem sz_10 : (Try.prog.info? 10).map (·.size) = some 1 := by kernel_rfl
theorem sz_11 : (Try.prog.info? 11).map (·.size) = some 1 := by kernel_rfl
theorem sz_12 : (Try.prog.info? 12).map (·.size) = some 1 := by kernel_rfl
theorem sz_13 : (Try.prog.info? 13).map (·.size) = some 2 := by kernel_rfl
theorem sz_14 : (Try.prog.info? 14).map (·.size) = some 2 := by kernel_rfl
theorem sz_15 : (Try.prog.info? 15).map (·.size) = some 1 := by kernel_rfl
theorem sz_16 : (Try.prog.info? 16).map (·.size) = some 1 := by kernel_rfl
theorem sz_17 : (Try.prog.info? 17).map (·.size) = some 1 := by kernel_rfl
theorem sz_18 : (Try.prog.info? 18).map (·.size) = some 1 := by kernel_rfl
theorem sz_19 : (Try.prog.info? 19).map (·.size) = some 1 := by kernel_rfl
theorem sz_20 : (Try.prog.info? 20).map (·.size) = some 1 := by kernel_rfl
theorem sz_21 : (Try.prog.info? 21).map (·.size) = some 1 := by kernel_rfl
theorem sz_22 : (Try.prog.info? 22).map (·.size) = some 1 := by kernel_rfl
theorem sz_24 : (Try.prog.info? 24).map (·.size) = some 1 := by kernel_rfl
theorem sz_25 : (Try.prog.info? 25).map (·.size) = some 1 := by kernel_rfl
theorem sz_30 : (Try.prog.info? 30).map (·.size) = some 1 := by kernel_rfl
theorem sz_32 : (Try.prog.info? 32).map (·.size) = some 2 := by kernel_rfl
theorem sz_33 : (Try.prog.info? 33).map (·.size) = some 2 := by kernel_rfl
theorem sz_36 : (Try.prog.info? 36).map (·.size) = some 1 := by kernel_rfl
theorem sz_38 : (Try.prog.info? 38).map (·.size) = some 1 := by kernel_rfl
theorem sz_39 : (Try.prog.info? 39).map (·.size) = some 3 := by kernel_rfl
theorem sz_40 : (Try.prog.info? 40).map (·.size) = some 3 := by kernel_rfl
theorem sz_42 : (Try.prog.info? 42).map (·.size) = some 5 := by kernel_rfl
theorem sz_43 : (Try.prog.info? 43).map (·.size) = some 5 := by kernel_rfl
theorem sz_45 : (Try.prog.info? 45).map (·.size) = some 1 := by kernel_rfl
theorem sz_47 : (Try.prog.info? 47).map (·.size) = some 1 := by kernel_rfl
theorem sz_50 : (Try.prog.info? 50).map (·.size) = some 1 := by kernel_rfl
theorem sz_51 : (Try.prog.info? 51).map (·.size) = some 1 := by kernel_rfl
theorem sz_52 : (Try.prog.info? 52).map (·.size) = some 2 := by kernel_rfl
theorem sz_53 : (Try.prog.info? 53).map (·.size) = some 2 := by kernel_rfl
theorem sz_54 : (Try.prog.info? 54).map (·.size) = some 1 := by kernel_rfl
theorem sz_55 : (Try.prog.info? 55).map (·.size) = some 1 := by kernel_rfl
theorem sz_56 : (Try.prog.info? 56).map (·.size) = some 1 := by kernel_rfl
theorem sz_57 : (Try.prog.info? 57).map (·.size) = some 8 := by kernel_rfl
theorem sz_58 : (Try.prog.info? 58).map (·.size) = some 8 := by kernel_rfl
theorem sz_61 : (Try.prog.info? 61).map (·.size) = some 1 := by kernel_rfl
theorem sz_62 : (Try.prog.info? 62).map (·.size) = some 4 := by kernel_rfl
theorem sz_63 : (Try.prog.info? 63).map (·.size) = some 4 := by kernel_rfl
theorem sz_64 : (Try.prog.info? 64).map (·.size) = some 1 := by kernel_rfl
theorem sz_66 : (Try.prog.info? 66).map (·.size) = some 1 := by kernel_rfl
theorem sz_67 : (Try.prog.info? 67).map (·.size) = some 7 := by kernel_rfl
theorem sz_68 : (Try.prog.info? 68).map (·.size) = some 7 := by kernel_rfl
theorem sz_69 : (Try.prog.info? 69).map (·.size) = some 1 := by kernel_rfl
theorem sz_72 : (Try.prog.info? 72).map (·.size) = some 1 := by kernel_rfl
theorem sz_75 : (Try.prog.info? 75).map (·.size) = some 1 := by kernel_rfl
theorem sz_81 : (Try.prog.info? 81).map (·.size) = some 4 := by kernel_rfl
theorem sz_82 : (Try.prog.info? 82).map (·.size) = some 4 := by kernel_rfl
theorem sz_85 : (Try.prog.info? 85).map (·.size) = some 1 := by kernel_rfl
theorem sz_88 : (Try.prog.info? 88).map (·.size) = some 1 := by kernel_rfl
theorem sz_91 : (Try.prog.info? 91).map (·.size) = some 1 := by kernel_rfl
theorem sz_92 : (Try.prog.info? 92).map (·.size) = some 1 := by kernel_rfl
theorem sz_93 : (Try.prog.info? 93).map (·.size) = some 1 := by kernel_rfl
theorem sz_95 : (Try.prog.info? 95).map (·.size) = some 1 := by kernel_rfl
theorem sz_96 : (Try.prog.info? 96).map (·.size) = some 1 := by kernel_rfl
theorem sz_97 : (Try.prog.info? 97).map (·.size) = some 3 := by kernel_rfl
theorem sz_98 : (Try.prog.info? 98).map (·.size) = some 3 := by kernel_rfl
theorem sz_100 : (Try.prog.info? 100).map (·.size) = some 1 := by kernel_rfl
theorem sz_101 : (Try.prog.info? 101).map (·.size) = some 16 := by kernel_rfl
theorem sz_102 : (Try.prog.info? 102).map (·.size) = some 16 := by kernel_rfl
theorem sz_103 : (Try.prog.info? 103).map (·.size) = some 16 := by kernel_rfl
theorem sz_108 : (Try.prog.info? 108).map (·.size) = some 1 := by kernel_rfl
theorem sz_109 : (Try.prog.info? 109).map (·.size) = some 2 := by kernel_rfl
theorem sz_110 : (Try.prog.info? 110).map (·.size) = some 2 := by kernel_rfl
theorem sz_111 : (Try.prog.info? 111).map (·.size) = some 1 := by kernel_rfl
theorem sz_112 : (Try.prog.info? 112).map (·.size) = some 1 := by kernel_rfl
theorem sz_113 : (Try.prog.info? 113).map (·.size) = some 2 := by kernel_rfl
theorem sz_114 : (Try.prog.info? 114).map (·.size) = some 2 := by kernel_rfl
theorem sz_117 : (Try.prog.info? 117).map (·.size) = some 6 := by kernel_rfl
theorem sz_118 : (Try.prog.info? 118).map (·.size) = some 6 := by kernel_rfl
theorem sz_121 : (Try.prog.info? 121).map (·.size) = some 1 := by kernel_rfl
theorem sz_123 : (Try.prog.info? 123).map (·.size) = some 1 := by kernel_rfl
theorem sz_124 : (Try.prog.info? 124).map (·.size) = some 1 := by kernel_rfl
theorem sz_125 : (Try.prog.info? 125).map (·.size) = some 7 := by kernel_rfl
theorem sz_126 : (Try.prog.info? 126).map (·.size) = some 7 := by kernel_rfl
theorem sz_129 : (Try.prog.info? 129).map (·.size) = some 1 := by kernel_rfl
theorem sz_134 : (Try.prog.info? 134).map (·.size) = some 1 := by kernel_rfl
theorem sz_143 : (Try.prog.info? 143).map (·.size) = some 1 := by kernel_rfl
theorem sz_145 : (Try.prog.info? 145).map (·.size) = some 1 := by kernel_rfl
theorem sz_149 : (Try.prog.info? 149).map (·.size) = some 1 := by kernel_rfl
theorem sz_152 : (Try.prog.info? 152).map (·.size) = some 1 := by kernel_rfl
theorem sz_156 : (Try.prog.info? 156).map (·.size) = some 4 := by kernel_rfl
theorem sz_157 : (Try.prog.info? 157).map (·.size) = some 4 := by kernel_rfl
theorem sz_158 : (Try.prog.info? 158).map (·.size) = some 0 := by kernel_rfl
theorem sz_159 : (Try.prog.info? 159).map (·.size) = some 0 := by kernel_rfl
theorem sz_160 : (Try.prog.info? 160).map (·.size) = some 0 := by kernel_rfl
theorem sz_162 : (Try.prog.info? 162).map (·.size) = some 1 := by kernel_rfl
theorem sz_163 : (Try.prog.info? 163).map (·.size) = some 1 := by kernel_rfl
theorem sz_165 : (Try.prog.info? 165).map (·.size) = some 1 := by kernel_rfl
theorem sz_166 : (Try.prog.info? 166).map (·.size) = some 1 := by kernel_rfl
theorem sz_167 : (Try.prog.info? 167).map (·.size) = some 1 := by kernel_rfl
theorem sz_168 : (Try.prog.info? 168).map (·.size) = some 11 := by kernel_rfl
theorem sz_169 : (Try.prog.info? 169).map (·.size) = some 11 := by kernel_rfl
theorem sz_172 : (Try.prog.info? 172).map (·.size) = some 1 := by kernel_rfl
theorem sz_173 : (Try.prog.info? 173).map (·.size) = some 1 := by kernel_rfl
theorem sz_174 : (Try.prog.info? 174).map (·.size) = some 1 := by kernel_rfl
theorem sz_176 : (Try.prog.info? 176).map (·.size) = some 0 := by kernel_rfl
theorem sz_177 : (Try.prog.info? 177).map (·.size) = some 0 := by kernel_rfl
theorem sz_178 : (Try.prog.info? 178).map (·.size) = some 0 := by kernel_rfl
theorem sz_179 : (Try.prog.info? 179).map (·.size) = some 1 := by kernel_rfl
theorem sz_180 : (Try.prog.info? 180).map (·.size) = some 1 := by kernel_rfl
theorem sz_181 : (Try.prog.info? 181).map (·.size) = some 3 := by kernel_rfl
theorem sz_182 : (Try.prog.info? 182).map (·.size) = some 3 := by kernel_rfl
theorem sz_183 : (Try.prog.info? 183).map (·.size) = some 1 := by kernel_rfl
theorem sz_184 : (Try.prog.info? 184).map (·.size) = some 1 := by kernel_rfl
theorem sz_185 : (Try.prog.info? 185).map (·.size) = some 6 := by kernel_rfl
theorem sz_186 : (Try.prog.info? 186).map (·.size) = some 9 := by kernel_rfl
theorem sz_187 : (Try.prog.info? 187).map (·.size) = some 9 := by kernel_rfl
theorem sz_188 : (Try.prog.info? 188).map (·.size) = some 1 := by kernel_rfl
theorem sz_189 : (Try.prog.info? 189).map (·.size) = some 1 := by kernel_rfl
theorem sz_190 : (Try.prog.info? 190).map (·.size) = some 8 := by kernel_rfl
theorem sz_193 : (Try.prog.info? 193).map (·.size) = some 1 := by kernel_rfl
theorem sz_194 : (Try.prog.info? 194).map (·.size) = some 1 := by kernel_rfl
theorem sz_195 : (Try.prog.info? 195).map (·.size) = some 3 := by kernel_rfl
theorem sz_196 : (Try.prog.info? 196).map (·.size) = some 3 := by kernel_rfl
theorem fo_7_0 : FldOff Try.prog 7 0 0 := .of Try.underlying7 rfl (by kernel_rfl) rfl
theorem fo_7_1 : FldOff Try.prog 7 1 1 := .of Try.underlying7 rfl (by kernel_rfl) rfl
theorem fo_7_2 : FldOff Try.prog 7 2 2 := .of Try.underlying7 rfl (by kernel_rfl) rfl
theorem fo_7_3 : FldOff Try.prog 7 3 3 := .of Try.underlying7 rfl (by kernel_rfl) rfl
theorem fo_8_0 : FldOff Try.prog 8 0 0 := .of Try.underlying8 rfl (by kernel_rfl) rfl
theorem fo_8_1 : FldOff Try.prog 8 1 1 := .of Try.underlying8 rfl (by kernel_rfl) rfl
theorem fo_8_2 : FldOff Try.prog 8 2 2 := .of Try.underlying8 rfl (by kernel_rfl) rfl
theorem fo_8_3 : FldOff Try.prog 8 3 3 := .of Try.underlying8 rfl (by kernel_rfl) rfl
theorem fo_13_0 : FldOff Try.prog 13 0 0 := .of Try.underlying13 rfl (by kernel_rfl) rfl
theorem fo_13_1 : FldOff Try.prog 13 1 1 := .of Try.underlying13 rfl (by kernel_rfl) rfl
theorem fo_14_0 : FldOff Try.prog 14 0 0 := .of Try.underlying14 rfl (by kernel_rfl) rfl
theorem fo_14_1 : FldOff Try.prog 14 1 1 := .of Try.underlying14 rfl (by kernel_rfl) rfl
theorem fo_18_0 : FldOff Try.prog 18 0 0 := .of Try.underlying18 rfl (by kernel_rfl) rfl
theorem fo_19_0 : FldOff Try.prog 19 0 0 := .of Try.underlying19 rfl (by kernel_rfl) rfl
theorem fo_32_0 : FldOff Try.prog 32 0 0 := .of Try.underlying32 rfl (by kernel_rfl) rfl
theorem fo_32_1 : FldOff Try.prog 32 1 1 := .of Try.underlying32 rfl (by kernel_rfl) rfl
theorem fo_33_0 : FldOff Try.prog 33 0 0 := .of Try.underlying33 rfl (by kernel_rfl) rfl
theorem fo_33_1 : FldOff Try.prog 33 1 1 := .of Try.underlying33 rfl (by kernel_rfl) rfl
theorem fo_39_0 : FldOff Try.prog 39 0 0 := .of Try.underlying39 rfl (by kernel_rfl) rfl
theorem fo_39_1 : FldOff Try.prog 39 1 1 := .of Try.underlying39 rfl (by kernel_rfl) rfl
theorem fo_39_2 : FldOff Try.prog 39 2 2 := .of Try.underlying39 rfl (by kernel_rfl) rfl
theorem fo_40_0 : FldOff Try.prog 40 0 0 := .of Try.underlying40 rfl (by kernel_rfl) rfl
theorem fo_40_1 : FldOff Try.prog 40 1 1 := .of Try.underlying40 rfl (by kernel_rfl) rfl
theorem fo_40_2 : FldOff Try.prog 40 2 2 := .of Try.underlying40 rfl (by kernel_rfl) rfl
theorem fo_42_0 : FldOff Try.prog 42 0 0 := .of Try.underlying42 rfl (by kernel_rfl) rfl
theorem fo_42_1 : FldOff Try.prog 42 1 1 := .of Try.underlying42 rfl (by kernel_rfl) rfl
theorem fo_42_2 : FldOff Try.prog 42 2 2 := .of Try.underlying42 rfl (by kernel_rfl) rfl
theorem fo_42_3 : FldOff Try.prog 42 3 3 := .of Try.underlying42 rfl (by kernel_rfl) rfl
theorem fo_42_4 : FldOff Try.prog 42 4 4 := .of Try.underlying42 rfl (by kernel_rfl) rfl
theorem fo_43_0 : FldOff Try.prog 43 0 0 := .of Try.underlying43 rfl (by kernel_rfl) rfl
theorem fo_43_1 : FldOff Try.prog 43 1 1 := .of Try.underlying43 rfl (by kernel_rfl) rfl
theorem fo_43_2 : FldOff Try.prog 43 2 2 := .of Try.underlying43 rfl (by kernel_rfl) rfl
theorem fo_43_3 : FldOff Try.prog 43 3 3 := .of Try.underlying43 rfl (by kernel_rfl) rfl
theorem fo_43_4 : FldOff Try.prog 43 4 4 := .of Try.underlying43 rfl (by kernel_rfl) rfl
theorem fo_52_0 : FldOff Try.prog 52 0 0 := .of Try.underlying52 rfl (by kernel_rfl) rfl
theorem fo_52_1 : FldOff Try.prog 52 1 1 := .of Try.underlying52 rfl (by kernel_rfl) rfl
theorem fo_53_0 : FldOff Try.prog 53 0 0 := .of Try.underlying53 rfl (by kernel_rfl) rfl
theorem fo_53_1 : FldOff Try.prog 53 1 1 := .of Try.underlying53 rfl (by kernel_rfl) rfl
theorem fo_57_0 : FldOff Try.prog 57 0 0 := .of Try.underlying57 rfl (by kernel_rfl) rfl
theorem fo_57_1 : FldOff Try.prog 57 1 1 := .of Try.underlying57 rfl (by kernel_rfl) rfl
theorem fo_57_2 : FldOff Try.prog 57 2 2 := .of Try.underlying57 rfl (by kernel_rfl) rfl
theorem fo_57_3 : FldOff Try.prog 57 3 4 := .of Try.underlying57 rfl (by kernel_rfl) rfl
theorem fo_57_4 : FldOff Try.prog 57 4 5 := .of Try.underlying57 rfl (by kernel_rfl) rfl
theorem fo_57_5 : FldOff Try.prog 57 5 6 := .of Try.underlying57 rfl (by kernel_rfl) rfl
theorem fo_57_6 : FldOff Try.prog 57 6 7 := .of Try.underlying57 rfl (by kernel_rfl) rfl
theorem fo_58_0 : FldOff Try.prog 58 0 0 := .of Try.underlying58 rfl (by kernel_rfl) rfl
theorem fo_58_1 : FldOff Try.prog 58 1 1 := .of Try.underlying58 rfl (by kernel_rfl) rfl
theorem fo_58_2 : FldOff Try.prog 58 2 2 := .of Try.underlying58 rfl (by kernel_rfl) rfl
theorem fo_58_3 : FldOff Try.prog 58 3 4 := .of Try.underlying58 rfl (by kernel_rfl) rfl
theorem fo_58_4 : FldOff Try.prog 58 4 5 := .of Try.underlying58 rfl (by kernel_rfl) rfl
theorem fo_58_5 : FldOff Try.prog 58 5 6 := .of Try.underlying58 rfl (by kernel_rfl) rfl
theorem fo_58_6 : FldOff Try.prog 58 6 7 := .of Try.underlying58 rfl (by kernel_rfl) rfl
theorem fo_62_0 : FldOff Try.prog 62 0 0 := .of Try.underlying62 rfl (by kernel_rfl) rfl
theorem fo_62_1 : FldOff Try.prog 62 1 1 := .of Try.underlying62 rfl (by kernel_rfl) rfl
theorem fo_62_2 : FldOff Try.prog 62 2 2 := .of Try.underlying62 rfl (by kernel_rfl) rfl
theorem fo_62_3 : FldOff Try.prog 62 3 3 := .of Try.underlying62 rfl (by kernel_rfl) rfl
theorem fo_63_0 : FldOff Try.prog 63 0 0 := .of Try.underlying63 rfl (by kernel_rfl) rfl
theorem fo_63_1 : FldOff Try.prog 63 1 1 := .of Try.underlying63 rfl (by kernel_rfl) rfl
theorem fo_63_2 : FldOff Try.prog 63 2 2 := .of Try.underlying63 rfl (by kernel_rfl) rfl
theorem fo_63_3 : FldOff Try.prog 63 3 3 := .of Try.underlying63 rfl (by kernel_rfl) rfl
theorem fo_67_0 : FldOff Try.prog 67 0 0 := .of Try.underlying67 rfl (by kernel_rfl) rfl
theorem fo_67_1 : FldOff Try.prog 67 1 1 := .of Try.underlying67 rfl (by kernel_rfl) rfl
theorem fo_67_2 : FldOff Try.prog 67 2 2 := .of Try.underlying67 rfl (by kernel_rfl) rfl
theorem fo_67_3 : FldOff Try.prog 67 3 3 := .of Try.underlying67 rfl (by kernel_rfl) rfl
theorem fo_68_0 : FldOff Try.prog 68 0 0 := .of Try.underlying68 rfl (by kernel_rfl) rfl
theorem fo_68_1 : FldOff Try.prog 68 1 1 := .of Try.underlying68 rfl (by kernel_rfl) rfl
theorem fo_68_2 : FldOff Try.prog 68 2 2 := .of Try.underlying68 rfl (by kernel_rfl) rfl
theorem fo_68_3 : FldOff Try.prog 68 3 3 := .of Try.underlying68 rfl (by kernel_rfl) rfl
theorem fo_81_0 : FldOff Try.prog 81 0 0 := .of Try.underlying81 rfl (by kernel_rfl) rfl
theorem fo_81_1 : FldOff Try.prog 81 1 1 := .of Try.underlying81 rfl (by kernel_rfl) rfl
theorem fo_81_2 : FldOff Try.prog 81 2 2 := .of Try.underlying81 rfl (by kernel_rfl) rfl
theorem fo_81_3 : FldOff Try.prog 81 3 3 := .of Try.underlying81 rfl (by kernel_rfl) rfl
theorem fo_82_0 : FldOff Try.prog 82 0 0 := .of Try.underlying82 rfl (by kernel_rfl) rfl
theorem fo_82_1 : FldOff Try.prog 82 1 1 := .of Try.underlying82 rfl (by kernel_rfl) rfl
theorem fo_82_2 : FldOff Try.prog 82 2 2 := .of Try.underlying82 rfl (by kernel_rfl) rfl
theorem fo_82_3 : FldOff Try.prog 82 3 3 := .of Try.underlying82 rfl (by kernel_rfl) rfl
theorem fo_92_0 : FldOff Try.prog 92 0 0 := .of Try.underlying92 rfl (by kernel_rfl) rfl
theorem fo_93_0 : FldOff Try.prog 93 0 0 := .of Try.underlying93 rfl (by kernel_rfl) rfl
theorem fo_97_0 : FldOff Try.prog 97 0 0 := .of Try.underlying97 rfl (by kernel_rfl) rfl
theorem fo_97_1 : FldOff Try.prog 97 1 1 := .of Try.underlying97 rfl (by kernel_rfl) rfl
theorem fo_97_2 : FldOff Try.prog 97 2 2 := .of Try.underlying97 rfl (by kernel_rfl) rfl
theorem fo_98_0 : FldOff Try.prog 98 0 0 := .of Try.underlying98 rfl (by kernel_rfl) rfl
theorem fo_98_1 : FldOff Try.prog 98 1 1 := .of Try.underlying98 rfl (by kernel_rfl) rfl
theorem fo_98_2 : FldOff Try.prog 98 2 2 := .of Try.underlying98 rfl (by kernel_rfl) rfl
theorem fo_102_0 : FldOff Try.prog 102 0 0 := .of Try.underlying102 rfl (by kernel_rfl) rfl
theorem fo_103_0 : FldOff Try.prog 103 0 0 := .of Try.underlying103 rfl (by kernel_rfl) rfl
theorem fo_109_0 : FldOff Try.prog 109 0 0 := .of Try.underlying109 rfl (by kernel_rfl) rfl
theorem fo_109_1 : FldOff Try.prog 109 1 1 := .of Try.underlying109 rfl (by kernel_rfl) rfl
theorem fo_110_0 : FldOff Try.prog 110 0 0 := .of Try.underlying110 rfl (by kernel_rfl) rfl
theorem fo_110_1 : FldOff Try.prog 110 1 1 := .of Try.underlying110 rfl (by kernel_rfl) rfl
theorem fo_113_0 : FldOff Try.prog 113 0 0 := .of Try.underlying113 rfl (by kernel_rfl) rfl
theorem fo_113_1 : FldOff Try.prog 113 1 1 := .of Try.underlying113 rfl (by kernel_rfl) rfl
theorem fo_114_0 : FldOff Try.prog 114 0 0 := .of Try.underlying114 rfl (by kernel_rfl) rfl
theorem fo_114_1 : FldOff Try.prog 114 1 1 := .of Try.underlying114 rfl (by kernel_rfl) rfl
theorem fo_117_0 : FldOff Try.prog 117 0 0 := .of Try.underlying117 rfl (by kernel_rfl) rfl
theorem fo_117_1 : FldOff Try.prog 117 1 1 := .of Try.underlying117 rfl (by kernel_rfl) rfl
theorem fo_117_2 : FldOff Try.prog 117 2 2 := .of Try.underlying117 rfl (by kernel_rfl) rfl
theorem fo_117_3 : FldOff Try.prog 117 3 3 := .of Try.underlying117 rfl (by kernel_rfl) rfl
theorem fo_117_4 : FldOff Try.prog 117 4 4 := .of Try.underlying117 rfl (by kernel_rfl) rfl
theorem fo_117_5 : FldOff Try.prog 117 5 5 := .of Try.underlying117 rfl (by kernel_rfl) rfl
theorem fo_118_0 : FldOff Try.prog 118 0 0 := .of Try.underlying118 rfl (by kernel_rfl) rfl
theorem fo_118_1 : FldOff Try.prog 118 1 1 := .of Try.underlying118 rfl (by kernel_rfl) rfl
theorem fo_118_2 : FldOff Try.prog 118 2 2 := .of Try.underlying118 rfl (by kernel_rfl) rfl
theorem fo_118_3 : FldOff Try.prog 118 3 3 := .of Try.underlying118 rfl (by kernel_rfl) rfl
theorem fo_118_4 : FldOff Try.prog 118 4 4 := .of Try.underlying118 rfl (by kernel_rfl) rfl
theorem fo_118_5 : FldOff Try.prog 118 5 5 := .of Try.underlying118 rfl (by kernel_rfl) rfl
theorem fo_125_0 : FldOff Try.prog 125 0 0 := .of Try.underlying125 rfl (by kernel_rfl) rfl
theorem fo_125_1 : FldOff Try.prog 125 1 1 := .of Try.underlying125 rfl (by kernel_rfl) rfl
theorem fo_125_2 : FldOff Try.prog 125 2 3 := .of Try.underlying125 rfl (by kernel_rfl) rfl
theorem fo_125_3 : FldOff Try.prog 125 3 4 := .of Try.underlying125 rfl (by kernel_rfl) rfl
theorem fo_125_4 : FldOff Try.prog 125 4 5 := .of Try.underlying125 rfl (by kernel_rfl) rfl
theorem fo_125_5 : FldOff Try.prog 125 5 6 := .of Try.underlying125 rfl (by kernel_rfl) rfl
theorem fo_126_0 : FldOff Try.prog 126 0 0 := .of Try.underlying126 rfl (by kernel_rfl) rfl
theorem fo_126_1 : FldOff Try.prog 126 1 1 := .of Try.underlying126 rfl (by kernel_rfl) rfl
theorem fo_126_2 : FldOff Try.prog 126 2 3 := .of Try.underlying126 rfl (by kernel_rfl) rfl
theorem fo_126_3 : FldOff Try.prog 126 3 4 := .of Try.underlying126 rfl (by kernel_rfl) rfl
theorem fo_126_4 : FldOff Try.prog 126 4 5 := .of Try.underlying126 rfl (by kernel_rfl) rfl
theorem fo_126_5 : FldOff Try.prog 126 5 6 := .of Try.underlying126 rfl (by kernel_rfl) rfl
theorem fo_156_0 : FldOff Try.prog 156 0 0 := .of Try.underlying156 rfl (by kernel_rfl) rfl
theorem fo_156_1 : FldOff Try.prog 156 1 1 := .of Try.underlying156 rfl (by kernel_rfl) rfl
theorem fo_156_2 : FldOff Try.prog 156 2 2 := .of Try.underlying156 rfl (by kernel_rfl) rfl
theorem fo_156_3 : FldOff Try.prog 156 3 3 := .of Try.underlying156 rfl (by kernel_rfl) rfl
theorem fo_157_0 : FldOff Try.prog 157 0 0 := .of Try.underlying157 rfl (by kernel_rfl) rfl
theorem fo_157_1 : FldOff Try.prog 157 1 1 := .of Try.underlying157 rfl (by kernel_rfl) rfl
theorem fo_157_2 : FldOff Try.prog 157 2 2 := .of Try.underlying157 rfl (by kernel_rfl) rfl
theorem fo_157_3 : FldOff Try.prog 157 3 3 := .of Try.underlying157 rfl (by kernel_rfl) rfl
theorem fo_168_0 : FldOff Try.prog 168 0 0 := .of Try.underlying168 rfl (by kernel_rfl) rfl
theorem fo_168_1 : FldOff Try.prog 168 1 1 := .of Try.underlying168 rfl (by kernel_rfl) rfl
theorem fo_168_2 : FldOff Try.prog 168 2 2 := .of Try.underlying168 rfl (by kernel_rfl) rfl
theorem fo_168_3 : FldOff Try.prog 168 3 3 := .of Try.underlying168 rfl (by kernel_rfl) rfl
theorem fo_168_4 : FldOff Try.prog 168 4 4 := .of Try.underlying168 rfl (by kernel_rfl) rfl
theorem fo_168_5 : FldOff Try.prog 168 5 5 := .of Try.underlying168 rfl (by kernel_rfl) rfl
theorem fo_168_6 : FldOff Try.prog 168 6 6 := .of Try.underlying168 rfl (by kernel_rfl) rfl
theorem fo_168_7 : FldOff Try.prog 168 7 7 := .of Try.underlying168 rfl (by kernel_rfl) rfl
theorem fo_168_8 : FldOff Try.prog 168 8 8 := .of Try.underlying168 rfl (by kernel_rfl) rfl
theorem fo_168_9 : FldOff Try.prog 168 9 9 := .of Try.underlying168 rfl (by kernel_rfl) rfl
theorem fo_168_10 : FldOff Try.prog 168 10 10 := .of Try.underlying168 rfl (by kernel_rfl) rfl
theorem fo_169_0 : FldOff Try.prog 169 0 0 := .of Try.underlying169 rfl (by kernel_rfl) rfl
theorem fo_169_1 : FldOff Try.prog 169 1 1 := .of Try.underlying169 rfl (by kernel_rfl) rfl
theorem fo_169_2 : FldOff Try.prog 169 2 2 := .of Try.underlying169 rfl (by kernel_rfl) rfl
theorem fo_169_3 : FldOff Try.prog 169 3 3 := .of Try.underlying169 rfl (by kernel_rfl) rfl
theorem fo_169_4 : FldOff Try.prog 169 4 4 := .of Try.underlying169 rfl (by kernel_rfl) rfl
theorem fo_169_5 : FldOff Try.prog 169 5 5 := .of Try.underlying169 rfl (by kernel_rfl) rfl
theorem fo_169_6 : FldOff Try.prog 169 6 6 := .of Try.underlying169 rfl (by kernel_rfl) rfl
theorem fo_169_7 : FldOff Try.prog 169 7 7 := .of Try.underlying169 rfl (by kernel_rfl) rfl
theorem fo_169_8 : FldOff Try.prog 169 8 8 := .of Try.underlying169 rfl (by kernel_rfl) rfl
theorem fo_169_9 : FldOff Try.prog 169 9 9 := .of Try.underlying169 rfl (by kernel_rfl) rfl
theorem fo_169_10 : FldOff Try.prog 169 10 10 := .of Try.underlying169 rfl (by kernel_rfl) rfl
theorem fo_173_0 : FldOff Try.prog 173 0 0 := .of Try.underlying173 rfl (by kernel_rfl) rfl
theorem fo_174_0 : FldOff Try.prog 174 0 0 := .of Try.underlying174 rfl (by kernel_rfl) rfl
theorem fo_179_2 : FldOff Try.prog 179 2 0 := .of Try.underlying179 rfl (by kernel_rfl) rfl
theorem fo_180_2 : FldOff Try.prog 180 2 0 := .of Try.underlying180 rfl (by kernel_rfl) rfl
theorem fo_181_0 : FldOff Try.prog 181 0 0 := .of Try.underlying181 rfl (by kernel_rfl) rfl
theorem fo_181_1 : FldOff Try.prog 181 1 1 := .of Try.underlying181 rfl (by kernel_rfl) rfl
theorem fo_181_2 : FldOff Try.prog 181 2 2 := .of Try.underlying181 rfl (by kernel_rfl) rfl
theorem fo_182_0 : FldOff Try.prog 182 0 0 := .of Try.underlying182 rfl (by kernel_rfl) rfl
theorem fo_182_1 : FldOff Try.prog 182 1 1 := .of Try.underlying182 rfl (by kernel_rfl) rfl
theorem fo_182_2 : FldOff Try.prog 182 2 2 := .of Try.underlying182 rfl (by kernel_rfl) rfl
theorem fo_186_0 : FldOff Try.prog 186 0 0 := .of Try.underlying186 rfl (by kernel_rfl) rfl
theorem fo_186_1 : FldOff Try.prog 186 1 1 := .of Try.underlying186 rfl (by kernel_rfl) rfl
theorem fo_186_2 : FldOff Try.prog 186 2 2 := .of Try.underlying186 rfl (by kernel_rfl) rfl
theorem fo_186_3 : FldOff Try.prog 186 3 3 := .of Try.underlying186 rfl (by kernel_rfl) rfl
theorem fo_187_0 : FldOff Try.prog 187 0 0 := .of Try.underlying187 rfl (by kernel_rfl) rfl
theorem fo_187_1 : FldOff Try.prog 187 1 1 := .of Try.underlying187 rfl (by kernel_rfl) rfl
theorem fo_187_2 : FldOff Try.prog 187 2 2 := .of Try.underlying187 rfl (by kernel_rfl) rfl
theorem fo_187_3 : FldOff Try.prog 187 3 3 := .of Try.underlying187 rfl (by kernel_rfl) rfl
theorem fo_195_0 : FldOff Try.prog 195 0 0 := .of Try.underlying195 rfl (by kernel_rfl) rfl
theorem fo_195_1 : FldOff Try.prog 195 1 1 := .of Try.underlying195 rfl (by kernel_rfl) rfl
theorem fo_195_2 : FldOff Try.prog 195 2 2 := .of Try.underlying195 rfl (by kernel_rfl) rfl
theorem fo_196_0 : FldOff Try.prog 196 0 0 := .of Try.underlying196 rfl (by kernel_rfl) rfl
theorem fo_196_1 : FldOff Try.prog 196 1 1 := .of Try.underlying196 rfl (by kernel_rfl) rfl
theorem fo_196_2 : FldOff Try.prog 196 2 2 := .of Try.underlying196 rfl (by kernel_rfl) rfl
theorem inf_22 : (Try.prog.info? 22).map (fun i => (i.zero, i.size, i.bytes)) = some (some (Value.int .u16 0), 1, 2) := by kernel_rfl
theorem inf_22_i : Try.prog.info? 22 = some ((Try.prog.info? 22).getD default) := (info_of inf_22).1
theorem inf_22_z : ((Try.prog.info? 22).getD default).zero = some (Value.int .u16 0) := (info_of inf_22).2.1
theorem inf_22_s : ((Try.prog.info? 22).getD default).size = 1 := (info_of inf_22).2.2.1
theorem inf_22_b : ((Try.prog.info? 22).getD default).bytes = 2 := (info_of inf_22).2.2.2
theorem inf_40 : (Try.prog.info? 40).map (fun i => (i.zero, i.size, i.bytes)) = some (some (Value.agg #[Value.int .i64 0, Value.int .i64 0, Value.int .i64 0]), 3, 24) := by kernel_rfl
theorem inf_40_i : Try.prog.info? 40 = some ((Try.prog.info? 40).getD default) := (info_of inf_40).1
theorem inf_40_z : ((Try.prog.info? 40).getD default).zero = some (Value.agg #[Value.int .i64 0, Value.int .i64 0, Value.int .i64 0]) := (info_of inf_40).2.1
theorem inf_40_s : ((Try.prog.info? 40).getD default).size = 3 := (info_of inf_40).2.2.1
theorem inf_40_b : ((Try.prog.info? 40).getD default).bytes = 24 := (info_of inf_40).2.2.2
theorem inf_43 : (Try.prog.info? 43).map (fun i => (i.zero, i.size, i.bytes)) = some (some (Value.agg #[Value.int .u8 0, Value.int .u8 0, Value.int .u16 0, Value.bool false, Value.bool false]), 5, 6) := by kernel_rfl
theorem inf_43_i : Try.prog.info? 43 = some ((Try.prog.info? 43).getD default) := (info_of inf_43).1
theorem inf_43_z : ((Try.prog.info? 43).getD default).zero = some (Value.agg #[Value.int .u8 0, Value.int .u8 0, Value.int .u16 0, Value.bool false, Value.bool false]) := (info_of inf_43).2.1
theorem inf_43_s : ((Try.prog.info? 43).getD default).size = 5 := (info_of inf_43).2.2.1
theorem inf_43_b : ((Try.prog.info? 43).getD default).bytes = 6 := (info_of inf_43).2.2.2
theorem inf_63 : (Try.prog.info? 63).map (fun i => (i.zero, i.size, i.bytes)) = some (some (Value.agg #[Value.int .u16 0, Value.int .u8 0, Value.int .u8 0, Value.int .u32 0]), 4, 8) := by kernel_rfl
theorem inf_63_i : Try.prog.info? 63 = some ((Try.prog.info? 63).getD default) := (info_of inf_63).1
theorem inf_63_z : ((Try.prog.info? 63).getD default).zero = some (Value.agg #[Value.int .u16 0, Value.int .u8 0, Value.int .u8 0, Value.int .u32 0]) := (info_of inf_63).2.1
theorem inf_63_s : ((Try.prog.info? 63).getD default).size = 4 := (info_of inf_63).2.2.1
theorem inf_63_b : ((Try.prog.info? 63).getD default).bytes = 8 := (info_of inf_63).2.2.2
theorem inf_68 : (Try.prog.info? 68).map (fun i => (i.zero, i.size, i.bytes)) = some (some (Value.agg #[Value.int .u8 0, Value.int .i64 0, Value.int .i64 0, Value.int .u16 0, Value.int .u8 0, Value.int .u8 0, Value.int .u32 0]), 7, 32) := by kernel_rfl
theorem inf_68_i : Try.prog.info? 68 = some ((Try.prog.info? 68).getD default) := (info_of inf_68).1
theorem inf_68_z : ((Try.prog.info? 68).getD default).zero = some (Value.agg #[Value.int .u8 0, Value.int .i64 0, Value.int .i64 0, Value.int .u16 0, Value.int .u8 0, Value.int .u8 0, Value.int .u32 0]) := (info_of inf_68).2.1
theorem inf_68_s : ((Try.prog.info? 68).getD default).size = 7 := (info_of inf_68).2.2.1
theorem inf_68_b : ((Try.prog.info? 68).getD default).bytes = 32 := (info_of inf_68).2.2.2
theorem inf_108 : (Try.prog.info? 108).map (fun i => (i.zero, i.size, i.bytes)) = some (some (Value.pointer none), 1, 8) := by kernel_rfl
theorem inf_108_i : Try.prog.info? 108 = some ((Try.prog.info? 108).getD default) := (info_of inf_108).1
theorem inf_108_z : ((Try.prog.info? 108).getD default).zero = some (Value.pointer none) := (info_of inf_108).2.1
theorem inf_108_s : ((Try.prog.info? 108).getD default).size = 1 := (info_of inf_108).2.2.1
theorem inf_108_b : ((Try.prog.info? 108).getD default).bytes = 8 := (info_of inf_108).2.2.2
theorem inf_118 : (Try.prog.info? 118).map (fun i => (i.zero, i.size, i.bytes)) = some (some (Value.agg #[Value.int .u8 0, Value.int .u8 0, Value.int .u8 0, Value.int .u8 0, Value.int .u8 0, Value.int .u16 0]), 6, 8) := by kernel_rfl
theorem inf_118_i : Try.prog.info? 118 = some ((Try.prog.info? 118).getD default) := (info_of inf_118).1
theorem inf_118_z : ((Try.prog.info? 118).getD default).zero = some (Value.agg #[Value.int .u8 0, Value.int .u8 0, Value.int .u8 0, Value.int .u8 0, Value.int .u8 0, Value.int .u16 0]) := (info_of inf_118).2.1
theorem inf_118_s : ((Try.prog.info? 118).getD default).size = 6 := (info_of inf_118).2.2.1
theorem inf_118_b : ((Try.prog.info? 118).getD default).bytes = 8 := (info_of inf_118).2.2.2
theorem inf_189 : (Try.prog.info? 189).map (fun i => (i.zero, i.size, i.bytes)) = some (some (Value.pointer none), 1, 8) := by kernel_rfl
theorem inf_189_i : Try.prog.info? 189 = some ((Try.prog.info? 189).getD default) := (info_of inf_189).1
theorem inf_189_z : ((Try.prog.info? 189).getD default).zero = some (Value.pointer none) := (info_of inf_189).2.1
theorem inf_189_s : ((Try.prog.info? 189).getD default).size = 1 := (info_of inf_189).2.2.1
theorem inf_189_b : ((Try.prog.info? 189).getD default).bytes = 8 := (info_of inf_189).2.2.2
end Go.Proofs.Ytojkmhfpnkhfaaa
