/- Sizes and zero values of the types that the walks name. Conditions: none. -/
import Derived.Test.YtpbpgbkpciffgaaRows
import Derived.Test.YtpbpgbkpciffgaaGl3
namespace Go.Proofs.Ytpbpgbkpciffgaa
open Go Go.RowKit
theorem sz_2 : (Try.prog.info? 2).map (·.size) = some 1 := by kernel_rfl
theorem sz_3 : (Try.prog.info? 3).map (·.size) = some 1 := by kernel_rfl
theorem sz_4 : (Try.prog.info? 4).map (·.size) = some 1 := by kernel_rfl
theorem sz_5 : (Try.prog.info? 5).map (·.size) = some 1 := by kernel_rfl
theorem sz_6 : (Try.prog.info? 6).map (·.size) = some 1 := by kernel_rfl
theorem sz_7 : (Try.prog.info? 7).map (·.size) = some 4 := by kernel_rfl
theorem sz_8 : (Try.prog.info? 8).map (·.size) = some 4 := by kernel_rfl
theorem sz_9 : (Try.prog.info? 9).map (·.size) = some 1 := by kernel_rfl
theorem sz_10 : (Try.prog.info? 10).map (·.size) = some 1 := by kernel_rfl
theorem sz_11 : (Try.prog.info? 11).map (·.size) = some 1 := by kernel_rfl
theorem sz_12 : (Try.prog.info? 12).map (·.size) = some 1 := by kernel_rfl
theorem sz_13 : (Try.prog.info? 13).map (·.size) = some 2 := by kernel_rfl
theorem sz_14 : (Try.prog.info? 14).map (·.size) = some 2 := by kernel_rfl
theorem sz_15 : (Try.prog.info? 15).map (·.size) = some 1 := by kernel_rfl
theorem sz_16 : (Try.prog.info? 16).map (·.size) = some 1 := by kernel_rfl
theorem sz_17 : (Try.prog.info? 17).map (·.size) = some 1 := by kernel_rfl
theorem sz_18 : (Try.prog.info? 18).map (·.size) = some 1 := by kernel_rfl
theorem sz_19 : (Try.prog.info? 19).map (·.size) = some 1 := by kernel_rfl
theorem sz_20 : (Try.prog.info? 20).map (·.size) = some 1 := by kernel_rfl
theorem sz_21 : (Try.prog.info? 21).map (·.size) = some 1 := by kernel_rfl
theorem sz_22 : (Try.prog.info? 22).map (·.size) = some 1 := by kernel_rfl
theorem sz_23 : (Try.prog.info? 23).map (·.size) = some 1 := by kernel_rfl
theorem sz_24 : (Try.prog.info? 24).map (·.size) = some 6 := by kernel_rfl
theorem sz_25 : (Try.prog.info? 25).map (·.size) = some 9 := by kernel_rfl
theorem sz_26 : (Try.prog.info? 26).map (·.size) = some 9 := by kernel_rfl
theorem sz_28 : (Try.prog.info? 28).map (·.size) = some 1 := by kernel_rfl
theorem sz_29 : (Try.prog.info? 29).map (·.size) = some 1 := by kernel_rfl
theorem sz_30 : (Try.prog.info? 30).map (·.size) = some 1 := by kernel_rfl
theorem sz_33 : (Try.prog.info? 33).map (·.size) = some 1 := by kernel_rfl
theorem sz_36 : (Try.prog.info? 36).map (·.size) = some 1 := by kernel_rfl
theorem sz_37 : (Try.prog.info? 37).map (·.size) = some 2 := by kernel_rfl
theorem sz_38 : (Try.prog.info? 38).map (·.size) = some 2 := by kernel_rfl
theorem sz_41 : (Try.prog.info? 41).map (·.size) = some 1 := by kernel_rfl
theorem sz_42 : (Try.prog.info? 42).map (·.size) = some 4 := by kernel_rfl
theorem sz_43 : (Try.prog.info? 43).map (·.size) = some 4 := by kernel_rfl
theorem sz_45 : (Try.prog.info? 45).map (·.size) = some 1 := by kernel_rfl
theorem sz_47 : (Try.prog.info? 47).map (·.size) = some 1 := by kernel_rfl
theorem sz_50 : (Try.prog.info? 50).map (·.size) = some 1 := by kernel_rfl
theorem sz_53 : (Try.prog.info? 53).map (·.size) = some 1 := by kernel_rfl
theorem sz_56 : (Try.prog.info? 56).map (·.size) = some 1 := by kernel_rfl
theorem sz_58 : (Try.prog.info? 58).map (·.size) = some 1 := by kernel_rfl
theorem sz_59 : (Try.prog.info? 59).map (·.size) = some 2 := by kernel_rfl
theorem sz_60 : (Try.prog.info? 60).map (·.size) = some 2 := by kernel_rfl
theorem sz_62 : (Try.prog.info? 62).map (·.size) = some 1 := by kernel_rfl
theorem sz_63 : (Try.prog.info? 63).map (·.size) = some 1 := by kernel_rfl
theorem sz_64 : (Try.prog.info? 64).map (·.size) = some 6 := by kernel_rfl
theorem sz_65 : (Try.prog.info? 65).map (·.size) = some 6 := by kernel_rfl
theorem sz_66 : (Try.prog.info? 66).map (·.size) = some 1 := by kernel_rfl
theorem sz_67 : (Try.prog.info? 67).map (·.size) = some 8 := by kernel_rfl
theorem sz_68 : (Try.prog.info? 68).map (·.size) = some 8 := by kernel_rfl
theorem sz_69 : (Try.prog.info? 69).map (·.size) = some 1 := by kernel_rfl
theorem sz_70 : (Try.prog.info? 70).map (·.size) = some 1 := by kernel_rfl
theorem sz_71 : (Try.prog.info? 71).map (·.size) = some 1 := by kernel_rfl
theorem sz_72 : (Try.prog.info? 72).map (·.size) = some 8 := by kernel_rfl
theorem sz_73 : (Try.prog.info? 73).map (·.size) = some 8 := by kernel_rfl
theorem sz_76 : (Try.prog.info? 76).map (·.size) = some 1 := by kernel_rfl
theorem sz_77 : (Try.prog.info? 77).map (·.size) = some 1 := by kernel_rfl
theorem sz_78 : (Try.prog.info? 78).map (·.size) = some 7 := by kernel_rfl
theorem sz_79 : (Try.prog.info? 79).map (·.size) = some 7 := by kernel_rfl
theorem sz_82 : (Try.prog.info? 82).map (·.size) = some 1 := by kernel_rfl
theorem sz_83 : (Try.prog.info? 83).map (·.size) = some 1 := by kernel_rfl
theorem sz_84 : (Try.prog.info? 84).map (·.size) = some 1 := by kernel_rfl
theorem sz_86 : (Try.prog.info? 86).map (·.size) = some 1 := by kernel_rfl
theorem sz_87 : (Try.prog.info? 87).map (·.size) = some 7 := by kernel_rfl
theorem sz_88 : (Try.prog.info? 88).map (·.size) = some 7 := by kernel_rfl
theorem sz_94 : (Try.prog.info? 94).map (·.size) = some 1 := by kernel_rfl
theorem sz_95 : (Try.prog.info? 95).map (·.size) = some 1 := by kernel_rfl
theorem sz_97 : (Try.prog.info? 97).map (·.size) = some 1 := by kernel_rfl
theorem sz_99 : (Try.prog.info? 99).map (·.size) = some 1 := by kernel_rfl
theorem sz_102 : (Try.prog.info? 102).map (·.size) = some 1 := by kernel_rfl
theorem sz_103 : (Try.prog.info? 103).map (·.size) = some 1 := by kernel_rfl
theorem sz_104 : (Try.prog.info? 104).map (·.size) = some 3 := by kernel_rfl
theorem sz_105 : (Try.prog.info? 105).map (·.size) = some 3 := by kernel_rfl
theorem sz_110 : (Try.prog.info? 110).map (·.size) = some 0 := by kernel_rfl
theorem sz_111 : (Try.prog.info? 111).map (·.size) = some 0 := by kernel_rfl
theorem sz_112 : (Try.prog.info? 112).map (·.size) = some 0 := by kernel_rfl
theorem sz_113 : (Try.prog.info? 113).map (·.size) = some 1 := by kernel_rfl
theorem sz_114 : (Try.prog.info? 114).map (·.size) = some 1 := by kernel_rfl
theorem sz_115 : (Try.prog.info? 115).map (·.size) = some 3 := by kernel_rfl
theorem sz_116 : (Try.prog.info? 116).map (·.size) = some 3 := by kernel_rfl
theorem sz_119 : (Try.prog.info? 119).map (·.size) = some 1 := by kernel_rfl
theorem sz_122 : (Try.prog.info? 122).map (·.size) = some 16 := by kernel_rfl
theorem sz_123 : (Try.prog.info? 123).map (·.size) = some 16 := by kernel_rfl
theorem sz_124 : (Try.prog.info? 124).map (·.size) = some 16 := by kernel_rfl
theorem sz_126 : (Try.prog.info? 126).map (·.size) = some 2 := by kernel_rfl
theorem sz_127 : (Try.prog.info? 127).map (·.size) = some 2 := by kernel_rfl
theorem sz_131 : (Try.prog.info? 131).map (·.size) = some 1 := by kernel_rfl
theorem sz_132 : (Try.prog.info? 132).map (·.size) = some 1 := by kernel_rfl
theorem sz_133 : (Try.prog.info? 133).map (·.size) = some 2 := by kernel_rfl
theorem sz_134 : (Try.prog.info? 134).map (·.size) = some 2 := by kernel_rfl
theorem sz_136 : (Try.prog.info? 136).map (·.size) = some 16 := by kernel_rfl
theorem sz_137 : (Try.prog.info? 137).map (·.size) = some 30 := by kernel_rfl
theorem sz_138 : (Try.prog.info? 138).map (·.size) = some 30 := by kernel_rfl
theorem sz_141 : (Try.prog.info? 141).map (·.size) = some 6 := by kernel_rfl
theorem sz_142 : (Try.prog.info? 142).map (·.size) = some 6 := by kernel_rfl
theorem sz_143 : (Try.prog.info? 143).map (·.size) = some 16 := by kernel_rfl
theorem sz_148 : (Try.prog.info? 148).map (·.size) = some 4 := by kernel_rfl
theorem sz_149 : (Try.prog.info? 149).map (·.size) = some 4 := by kernel_rfl
theorem sz_150 : (Try.prog.info? 150).map (·.size) = some 1 := by kernel_rfl
theorem sz_156 : (Try.prog.info? 156).map (·.size) = some 1 := by kernel_rfl
theorem sz_158 : (Try.prog.info? 158).map (·.size) = some 1 := by kernel_rfl
theorem sz_162 : (Try.prog.info? 162).map (·.size) = some 1 := by kernel_rfl
theorem sz_164 : (Try.prog.info? 164).map (·.size) = some 1 := by kernel_rfl
theorem sz_166 : (Try.prog.info? 166).map (·.size) = some 1 := by kernel_rfl
theorem sz_167 : (Try.prog.info? 167).map (·.size) = some 1 := by kernel_rfl
theorem sz_169 : (Try.prog.info? 169).map (·.size) = some 1 := by kernel_rfl
theorem sz_179 : (Try.prog.info? 179).map (·.size) = some 1 := by kernel_rfl
theorem sz_191 : (Try.prog.info? 191).map (·.size) = some 1 := by kernel_rfl
theorem sz_195 : (Try.prog.info? 195).map (·.size) = some 1 := by kernel_rfl
theorem sz_198 : (Try.prog.info? 198).map (·.size) = some 64 := by kernel_rfl
theorem sz_201 : (Try.prog.info? 201).map (·.size) = some 1 := by kernel_rfl
theorem sz_202 : (Try.prog.info? 202).map (·.size) = some 1 := by kernel_rfl
theorem sz_207 : (Try.prog.info? 207).map (·.size) = some 4 := by kernel_rfl
theorem sz_208 : (Try.prog.info? 208).map (·.size) = some 4 := by kernel_rfl
theorem sz_209 : (Try.prog.info? 209).map (·.size) = some 0 := by kernel_rfl
theorem sz_210 : (Try.prog.info? 210).map (·.size) = some 0 := by kernel_rfl
theorem sz_211 : (Try.prog.info? 211).map (·.size) = some 0 := by kernel_rfl
theorem sz_212 : (Try.prog.info? 212).map (·.size) = some 1 := by kernel_rfl
theorem sz_213 : (Try.prog.info? 213).map (·.size) = some 1 := by kernel_rfl
theorem sz_215 : (Try.prog.info? 215).map (·.size) = some 1 := by kernel_rfl
theorem sz_216 : (Try.prog.info? 216).map (·.size) = some 1 := by kernel_rfl
theorem sz_217 : (Try.prog.info? 217).map (·.size) = some 1 := by kernel_rfl
theorem sz_218 : (Try.prog.info? 218).map (·.size) = some 11 := by kernel_rfl
theorem sz_219 : (Try.prog.info? 219).map (·.size) = some 11 := by kernel_rfl
theorem sz_221 : (Try.prog.info? 221).map (·.size) = some 1 := by kernel_rfl
theorem sz_222 : (Try.prog.info? 222).map (·.size) = some 1 := by kernel_rfl
theorem sz_223 : (Try.prog.info? 223).map (·.size) = some 1 := by kernel_rfl
theorem sz_225 : (Try.prog.info? 225).map (·.size) = some 1 := by kernel_rfl
theorem sz_226 : (Try.prog.info? 226).map (·.size) = some 8 := by kernel_rfl
theorem sz_227 : (Try.prog.info? 227).map (·.size) = some 1 := by kernel_rfl
theorem sz_229 : (Try.prog.info? 229).map (·.size) = some 1 := by kernel_rfl
theorem sz_230 : (Try.prog.info? 230).map (·.size) = some 1 := by kernel_rfl
theorem sz_231 : (Try.prog.info? 231).map (·.size) = some 3 := by kernel_rfl
theorem sz_232 : (Try.prog.info? 232).map (·.size) = some 3 := by kernel_rfl
theorem fo_7_0 : FldOff Try.prog 7 0 0 := .of Try.underlying7 rfl (by kernel_rfl) rfl
theorem fo_7_1 : FldOff Try.prog 7 1 1 := .of Try.underlying7 rfl (by kernel_rfl) rfl
theorem fo_7_2 : FldOff Try.prog 7 2 2 := .of Try.underlying7 rfl (by kernel_rfl) rfl
theorem fo_7_3 : FldOff Try.prog 7 3 3 := .of Try.underlying7 rfl (by kernel_rfl) rfl
theorem fo_8_0 : FldOff Try.prog 8 0 0 := .of Try.underlying8 rfl (by kernel_rfl) rfl
theorem fo_8_1 : FldOff Try.prog 8 1 1 := .of Try.underlying8 rfl (by kernel_rfl) rfl
theorem fo_8_2 : FldOff Try.prog 8 2 2 := .of Try.underlying8 rfl (by kernel_rfl) rfl
theorem fo_8_3 : FldOff Try.prog 8 3 3 := .of Try.underlying8 rfl (by kernel_rfl) rfl
theorem fo_13_0 : FldOff Try.prog 13 0 0 := .of Try.underlying13 rfl (by kernel_rfl) rfl
theorem fo_13_1 : FldOff Try.prog 13 1 1 := .of Try.underlying13 rfl (by kernel_rfl) rfl
theorem fo_14_0 : FldOff Try.prog 14 0 0 := .of Try.underlying14 rfl (by kernel_rfl) rfl
theorem fo_14_1 : FldOff Try.prog 14 1 1 := .of Try.underlying14 rfl (by kernel_rfl) rfl
theorem fo_18_0 : FldOff Try.prog 18 0 0 := .of Try.underlying18 rfl (by kernel_rfl) rfl
theorem fo_19_0 : FldOff Try.prog 19 0 0 := .of Try.underlying19 rfl (by kernel_rfl) rfl
theorem fo_25_0 : FldOff Try.prog 25 0 0 := .of Try.underlying25 rfl (by kernel_rfl) rfl
theorem fo_25_1 : FldOff Try.prog 25 1 1 := .of Try.underlying25 rfl (by kernel_rfl) rfl
theorem fo_25_2 : FldOff Try.prog 25 2 2 := .of Try.underlying25 rfl (by kernel_rfl) rfl
theorem fo_25_3 : FldOff Try.prog 25 3 3 := .of Try.underlying25 rfl (by kernel_rfl) rfl
theorem fo_26_0 : FldOff Try.prog 26 0 0 := .of Try.underlying26 rfl (by kernel_rfl) rfl
theorem fo_26_1 : FldOff Try.prog 26 1 1 := .of Try.underlying26 rfl (by kernel_rfl) rfl
theorem fo_26_2 : FldOff Try.prog 26 2 2 := .of Try.underlying26 rfl (by kernel_rfl) rfl
theorem fo_26_3 : FldOff Try.prog 26 3 3 := .of Try.underlying26 rfl (by kernel_rfl) rfl
theorem fo_37_0 : FldOff Try.prog 37 0 0 := .of Try.underlying37 rfl (by kernel_rfl) rfl
theorem fo_37_1 : FldOff Try.prog 37 1 1 := .of Try.underlying37 rfl (by kernel_rfl) rfl
theorem fo_38_0 : FldOff Try.prog 38 0 0 := .of Try.underlying38 rfl (by kernel_rfl) rfl
theorem fo_38_1 : FldOff Try.prog 38 1 1 := .of Try.underlying38 rfl (by kernel_rfl) rfl
theorem fo_42_0 : FldOff Try.prog 42 0 0 := .of Try.underlying42 rfl (by kernel_rfl) rfl
theorem fo_42_1 : FldOff Try.prog 42 1 1 := .of Try.underlying42 rfl (by kernel_rfl) rfl
theorem fo_42_2 : FldOff Try.prog 42 2 2 := .of Try.underlying42 rfl (by kernel_rfl) rfl
theorem fo_42_3 : FldOff Try.prog 42 3 3 := .of Try.underlying42 rfl (by kernel_rfl) rfl
theorem fo_43_0 : FldOff Try.prog 43 0 0 := .of Try.underlying43 rfl (by kernel_rfl) rfl
theorem fo_43_1 : FldOff Try.prog 43 1 1 := .of Try.underlying43 rfl (by kernel_rfl) rfl
theorem fo_43_2 : FldOff Try.prog 43 2 2 := .of Try.underlying43 rfl (by kernel_rfl) rfl
theorem fo_43_3 : FldOff Try.prog 43 3 3 := .of Try.underlying43 rfl (by kernel_rfl) rfl
theorem fo_59_0 : FldOff Try.prog 59 0 0 := .of Try.underlying59 rfl (by kernel_rfl) rfl
theorem fo_59_1 : FldOff Try.prog 59 1 1 := .of Try.underlying59 rfl (by kernel_rfl) rfl
theorem fo_60_0 : FldOff Try.prog 60 0 0 := .of Try.underlying60 rfl (by kernel_rfl) rfl
theorem fo_60_1 : FldOff Try.prog 60 1 1 := .of Try.underlying60 rfl (by kernel_rfl) rfl
theorem fo_64_0 : FldOff Try.prog 64 0 0 := .of Try.underlying64 rfl (by kernel_rfl) rfl
theorem fo_64_1 : FldOff Try.prog 64 1 1 := .of Try.underlying64 rfl (by kernel_rfl) rfl
theorem fo_64_2 : FldOff Try.prog 64 2 2 := .of Try.underlying64 rfl (by kernel_rfl) rfl
theorem fo_64_3 : FldOff Try.prog 64 3 3 := .of Try.underlying64 rfl (by kernel_rfl) rfl
theorem fo_64_4 : FldOff Try.prog 64 4 5 := .of Try.underlying64 rfl (by kernel_rfl) rfl
theorem fo_65_0 : FldOff Try.prog 65 0 0 := .of Try.underlying65 rfl (by kernel_rfl) rfl
theorem fo_65_1 : FldOff Try.prog 65 1 1 := .of Try.underlying65 rfl (by kernel_rfl) rfl
theorem fo_65_2 : FldOff Try.prog 65 2 2 := .of Try.underlying65 rfl (by kernel_rfl) rfl
theorem fo_65_3 : FldOff Try.prog 65 3 3 := .of Try.underlying65 rfl (by kernel_rfl) rfl
theorem fo_65_4 : FldOff Try.prog 65 4 5 := .of Try.underlying65 rfl (by kernel_rfl) rfl
theorem fo_67_0 : FldOff Try.prog 67 0 0 := .of Try.underlying67 rfl (by kernel_rfl) rfl
theorem fo_67_1 : FldOff Try.prog 67 1 1 := .of Try.underlying67 rfl (by kernel_rfl) rfl
theorem fo_67_2 : FldOff Try.prog 67 2 2 := .of Try.underlying67 rfl (by kernel_rfl) rfl
theorem fo_67_3 : FldOff Try.prog 67 3 3 := .of Try.underlying67 rfl (by kernel_rfl) rfl
theorem fo_67_4 : FldOff Try.prog 67 4 5 := .of Try.underlying67 rfl (by kernel_rfl) rfl
theorem fo_67_5 : FldOff Try.prog 67 5 6 := .of Try.underlying67 rfl (by kernel_rfl) rfl
theorem fo_67_6 : FldOff Try.prog 67 6 7 := .of Try.underlying67 rfl (by kernel_rfl) rfl
theorem fo_68_0 : FldOff Try.prog 68 0 0 := .of Try.underlying68 rfl (by kernel_rfl) rfl
theorem fo_68_1 : FldOff Try.prog 68 1 1 := .of Try.underlying68 rfl (by kernel_rfl) rfl
theorem fo_68_2 : FldOff Try.prog 68 2 2 := .of Try.underlying68 rfl (by kernel_rfl) rfl
theorem fo_68_3 : FldOff Try.prog 68 3 3 := .of Try.underlying68 rfl (by kernel_rfl) rfl
theorem fo_68_4 : FldOff Try.prog 68 4 5 := .of Try.underlying68 rfl (by kernel_rfl) rfl
theorem fo_68_5 : FldOff Try.prog 68 5 6 := .of Try.underlying68 rfl (by kernel_rfl) rfl
theorem fo_68_6 : FldOff Try.prog 68 6 7 := .of Try.underlying68 rfl (by kernel_rfl) rfl
theorem fo_72_0 : FldOff Try.prog 72 0 0 := .of Try.underlying72 rfl (by kernel_rfl) rfl
theorem fo_72_1 : FldOff Try.prog 72 1 1 := .of Try.underlying72 rfl (by kernel_rfl) rfl
theorem fo_72_2 : FldOff Try.prog 72 2 2 := .of Try.underlying72 rfl (by kernel_rfl) rfl
theorem fo_72_3 : FldOff Try.prog 72 3 4 := .of Try.underlying72 rfl (by kernel_rfl) rfl
theorem fo_72_4 : FldOff Try.prog 72 4 5 := .of Try.underlying72 rfl (by kernel_rfl) rfl
theorem fo_72_5 : FldOff Try.prog 72 5 6 := .of Try.underlying72 rfl (by kernel_rfl) rfl
theorem fo_72_6 : FldOff Try.prog 72 6 7 := .of Try.underlying72 rfl (by kernel_rfl) rfl
theorem fo_73_0 : FldOff Try.prog 73 0 0 := .of Try.underlying73 rfl (by kernel_rfl) rfl
theorem fo_73_1 : FldOff Try.prog 73 1 1 := .of Try.underlying73 rfl (by kernel_rfl) rfl
theorem fo_73_2 : FldOff Try.prog 73 2 2 := .of Try.underlying73 rfl (by kernel_rfl) rfl
theorem fo_73_3 : FldOff Try.prog 73 3 4 := .of Try.underlying73 rfl (by kernel_rfl) rfl
theorem fo_73_4 : FldOff Try.prog 73 4 5 := .of Try.underlying73 rfl (by kernel_rfl) rfl
theorem fo_73_5 : FldOff Try.prog 73 5 6 := .of Try.underlying73 rfl (by kernel_rfl) rfl
theorem fo_73_6 : FldOff Try.prog 73 6 7 := .of Try.underlying73 rfl (by kernel_rfl) rfl
theorem fo_78_0 : FldOff Try.prog 78 0 0 := .of Try.underlying78 rfl (by kernel_rfl) rfl
theorem fo_78_1 : FldOff Try.prog 78 1 1 := .of Try.underlying78 rfl (by kernel_rfl) rfl
theorem fo_78_2 : FldOff Try.prog 78 2 3 := .of Try.underlying78 rfl (by kernel_rfl) rfl
theorem fo_78_3 : FldOff Try.prog 78 3 4 := .of Try.underlying78 rfl (by kernel_rfl) rfl
theorem fo_78_4 : FldOff Try.prog 78 4 5 := .of Try.underlying78 rfl (by kernel_rfl) rfl
theorem fo_78_5 : FldOff Try.prog 78 5 6 := .of Try.underlying78 rfl (by kernel_rfl) rfl
theorem fo_79_0 : FldOff Try.prog 79 0 0 := .of Try.underlying79 rfl (by kernel_rfl) rfl
theorem fo_79_1 : FldOff Try.prog 79 1 1 := .of Try.underlying79 rfl (by kernel_rfl) rfl
theorem fo_79_2 : FldOff Try.prog 79 2 3 := .of Try.underlying79 rfl (by kernel_rfl) rfl
theorem fo_79_3 : FldOff Try.prog 79 3 4 := .of Try.underlying79 rfl (by kernel_rfl) rfl
theorem fo_79_4 : FldOff Try.prog 79 4 5 := .of Try.underlying79 rfl (by kernel_rfl) rfl
theorem fo_79_5 : FldOff Try.prog 79 5 6 := .of Try.underlying79 rfl (by kernel_rfl) rfl
theorem fo_87_0 : FldOff Try.prog 87 0 0 := .of Try.underlying87 rfl (by kernel_rfl) rfl
theorem fo_87_1 : FldOff Try.prog 87 1 1 := .of Try.underlying87 rfl (by kernel_rfl) rfl
theorem fo_87_2 : FldOff Try.prog 87 2 2 := .of Try.underlying87 rfl (by kernel_rfl) rfl
theorem fo_87_3 : FldOff Try.prog 87 3 3 := .of Try.underlying87 rfl (by kernel_rfl) rfl
theorem fo_88_0 : FldOff Try.prog 88 0 0 := .of Try.underlying88 rfl (by kernel_rfl) rfl
theorem fo_88_1 : FldOff Try.prog 88 1 1 := .of Try.underlying88 rfl (by kernel_rfl) rfl
theorem fo_88_2 : FldOff Try.prog 88 2 2 := .of Try.underlying88 rfl (by kernel_rfl) rfl
theorem fo_88_3 : FldOff Try.prog 88 3 3 := .of Try.underlying88 rfl (by kernel_rfl) rfl
theorem fo_104_0 : FldOff Try.prog 104 0 0 := .of Try.underlying104 rfl (by kernel_rfl) rfl
theorem fo_104_1 : FldOff Try.prog 104 1 1 := .of Try.underlying104 rfl (by kernel_rfl) rfl
theorem fo_104_2 : FldOff Try.prog 104 2 2 := .of Try.underlying104 rfl (by kernel_rfl) rfl
theorem fo_105_0 : FldOff Try.prog 105 0 0 := .of Try.underlying105 rfl (by kernel_rfl) rfl
theorem fo_105_1 : FldOff Try.prog 105 1 1 := .of Try.underlying105 rfl (by kernel_rfl) rfl
theorem fo_105_2 : FldOff Try.prog 105 2 2 := .of Try.underlying105 rfl (by kernel_rfl) rfl
theorem fo_113_2 : FldOff Try.prog 113 2 0 := .of Try.underlying113 rfl (by kernel_rfl) rfl
theorem fo_114_2 : FldOff Try.prog 114 2 0 := .of Try.underlying114 rfl (by kernel_rfl) rfl
theorem fo_115_0 : FldOff Try.prog 115 0 0 := .of Try.underlying115 rfl (by kernel_rfl) rfl
theorem fo_115_1 : FldOff Try.prog 115 1 1 := .of Try.underlying115 rfl (by kernel_rfl) rfl
theorem fo_115_2 : FldOff Try.prog 115 2 2 := .of Try.underlying115 rfl (by kernel_rfl) rfl
theorem fo_116_0 : FldOff Try.prog 116 0 0 := .of Try.underlying116 rfl (by kernel_rfl) rfl
theorem fo_116_1 : FldOff Try.prog 116 1 1 := .of Try.underlying116 rfl (by kernel_rfl) rfl
theorem fo_116_2 : FldOff Try.prog 116 2 2 := .of Try.underlying116 rfl (by kernel_rfl) rfl
theorem fo_123_0 : FldOff Try.prog 123 0 0 := .of Try.underlying123 rfl (by kernel_rfl) rfl
theorem fo_124_0 : FldOff Try.prog 124 0 0 := .of Try.underlying124 rfl (by kernel_rfl) rfl
theorem fo_126_0 : FldOff Try.prog 126 0 0 := .of Try.underlying126 rfl (by kernel_rfl) rfl
theorem fo_126_1 : FldOff Try.prog 126 1 1 := .of Try.underlying126 rfl (by kernel_rfl) rfl
theorem fo_127_0 : FldOff Try.prog 127 0 0 := .of Try.underlying127 rfl (by kernel_rfl) rfl
theorem fo_127_1 : FldOff Try.prog 127 1 1 := .of Try.underlying127 rfl (by kernel_rfl) rfl
theorem fo_133_0 : FldOff Try.prog 133 0 0 := .of Try.underlying133 rfl (by kernel_rfl) rfl
theorem fo_133_1 : FldOff Try.prog 133 1 1 := .of Try.underlying133 rfl (by kernel_rfl) rfl
theorem fo_134_0 : FldOff Try.prog 134 0 0 := .of Try.underlying134 rfl (by kernel_rfl) rfl
theorem fo_134_1 : FldOff Try.prog 134 1 1 := .of Try.underlying134 rfl (by kernel_rfl) rfl
theorem fo_137_0 : FldOff Try.prog 137 0 0 := .of Try.underlying137 rfl (by kernel_rfl) rfl
theorem fo_137_1 : FldOff Try.prog 137 1 1 := .of Try.underlying137 rfl (by kernel_rfl) rfl
theorem fo_137_2 : FldOff Try.prog 137 2 2 := .of Try.underlying137 rfl (by kernel_rfl) rfl
theorem fo_137_3 : FldOff Try.prog 137 3 18 := .of Try.underlying137 rfl (by kernel_rfl) rfl
theorem fo_137_4 : FldOff Try.prog 137 4 19 := .of Try.underlying137 rfl (by kernel_rfl) rfl
theorem fo_137_5 : FldOff Try.prog 137 5 28 := .of Try.underlying137 rfl (by kernel_rfl) rfl
theorem fo_137_6 : FldOff Try.prog 137 6 29 := .of Try.underlying137 rfl (by kernel_rfl) rfl
theorem fo_138_0 : FldOff Try.prog 138 0 0 := .of Try.underlying138 rfl (by kernel_rfl) rfl
theorem fo_138_1 : FldOff Try.prog 138 1 1 := .of Try.underlying138 rfl (by kernel_rfl) rfl
theorem fo_138_2 : FldOff Try.prog 138 2 2 := .of Try.underlying138 rfl (by kernel_rfl) rfl
theorem fo_138_3 : FldOff Try.prog 138 3 18 := .of Try.underlying138 rfl (by kernel_rfl) rfl
theorem fo_138_4 : FldOff Try.prog 138 4 19 := .of Try.underlying138 rfl (by kernel_rfl) rfl
theorem fo_138_5 : FldOff Try.prog 138 5 28 := .of Try.underlying138 rfl (by kernel_rfl) rfl
theorem fo_138_6 : FldOff Try.prog 138 6 29 := .of Try.underlying138 rfl (by kernel_rfl) rfl
theorem fo_141_0 : FldOff Try.prog 141 0 0 := .of Try.underlying141 rfl (by kernel_rfl) rfl
theorem fo_141_1 : FldOff Try.prog 141 1 1 := .of Try.underlying141 rfl (by kernel_rfl) rfl
theorem fo_141_2 : FldOff Try.prog 141 2 2 := .of Try.underlying141 rfl (by kernel_rfl) rfl
theorem fo_141_3 : FldOff Try.prog 141 3 3 := .of Try.underlying141 rfl (by kernel_rfl) rfl
theorem fo_141_4 : FldOff Try.prog 141 4 4 := .of Try.underlying141 rfl (by kernel_rfl) rfl
theorem fo_141_5 : FldOff Try.prog 141 5 5 := .of Try.underlying141 rfl (by kernel_rfl) rfl
theorem fo_142_0 : FldOff Try.prog 142 0 0 := .of Try.underlying142 rfl (by kernel_rfl) rfl
theorem fo_142_1 : FldOff Try.prog 142 1 1 := .of Try.underlying142 rfl (by kernel_rfl) rfl
theorem fo_142_2 : FldOff Try.prog 142 2 2 := .of Try.underlying142 rfl (by kernel_rfl) rfl
theorem fo_142_3 : FldOff Try.prog 142 3 3 := .of Try.underlying142 rfl (by kernel_rfl) rfl
theorem fo_142_4 : FldOff Try.prog 142 4 4 := .of Try.underlying142 rfl (by kernel_rfl) rfl
theorem fo_142_5 : FldOff Try.prog 142 5 5 := .of Try.underlying142 rfl (by kernel_rfl) rfl
theorem fo_148_0 : FldOff Try.prog 148 0 0 := .of Try.underlying148 rfl (by kernel_rfl) rfl
theorem fo_148_1 : FldOff Try.prog 148 1 1 := .of Try.underlying148 rfl (by kernel_rfl) rfl
theorem fo_148_2 : FldOff Try.prog 148 2 2 := .of Try.underlying148 rfl (by kernel_rfl) rfl
theorem fo_148_3 : FldOff Try.prog 148 3 3 := .of Try.underlying148 rfl (by kernel_rfl) rfl
theorem fo_149_0 : FldOff Try.prog 149 0 0 := .of Try.underlying149 rfl (by kernel_rfl) rfl
theorem fo_149_1 : FldOff Try.prog 149 1 1 := .of Try.underlying149 rfl (by kernel_rfl) rfl
theorem fo_149_2 : FldOff Try.prog 149 2 2 := .of Try.underlying149 rfl (by kernel_rfl) rfl
theorem fo_149_3 : FldOff Try.prog 149 3 3 := .of Try.underlying149 rfl (by kernel_rfl) rfl
theorem fo_207_0 : FldOff Try.prog 207 0 0 := .of Try.underlying207 rfl (by kernel_rfl) rfl
theorem fo_207_1 : FldOff Try.prog 207 1 1 := .of Try.underlying207 rfl (by kernel_rfl) rfl
theorem fo_207_2 : FldOff Try.prog 207 2 2 := .of Try.underlying207 rfl (by kernel_rfl) rfl
theorem fo_207_3 : FldOff Try.prog 207 3 3 := .of Try.underlying207 rfl (by kernel_rfl) rfl
theorem fo_208_0 : FldOff Try.prog 208 0 0 := .of Try.underlying208 rfl (by kernel_rfl) rfl
theorem fo_208_1 : FldOff Try.prog 208 1 1 := .of Try.underlying208 rfl (by kernel_rfl) rfl
theorem fo_208_2 : FldOff Try.prog 208 2 2 := .of Try.underlying208 rfl (by kernel_rfl) rfl
theorem fo_208_3 : FldOff Try.prog 208 3 3 := .of Try.underlying208 rfl (by kernel_rfl) rfl
theorem fo_218_0 : FldOff Try.prog 218 0 0 := .of Try.underlying218 rfl (by kernel_rfl) rfl
theorem fo_218_1 : FldOff Try.prog 218 1 1 := .of Try.underlying218 rfl (by kernel_rfl) rfl
theorem fo_218_2 : FldOff Try.prog 218 2 2 := .of Try.underlying218 rfl (by kernel_rfl) rfl
theorem fo_218_3 : FldOff Try.prog 218 3 3 := .of Try.underlying218 rfl (by kernel_rfl) rfl
theorem fo_218_4 : FldOff Try.prog 218 4 4 := .of Try.underlying218 rfl (by kernel_rfl) rfl
theorem fo_218_5 : FldOff Try.prog 218 5 5 := .of Try.underlying218 rfl (by kernel_rfl) rfl
theorem fo_218_6 : FldOff Try.prog 218 6 6 := .of Try.underlying218 rfl (by kernel_rfl) rfl
theorem fo_218_7 : FldOff Try.prog 218 7 7 := .of Try.underlying218 rfl (by kernel_rfl) rfl
theorem fo_218_8 : FldOff Try.prog 218 8 8 := .of Try.underlying218 rfl (by kernel_rfl) rfl
theorem fo_218_9 : FldOff Try.prog 218 9 9 := .of Try.underlying218 rfl (by kernel_rfl) rfl
theorem fo_218_10 : FldOff Try.prog 218 10 10 := .of Try.underlying218 rfl (by kernel_rfl) rfl
theorem fo_219_0 : FldOff Try.prog 219 0 0 := .of Try.underlying219 rfl (by kernel_rfl) rfl
theorem fo_219_1 : FldOff Try.prog 219 1 1 := .of Try.underlying219 rfl (by kernel_rfl) rfl
theorem fo_219_2 : FldOff Try.prog 219 2 2 := .of Try.underlying219 rfl (by kernel_rfl) rfl
theorem fo_219_3 : FldOff Try.prog 219 3 3 := .of Try.underlying219 rfl (by kernel_rfl) rfl
theorem fo_219_4 : FldOff Try.prog 219 4 4 := .of Try.underlying219 rfl (by kernel_rfl) rfl
theorem fo_219_5 : FldOff Try.prog 219 5 5 := .of Try.underlying219 rfl (by kernel_rfl) rfl
theorem fo_219_6 : FldOff Try.prog 219 6 6 := .of Try.underlying219 rfl (by kernel_rfl) rfl
theorem fo_219_7 : FldOff Try.prog 219 7 7 := .of Try.underlying219 rfl (by kernel_rfl) rfl
theorem fo_219_8 : FldOff Try.prog 219 8 8 := .of Try.underlying219 rfl (by kernel_rfl) rfl
theorem fo_219_9 : FldOff Try.prog 219 9 9 := .of Try.underlying219 rfl (by kernel_rfl) rfl
theorem fo_219_10 : FldOff Try.prog 219 10 10 := .of Try.underlying219 rfl (by kernel_rfl) rfl
theorem fo_222_0 : FldOff Try.prog 222 0 0 := .of Try.underlying222 rfl (by kernel_rfl) rfl
theorem fo_223_0 : FldOff Try.prog 223 0 0 := .of Try.underlying223 rfl (by kernel_rfl) rfl
theorem fo_231_0 : FldOff Try.prog 231 0 0 := .of Try.underlying231 rfl (by kernel_rfl) rfl
theorem fo_231_1 : FldOff Try.prog 231 1 1 := .of Try.underlying231 rfl (by kernel_rfl) rfl
theorem fo_231_2 : FldOff Try.prog 231 2 2 := .of Try.underlying231 rfl (by kernel_rfl) rfl
theorem fo_232_0 : FldOff Try.prog 232 0 0 := .of Try.underlying232 rfl (by kernel_rfl) rfl
theorem fo_232_1 : FldOff Try.prog 232 1 1 := .of Try.underlying232 rfl (by kernel_rfl) rfl
theorem fo_232_2 : FldOff Try.prog 232 2 2 := .of Try.underlying232 rfl (by kernel_rfl) rfl
theorem inf_3 : (Try.prog.info? 3).map (fun i => (i.zero, i.size, i.bytes)) = some (some (Value.int .i64 0), 1, 8) := by kernel_rfl
theorem inf_3_i : Try.prog.info? 3 = some ((Try.prog.info? 3).getD default) := (info_of inf_3).1
theorem inf_3_z : ((Try.prog.info? 3).getD default).zero = some (Value.int .i64 0) := (info_of inf_3).2.1
theorem inf_3_s : ((Try.prog.info? 3).getD default).size = 1 := (info_of inf_3).2.2.1
theorem inf_3_b : ((Try.prog.info? 3).getD default).bytes = 8 := (info_of inf_3).2.2.2
theorem inf_5 : (Try.prog.info? 5).map (fun i => (i.zero, i.size, i.bytes)) = some (some (Value.int .u8 0), 1, 1) := by kernel_rfl
theorem inf_5_i : Try.prog.info? 5 = some ((Try.prog.info? 5).getD default) := (info_of inf_5).1
theorem inf_5_z : ((Try.prog.info? 5).getD default).zero = some (Value.int .u8 0) := (info_of inf_5).2.1
theorem inf_5_s : ((Try.prog.info? 5).getD default).size = 1 := (info_of inf_5).2.2.1
theorem inf_5_b : ((Try.prog.info? 5).getD default).bytes = 1 := (info_of inf_5).2.2.2
theorem inf_22 : (Try.prog.info? 22).map (fun i => (i.zero, i.size, i.bytes)) = some (some (Value.int .u32 0), 1, 4) := by kernel_rfl
theorem inf_22_i : Try.prog.info? 22 = some ((Try.prog.info? 22).getD default) := (info_of inf_22).1
theorem inf_22_z : ((Try.prog.info? 22).getD default).zero = some (Value.int .u32 0) := (info_of inf_22).2.1
theorem inf_22_s : ((Try.prog.info? 22).getD default).size = 1 := (info_of inf_22).2.2.1
theorem inf_22_b : ((Try.prog.info? 22).getD default).bytes = 4 := (info_of inf_22).2.2.2
theorem inf_26 : (Try.prog.info? 26).map (fun i => (i.zero, i.size, i.bytes)) = some (some (Value.agg #[Value.int .u32 0, Value.int .u32 0, Value.int .u64 0, Value.int .u64 0, Value.int .u64 0, Value.int .u64 0, Value.int .u64 0, Value.int .u64 0, Value.int .u64 0]), 9, 64) := by kernel_rfl
theorem inf_26_i : Try.prog.info? 26 = some ((Try.prog.info? 26).getD default) := (info_of inf_26).1
theorem inf_26_z : ((Try.prog.info? 26).getD default).zero = some (Value.agg #[Value.int .u32 0, Value.int .u32 0, Value.int .u64 0, Value.int .u64 0, Value.int .u64 0, Value.int .u64 0, Value.int .u64 0, Value.int .u64 0, Value.int .u64 0]) := (info_of inf_26).2.1
theorem inf_26_s : ((Try.prog.info? 26).getD default).size = 9 := (info_of inf_26).2.2.1
theorem inf_26_b : ((Try.prog.info? 26).getD default).bytes = 64 := (info_of inf_26).2.2.2
theorem inf_33 : (Try.prog.info? 33).map (fun i => (i.zero, i.size, i.bytes)) = some (some (Value.int .u8 0), 1, 1) := by kernel_rfl
theorem inf_33_i : Try.prog.info? 33 = some ((Try.prog.info? 33).getD default) := (info_of inf_33).1
theorem inf_33_z : ((Try.prog.info? 33).getD default).zero = some (Value.int .u8 0) := (info_of inf_33).2.1
theorem inf_33_s : ((Try.prog.info? 33).getD default).size = 1 := (info_of inf_33).2.2.1
theorem inf_33_b : ((Try.prog.info? 33).getD default).bytes = 1 := (info_of inf_33).2.2.2
theorem inf_36 : (Try.prog.info? 36).map (fun i => (i.zero, i.size, i.bytes)) = some (some (Value.pointer none), 1, 8) := by kernel_rfl
theorem inf_36_i : Try.prog.info? 36 = some ((Try.prog.info? 36).getD default) := (info_of inf_36).1
theorem inf_36_z : ((Try.prog.info? 36).getD default).zero = some (Value.pointer none) := (info_of inf_36).2.1
theorem inf_36_s : ((Try.prog.info? 36).getD default).size = 1 := (info_of inf_36).2.2.1
theorem inf_36_b : ((Try.prog.info? 36).getD default).bytes = 8 := (info_of inf_36).2.2.2
theorem inf_41 : (Try.prog.info? 41).map (fun i => (i.zero, i.size, i.bytes)) = some (some (Value.int .u16 0), 1, 2) := by kernel_rfl
theorem inf_41_i : Try.prog.info? 41 = some ((Try.prog.info? 41).getD default) := (info_of inf_41).1
theorem inf_41_z : ((Try.prog.info? 41).getD default).zero = some (Value.int .u16 0) := (info_of inf_41).2.1
theorem inf_41_s : ((Try.prog.info? 41).getD default).size = 1 := (info_of inf_41).2.2.1
theorem inf_41_b : ((Try.prog.info? 41).getD default).bytes = 2 := (info_of inf_41).2.2.2
theorem inf_43 : (Try.prog.info? 43).map (fun i => (i.zero, i.size, i.bytes)) = some (some (Value.agg #[Value.int .u16 0, Value.int .u8 0, Value.int .u8 0, Value.int .u32 0]), 4, 8) := by kernel_rfl
theorem inf_43_i : Try.prog.info? 43 = some ((Try.prog.info? 43).getD default) := (info_of inf_43).1
theorem inf_43_z : ((Try.prog.info? 43).getD default).zero = some (Value.agg #[Value.int .u16 0, Value.int .u8 0, Value.int .u8 0, Value.int .u32 0]) := (info_of inf_43).2.1
theorem inf_43_s : ((Try.prog.info? 43).getD default).size = 4 := (info_of inf_43).2.2.1
theorem inf_43_b : ((Try.prog.info? 43).getD default).bytes = 8 := (info_of inf_43).2.2.2
theorem inf_60 : (Try.prog.info? 60).map (fun i => (i.zero, i.size, i.bytes)) = some (some (Value.agg #[Value.int .i64 0, Value.int .u16 0]), 2, 16) := by kernel_rfl
theorem inf_60_i : Try.prog.info? 60 = some ((Try.prog.info? 60).getD default) := (info_of inf_60).1
theorem inf_60_z : ((Try.prog.info? 60).getD default).zero = some (Value.agg #[Value.int .i64 0, Value.int .u16 0]) := (info_of inf_60).2.1
theorem inf_60_s : ((Try.prog.info? 60).getD default).size = 2 := (info_of inf_60).2.2.1
theorem inf_60_b : ((Try.prog.info? 60).getD default).bytes = 16 := (info_of inf_60).2.2.2
theorem inf_65 : (Try.prog.info? 65).map (fun i => (i.zero, i.size, i.bytes)) = some (some (Value.agg #[Value.int .i64 0, Value.int .i64 0, Value.slice none 0 0, Value.int .i64 0, Value.int .u16 0, Value.slice none 0 0]), 6, 80) := by kernel_rfl
theorem inf_65_i : Try.prog.info? 65 = some ((Try.prog.info? 65).getD default) := (info_of inf_65).1
theorem inf_65_z : ((Try.prog.info? 65).getD default).zero = some (Value.agg #[Value.int .i64 0, Value.int .i64 0, Value.slice none 0 0, Value.int .i64 0, Value.int .u16 0, Value.slice none 0 0]) := (info_of inf_65).2.1
theorem inf_65_s : ((Try.prog.info? 65).getD default).size = 6 := (info_of inf_65).2.2.1
theorem inf_65_b : ((Try.prog.info? 65).getD default).bytes = 80 := (info_of inf_65).2.2.2
theorem inf_68 : (Try.prog.info? 68).map (fun i => (i.zero, i.size, i.bytes)) = some (some (Value.agg #[Value.int .u8 0, Value.int .u8 0, Value.int .u32 0, Value.int .i64 0, Value.int .u16 0, Value.int .i64 0, Value.int .u8 0, Value.bool false]), 8, 40) := by kernel_rfl
theorem inf_68_i : Try.prog.info? 68 = some ((Try.prog.info? 68).getD default) := (info_of inf_68).1
theorem inf_68_z : ((Try.prog.info? 68).getD default).zero = some (Value.agg #[Value.int .u8 0, Value.int .u8 0, Value.int .u32 0, Value.int .i64 0, Value.int .u16 0, Value.int .i64 0, Value.int .u8 0, Value.bool false]) := (info_of inf_68).2.1
theorem inf_68_s : ((Try.prog.info? 68).getD default).size = 8 := (info_of inf_68).2.2.1
theorem inf_68_b : ((Try.prog.info? 68).getD default).bytes = 40 := (info_of inf_68).2.2.2
theorem inf_82 : (Try.prog.info? 82).map (fun i => (i.zero, i.size, i.bytes)) = some (some (Value.slice none 0 0), 1, 24) := by kernel_rfl
theorem inf_82_i : Try.prog.info? 82 = some ((Try.prog.info? 82).getD default) := (info_of inf_82).1
theorem inf_82_z : ((Try.prog.info? 82).getD default).zero = some (Value.slice none 0 0) := (info_of inf_82).2.1
theorem inf_82_s : ((Try.prog.info? 82).getD default).size = 1 := (info_of inf_82).2.2.1
theorem inf_82_b : ((Try.prog.info? 82).getD default).bytes = 24 := (info_of inf_82).2.2.2
theorem inf_88 : (Try.prog.info? 88).map (fun i => (i.zero, i.size, i.bytes)) = some (some (Value.agg #[Value.int .u8 0, Value.int .i64 0, Value.int .i64 0, Value.int .u16 0, Value.int .u8 0, Value.int .u8 0, Value.int .u32 0]), 7, 32) := by kernel_rfl
theorem inf_88_i : Try.prog.info? 88 = some ((Try.prog.info? 88).getD default) := (info_of inf_88).1
theorem inf_88_z : ((Try.prog.info? 88).getD default).zero = some (Value.agg #[Value.int .u8 0, Value.int .i64 0, Value.int .i64 0, Value.int .u16 0, Value.int .u8 0, Value.int .u8 0, Value.int .u32 0]) := (info_of inf_88).2.1
theorem inf_88_s : ((Try.prog.info? 88).getD default).size = 7 := (info_of inf_88).2.2.1
theorem inf_88_b : ((Try.prog.info? 88).getD default).bytes = 32 := (info_of inf_88).2.2.2
theorem inf_142 : (Try.prog.info? 142).map (fun i => (i.zero, i.size, i.bytes)) = some (some (Value.agg #[Value.int .u8 0, Value.int .u8 0, Value.int .u8 0, Value.int .u8 0, Value.int .u8 0, Value.int .u16 0]), 6, 8) := by kernel_rfl
theorem inf_142_i : Try.prog.info? 142 = some ((Try.prog.info? 142).getD default) := (info_of inf_142).1
theorem inf_142_z : ((Try.prog.info? 142).getD default).zero = some (Value.agg #[Value.int .u8 0, Value.int .u8 0, Value.int .u8 0, Value.int .u8 0, Value.int .u8 0, Value.int .u16 0]) := (info_of inf_142).2.1
theorem inf_142_s : ((Try.prog.info? 142).getD default).size = 6 := (info_of inf_142).2.2.1
theorem inf_142_b : ((Try.prog.info? 142).getD default).bytes = 8 := (info_of inf_142).2.2.2
theorem inf_149 : (Try.prog.info? 149).map (fun i => (i.zero, i.size, i.bytes)) = some (some (Value.agg #[Value.int .i64 0, Value.int .i64 0, Value.int .i64 0, Value.int .u32 0]), 4, 32) := by kernel_rfl
theorem inf_149_i : Try.prog.info? 149 = some ((Try.prog.info? 149).getD default) := (info_of inf_149).1
theorem inf_149_z : ((Try.prog.info? 149).getD default).zero = some (Value.agg #[Value.int .i64 0, Value.int .i64 0, Value.int .i64 0, Value.int .u32 0]) := (info_of inf_149).2.1
theorem inf_149_s : ((Try.prog.info? 149).getD default).size = 4 := (info_of inf_149).2.2.1
theorem inf_149_b : ((Try.prog.info? 149).getD default).bytes = 32 := (info_of inf_149).2.2.2
theorem inf_227 : (Try.prog.info? 227).map (fun i => (i.zero, i.size, i.bytes)) = some (some (Value.pointer none), 1, 8) := by kernel_rfl
theorem inf_227_i : Try.prog.info? 227 = some ((Try.prog.info? 227).getD default) := (info_of inf_227).1
theorem inf_227_z : ((Try.prog.info? 227).getD default).zero = some (Value.pointer none) := (info_of inf_227).2.1
theorem inf_227_s : ((Try.prog.info? 227).getD default).size = 1 := (info_of inf_227).2.2.1
theorem inf_227_b : ((Try.prog.info? 227).getD default).bytes = 8 := (info_of inf_227).2.2.2
end Go.Proofs.Ytpbpgbkpciffgaa
