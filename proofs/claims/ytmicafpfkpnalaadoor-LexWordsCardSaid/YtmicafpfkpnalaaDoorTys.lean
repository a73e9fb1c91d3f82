/- Sizes and zero values of the types that the walks name. Conditions: none. -/
import Derived.Test.YtmicafpfkpnalaaDoorRows
import Derived.Test.YtmicafpfkpnalaaDoorGl3
namespace Go.Proofs.YtmicafpfkpnalaaDoor
open Go Go.RowKit
theorem sz_2 : (Tryd.prog.info? 2).map (·.size) = some 1 := by kernel_rfl
theorem sz_3 : (Tryd.prog.info? 3).map (·.size) = some 1 := by kernel_rfl
theorem sz_4 : (Tryd.prog.info? 4).map (·.size) = some 1 := by kernel_rfl
theorem sz_5 : (Tryd.prog.info? 5).map (·.size) = some 1 := by kernel_rfl
theorem sz_6 : (Tryd.prog.info? 6).map (·.size) = some 1 := by kernel_rfl
theorem sz_7 : (Tryd.prog.info? 7).map (·.size) = some 4 := by kernel_rfl
theorem sz_8 : (Tryd.prog.info? 8).map (·.size) = some 4 := by kernel_rfl
theorem sz_9 : (Tryd.prog.info? 9).map (·.size) = some 1 := by kernel_rfl
theorem sz_10 : (Tryd.prog.info? 10).map (·.size) = some 1 := by kernel_rfl
theorem sz_11 : (Tryd.prog.info? 11).map (·.size) = some 1 := by kernel_rfl
theorem sz_12 : (Tryd.prog.info? 12).map (·.size) = some 1 := by kernel_rfl
theorem sz_13 : (Tryd.prog.info? 13).map (·.size) = some 2 := by kernel_rfl
theorem sz_14 : (Tryd.prog.info? 14).map (·.size) = some 2 := by kernel_rfl
theorem sz_15 : (Tryd.prog.info? 15).map (·.size) = some 1 := by kernel_rfl
theorem sz_16 : (Tryd.prog.info? 16).map (·.size) = some 1 := by kernel_rfl
theorem sz_17 : (Tryd.prog.info? 17).map (·.size) = some 1 := by kernel_rfl
theorem sz_18 : (Tryd.prog.info? 18).map (·.size) = some 1 := by kernel_rfl
theorem sz_19 : (Tryd.prog.info? 19).map (·.size) = some 1 := by kernel_rfl
theorem sz_20 : (Tryd.prog.info? 20).map (·.size) = some 1 := by kernel_rfl
theorem sz_21 : (Tryd.prog.info? 21).map (·.size) = some 1 := by kernel_rfl
theorem sz_22 : (Tryd.prog.info? 22).map (·.size) = some 1 := by kernel_rfl
theorem sz_28 : (Tryd.prog.info? 28).map (·.size) = some 1 := by kernel_rfl
theorem sz_29 : (Tryd.prog.info? 29).map (·.size) = some 1 := by kernel_rfl
theorem sz_30 : (Tryd.prog.info? 30).map (·.size) = some 1 := by kernel_rfl
theorem sz_31 : (Tryd.prog.info? 31).map (·.size) = some 4 := by kernel_rfl
theorem sz_32 : (Tryd.prog.info? 32).map (·.size) = some 4 := by kernel_rfl
theorem sz_33 : (Tryd.prog.info? 33).map (·.size) = some 1 := by kernel_rfl
theorem sz_34 : (Tryd.prog.info? 34).map (·.size) = some 6 := by kernel_rfl
theorem sz_35 : (Tryd.prog.info? 35).map (·.size) = some 6 := by kernel_rfl
theorem sz_36 : (Tryd.prog.info? 36).map (·.size) = some 1 := by kernel_rfl
theorem sz_37 : (Tryd.prog.info? 37).map (·.size) = some 1 := by kernel_rfl
theorem sz_43 : (Tryd.prog.info? 43).map (·.size) = some 1 := by kernel_rfl
theorem sz_47 : (Tryd.prog.info? 47).map (·.size) = some 1 := by kernel_rfl
theorem sz_49 : (Tryd.prog.info? 49).map (·.size) = some 1 := by kernel_rfl
theorem sz_50 : (Tryd.prog.info? 50).map (·.size) = some 1 := by kernel_rfl
theorem sz_51 : (Tryd.prog.info? 51).map (·.size) = some 3 := by kernel_rfl
theorem sz_52 : (Tryd.prog.info? 52).map (·.size) = some 3 := by kernel_rfl
theorem sz_53 : (Tryd.prog.info? 53).map (·.size) = some 5 := by kernel_rfl
theorem sz_54 : (Tryd.prog.info? 54).map (·.size) = some 5 := by kernel_rfl
theorem sz_55 : (Tryd.prog.info? 55).map (·.size) = some 1 := by kernel_rfl
theorem sz_56 : (Tryd.prog.info? 56).map (·.size) = some 1 := by kernel_rfl
theorem sz_57 : (Tryd.prog.info? 57).map (·.size) = some 3 := by kernel_rfl
theorem sz_58 : (Tryd.prog.info? 58).map (·.size) = some 3 := by kernel_rfl
theorem sz_66 : (Tryd.prog.info? 66).map (·.size) = some 1 := by kernel_rfl
theorem sz_67 : (Tryd.prog.info? 67).map (·.size) = some 1 := by kernel_rfl
theorem sz_68 : (Tryd.prog.info? 68).map (·.size) = some 1 := by kernel_rfl
theorem sz_69 : (Tryd.prog.info? 69).map (·.size) = some 1 := by kernel_rfl
theorem sz_70 : (Tryd.prog.info? 70).map (·.size) = some 1 := by kernel_rfl
theorem sz_71 : (Tryd.prog.info? 71).map (·.size) = some 6 := by kernel_rfl
theorem sz_72 : (Tryd.prog.info? 72).map (·.size) = some 6 := by kernel_rfl
theorem sz_73 : (Tryd.prog.info? 73).map (·.size) = some 1 := by kernel_rfl
theorem sz_74 : (Tryd.prog.info? 74).map (·.size) = some 1 := by kernel_rfl
theorem sz_75 : (Tryd.prog.info? 75).map (·.size) = some 8 := by kernel_rfl
theorem sz_76 : (Tryd.prog.info? 76).map (·.size) = some 8 := by kernel_rfl
theorem sz_77 : (Tryd.prog.info? 77).map (·.size) = some 1 := by kernel_rfl
theorem sz_78 : (Tryd.prog.info? 78).map (·.size) = some 4 := by kernel_rfl
theorem sz_79 : (Tryd.prog.info? 79).map (·.size) = some 4 := by kernel_rfl
theorem sz_81 : (Tryd.prog.info? 81).map (·.size) = some 1 := by kernel_rfl
theorem sz_84 : (Tryd.prog.info? 84).map (·.size) = some 1 := by kernel_rfl
theorem sz_85 : (Tryd.prog.info? 85).map (·.size) = some 3 := by kernel_rfl
theorem sz_86 : (Tryd.prog.info? 86).map (·.size) = some 3 := by kernel_rfl
theorem sz_87 : (Tryd.prog.info? 87).map (·.size) = some 2 := by kernel_rfl
theorem sz_88 : (Tryd.prog.info? 88).map (·.size) = some 2 := by kernel_rfl
theorem sz_89 : (Tryd.prog.info? 89).map (·.size) = some 2 := by kernel_rfl
theorem sz_90 : (Tryd.prog.info? 90).map (·.size) = some 2 := by kernel_rfl
theorem sz_91 : (Tryd.prog.info? 91).map (·.size) = some 1 := by kernel_rfl
theorem sz_94 : (Tryd.prog.info? 94).map (·.size) = some 1 := by kernel_rfl
theorem sz_95 : (Tryd.prog.info? 95).map (·.size) = some 1 := by kernel_rfl
theorem sz_96 : (Tryd.prog.info? 96).map (·.size) = some 1 := by kernel_rfl
theorem sz_97 : (Tryd.prog.info? 97).map (·.size) = some 6 := by kernel_rfl
theorem sz_98 : (Tryd.prog.info? 98).map (·.size) = some 6 := by kernel_rfl
theorem sz_102 : (Tryd.prog.info? 102).map (·.size) = some 4 := by kernel_rfl
theorem sz_103 : (Tryd.prog.info? 103).map (·.size) = some 4 := by kernel_rfl
theorem sz_110 : (Tryd.prog.info? 110).map (·.size) = some 1 := by kernel_rfl
theorem sz_111 : (Tryd.prog.info? 111).map (·.size) = some 1 := by kernel_rfl
theorem sz_113 : (Tryd.prog.info? 113).map (·.size) = some 1 := by kernel_rfl
theorem sz_114 : (Tryd.prog.info? 114).map (·.size) = some 3 := by kernel_rfl
theorem sz_115 : (Tryd.prog.info? 115).map (·.size) = some 3 := by kernel_rfl
theorem sz_122 : (Tryd.prog.info? 122).map (·.size) = some 1 := by kernel_rfl
theorem sz_123 : (Tryd.prog.info? 123).map (·.size) = some 1 := by kernel_rfl
theorem sz_124 : (Tryd.prog.info? 124).map (·.size) = some 2 := by kernel_rfl
theorem sz_125 : (Tryd.prog.info? 125).map (·.size) = some 2 := by kernel_rfl
theorem sz_126 : (Tryd.prog.info? 126).map (·.size) = some 1 := by kernel_rfl
theorem sz_127 : (Tryd.prog.info? 127).map (·.size) = some 1 := by kernel_rfl
theorem sz_132 : (Tryd.prog.info? 132).map (·.size) = some 9 := by kernel_rfl
theorem sz_133 : (Tryd.prog.info? 133).map (·.size) = some 9 := by kernel_rfl
theorem sz_136 : (Tryd.prog.info? 136).map (·.size) = some 1 := by kernel_rfl
theorem sz_138 : (Tryd.prog.info? 138).map (·.size) = some 7 := by kernel_rfl
theorem sz_139 : (Tryd.prog.info? 139).map (·.size) = some 7 := by kernel_rfl
theorem sz_140 : (Tryd.prog.info? 140).map (·.size) = some 0 := by kernel_rfl
theorem sz_141 : (Tryd.prog.info? 141).map (·.size) = some 0 := by kernel_rfl
theorem sz_142 : (Tryd.prog.info? 142).map (·.size) = some 0 := by kernel_rfl
theorem sz_143 : (Tryd.prog.info? 143).map (·.size) = some 1 := by kernel_rfl
theorem sz_144 : (Tryd.prog.info? 144).map (·.size) = some 1 := by kernel_rfl
theorem sz_145 : (Tryd.prog.info? 145).map (·.size) = some 2 := by kernel_rfl
theorem sz_146 : (Tryd.prog.info? 146).map (·.size) = some 2 := by kernel_rfl
theorem sz_147 : (Tryd.prog.info? 147).map (·.size) = some 2 := by kernel_rfl
theorem sz_148 : (Tryd.prog.info? 148).map (·.size) = some 2 := by kernel_rfl
theorem sz_149 : (Tryd.prog.info? 149).map (·.size) = some 3 := by kernel_rfl
theorem sz_150 : (Tryd.prog.info? 150).map (·.size) = some 3 := by kernel_rfl
theorem sz_151 : (Tryd.prog.info? 151).map (·.size) = some 1 := by kernel_rfl
theorem sz_152 : (Tryd.prog.info? 152).map (·.size) = some 1 := by kernel_rfl
theorem sz_153 : (Tryd.prog.info? 153).map (·.size) = some 0 := by kernel_rfl
theorem sz_154 : (Tryd.prog.info? 154).map (·.size) = some 1 := by kernel_rfl
theorem sz_155 : (Tryd.prog.info? 155).map (·.size) = some 1 := by kernel_rfl
theorem sz_156 : (Tryd.prog.info? 156).map (·.size) = some 7 := by kernel_rfl
theorem sz_157 : (Tryd.prog.info? 157).map (·.size) = some 7 := by kernel_rfl
theorem sz_158 : (Tryd.prog.info? 158).map (·.size) = some 1 := by kernel_rfl
theorem sz_161 : (Tryd.prog.info? 161).map (·.size) = some 1 := by kernel_rfl
theorem sz_162 : (Tryd.prog.info? 162).map (·.size) = some 4 := by kernel_rfl
theorem sz_163 : (Tryd.prog.info? 163).map (·.size) = some 4 := by kernel_rfl
theorem sz_164 : (Tryd.prog.info? 164).map (·.size) = some 3 := by kernel_rfl
theorem sz_165 : (Tryd.prog.info? 165).map (·.size) = some 3 := by kernel_rfl
theorem sz_166 : (Tryd.prog.info? 166).map (·.size) = some 4 := by kernel_rfl
theorem sz_167 : (Tryd.prog.info? 167).map (·.size) = some 4 := by kernel_rfl
theorem sz_169 : (Tryd.prog.info? 169).map (·.size) = some 1 := by kernel_rfl
theorem sz_171 : (Tryd.prog.info? 171).map (·.size) = some 1 := by kernel_rfl
theorem sz_175 : (Tryd.prog.info? 175).map (·.size) = some 1 := by kernel_rfl
theorem sz_176 : (Tryd.prog.info? 176).map (·.size) = some 3 := by kernel_rfl
theorem sz_177 : (Tryd.prog.info? 177).map (·.size) = some 3 := by kernel_rfl
theorem sz_180 : (Tryd.prog.info? 180).map (·.size) = some 2 := by kernel_rfl
theorem sz_181 : (Tryd.prog.info? 181).map (·.size) = some 2 := by kernel_rfl
theorem sz_183 : (Tryd.prog.info? 183).map (·.size) = some 2 := by kernel_rfl
theorem sz_184 : (Tryd.prog.info? 184).map (·.size) = some 2 := by kernel_rfl
theorem sz_186 : (Tryd.prog.info? 186).map (·.size) = some 256 := by kernel_rfl
theorem sz_189 : (Tryd.prog.info? 189).map (·.size) = some 1 := by kernel_rfl
theorem sz_192 : (Tryd.prog.info? 192).map (·.size) = some 4 := by kernel_rfl
theorem sz_193 : (Tryd.prog.info? 193).map (·.size) = some 1 := by kernel_rfl
theorem sz_195 : (Tryd.prog.info? 195).map (·.size) = some 1 := by kernel_rfl
theorem sz_198 : (Tryd.prog.info? 198).map (·.size) = some 1 := by kernel_rfl
theorem sz_202 : (Tryd.prog.info? 202).map (·.size) = some 3 := by kernel_rfl
theorem sz_203 : (Tryd.prog.info? 203).map (·.size) = some 3 := by kernel_rfl
theorem sz_211 : (Tryd.prog.info? 211).map (·.size) = some 1 := by kernel_rfl
theorem sz_212 : (Tryd.prog.info? 212).map (·.size) = some 2 := by kernel_rfl
theorem sz_213 : (Tryd.prog.info? 213).map (·.size) = some 2 := by kernel_rfl
theorem sz_215 : (Tryd.prog.info? 215).map (·.size) = some 1 := by kernel_rfl
theorem sz_216 : (Tryd.prog.info? 216).map (·.size) = some 1 := by kernel_rfl
theorem sz_219 : (Tryd.prog.info? 219).map (·.size) = some 7 := by kernel_rfl
theorem sz_225 : (Tryd.prog.info? 225).map (·.size) = some 1 := by kernel_rfl
theorem sz_226 : (Tryd.prog.info? 226).map (·.size) = some 1 := by kernel_rfl
theorem sz_227 : (Tryd.prog.info? 227).map (·.size) = some 3 := by kernel_rfl
theorem sz_228 : (Tryd.prog.info? 228).map (·.size) = some 3 := by kernel_rfl
theorem sz_229 : (Tryd.prog.info? 229).map (·.size) = some 3 := by kernel_rfl
theorem sz_230 : (Tryd.prog.info? 230).map (·.size) = some 3 := by kernel_rfl
theorem sz_232 : (Tryd.prog.info? 232).map (·.size) = some 3 := by kernel_rfl
theorem sz_233 : (Tryd.prog.info? 233).map (·.size) = some 3 := by kernel_rfl
theorem sz_239 : (Tryd.prog.info? 239).map (·.size) = some 1 := by kernel_rfl
theorem sz_240 : (Tryd.prog.info? 240).map (·.size) = some 1 := by kernel_rfl
theorem sz_241 : (Tryd.prog.info? 241).map (·.size) = some 1 := by kernel_rfl
theorem sz_242 : (Tryd.prog.info? 242).map (·.size) = some 1 := by kernel_rfl
theorem sz_244 : (Tryd.prog.info? 244).map (·.size) = some 1 := by kernel_rfl
theorem sz_246 : (Tryd.prog.info? 246).map (·.size) = some 1 := by kernel_rfl
theorem sz_247 : (Tryd.prog.info? 247).map (·.size) = some 2 := by kernel_rfl
theorem sz_248 : (Tryd.prog.info? 248).map (·.size) = some 2 := by kernel_rfl
theorem sz_249 : (Tryd.prog.info? 249).map (·.size) = some 32 := by kernel_rfl
theorem sz_250 : (Tryd.prog.info? 250).map (·.size) = some 1 := by kernel_rfl
theorem sz_252 : (Tryd.prog.info? 252).map (·.size) = some 1 := by kernel_rfl
theorem sz_254 : (Tryd.prog.info? 254).map (·.size) = some 1 := by kernel_rfl
theorem sz_257 : (Tryd.prog.info? 257).map (·.size) = some 1 := by kernel_rfl
theorem sz_259 : (Tryd.prog.info? 259).map (·.size) = some 1 := by kernel_rfl
theorem sz_266 : (Tryd.prog.info? 266).map (·.size) = some 4 := by kernel_rfl
theorem sz_267 : (Tryd.prog.info? 267).map (·.size) = some 4 := by kernel_rfl
theorem sz_268 : (Tryd.prog.info? 268).map (·.size) = some 0 := by kernel_rfl
theorem sz_269 : (Tryd.prog.info? 269).map (·.size) = some 0 := by kernel_rfl
theorem sz_270 : (Tryd.prog.info? 270).map (·.size) = some 0 := by kernel_rfl
theorem sz_272 : (Tryd.prog.info? 272).map (·.size) = some 1 := by kernel_rfl
theorem sz_273 : (Tryd.prog.info? 273).map (·.size) = some 1 := by kernel_rfl
theorem sz_275 : (Tryd.prog.info? 275).map (·.size) = some 1 := by kernel_rfl
theorem sz_276 : (Tryd.prog.info? 276).map (·.size) = some 1 := by kernel_rfl
theorem sz_277 : (Tryd.prog.info? 277).map (·.size) = some 11 := by kernel_rfl
theorem sz_278 : (Tryd.prog.info? 278).map (·.size) = some 11 := by kernel_rfl
theorem sz_280 : (Tryd.prog.info? 280).map (·.size) = some 8 := by kernel_rfl
theorem fo_7_0 : FldOff Tryd.prog 7 0 0 := .of Tryd.underlying7 rfl (by kernel_rfl) rfl
theorem fo_7_1 : FldOff Tryd.prog 7 1 1 := .of Tryd.underlying7 rfl (by kernel_rfl) rfl
theorem fo_7_2 : FldOff Tryd.prog 7 2 2 := .of Tryd.underlying7 rfl (by kernel_rfl) rfl
theorem fo_7_3 : FldOff Tryd.prog 7 3 3 := .of Tryd.underlying7 rfl (by kernel_rfl) rfl
theorem fo_8_0 : FldOff Tryd.prog 8 0 0 := .of Tryd.underlying8 rfl (by kernel_rfl) rfl
theorem fo_8_1 : FldOff Tryd.prog 8 1 1 := .of Tryd.underlying8 rfl (by kernel_rfl) rfl
theorem fo_8_2 : FldOff Tryd.prog 8 2 2 := .of Tryd.underlying8 rfl (by kernel_rfl) rfl
theorem fo_8_3 : FldOff Tryd.prog 8 3 3 := .of Tryd.underlying8 rfl (by kernel_rfl) rfl
theorem fo_13_0 : FldOff Tryd.prog 13 0 0 := .of Tryd.underlying13 rfl (by kernel_rfl) rfl
theorem fo_13_1 : FldOff Tryd.prog 13 1 1 := .of Tryd.underlying13 rfl (by kernel_rfl) rfl
theorem fo_14_0 : FldOff Tryd.prog 14 0 0 := .of Tryd.underlying14 rfl (by kernel_rfl) rfl
theorem fo_14_1 : FldOff Tryd.prog 14 1 1 := .of Tryd.underlying14 rfl (by kernel_rfl) rfl
theorem fo_18_0 : FldOff Tryd.prog 18 0 0 := .of Tryd.underlying18 rfl (by kernel_rfl) rfl
theorem fo_19_0 : FldOff Tryd.prog 19 0 0 := .of Tryd.underlying19 rfl (by kernel_rfl) rfl
theorem fo_31_0 : FldOff Tryd.prog 31 0 0 := .of Tryd.underlying31 rfl (by kernel_rfl) rfl
theorem fo_31_1 : FldOff Tryd.prog 31 1 1 := .of Tryd.underlying31 rfl (by kernel_rfl) rfl
theorem fo_31_2 : FldOff Tryd.prog 31 2 2 := .of Tryd.underlying31 rfl (by kernel_rfl) rfl
theorem fo_31_3 : FldOff Tryd.prog 31 3 3 := .of Tryd.underlying31 rfl (by kernel_rfl) rfl
theorem fo_32_0 : FldOff Tryd.prog 32 0 0 := .of Tryd.underlying32 rfl (by kernel_rfl) rfl
theorem fo_32_1 : FldOff Tryd.prog 32 1 1 := .of Tryd.underlying32 rfl (by kernel_rfl) rfl
theorem fo_32_2 : FldOff Tryd.prog 32 2 2 := .of Tryd.underlying32 rfl (by kernel_rfl) rfl
theorem fo_32_3 : FldOff Tryd.prog 32 3 3 := .of Tryd.underlying32 rfl (by kernel_rfl) rfl
theorem fo_34_0 : FldOff Tryd.prog 34 0 0 := .of Tryd.underlying34 rfl (by kernel_rfl) rfl
theorem fo_34_1 : FldOff Tryd.prog 34 1 1 := .of Tryd.underlying34 rfl (by kernel_rfl) rfl
theorem fo_34_2 : FldOff Tryd.prog 34 2 5 := .of Tryd.underlying34 rfl (by kernel_rfl) rfl
theorem fo_35_0 : FldOff Tryd.prog 35 0 0 := .of Tryd.underlying35 rfl (by kernel_rfl) rfl
theorem fo_35_1 : FldOff Tryd.prog 35 1 1 := .of Tryd.underlying35 rfl (by kernel_rfl) rfl
theorem fo_35_2 : FldOff Tryd.prog 35 2 5 := .of Tryd.underlying35 rfl (by kernel_rfl) rfl
theorem fo_51_0 : FldOff Tryd.prog 51 0 0 := .of Tryd.underlying51 rfl (by kernel_rfl) rfl
theorem fo_51_1 : FldOff Tryd.prog 51 1 1 := .of Tryd.underlying51 rfl (by kernel_rfl) rfl
theorem fo_51_2 : FldOff Tryd.prog 51 2 2 := .of Tryd.underlying51 rfl (by kernel_rfl) rfl
theorem fo_52_0 : FldOff Tryd.prog 52 0 0 := .of Tryd.underlying52 rfl (by kernel_rfl) rfl
theorem fo_52_1 : FldOff Tryd.prog 52 1 1 := .of Tryd.underlying52 rfl (by kernel_rfl) rfl
theorem fo_52_2 : FldOff Tryd.prog 52 2 2 := .of Tryd.underlying52 rfl (by kernel_rfl) rfl
theorem fo_53_0 : FldOff Tryd.prog 53 0 0 := .of Tryd.underlying53 rfl (by kernel_rfl) rfl
theorem fo_53_1 : FldOff Tryd.prog 53 1 1 := .of Tryd.underlying53 rfl (by kernel_rfl) rfl
theorem fo_53_2 : FldOff Tryd.prog 53 2 2 := .of Tryd.underlying53 rfl (by kernel_rfl) rfl
theorem fo_53_3 : FldOff Tryd.prog 53 3 3 := .of Tryd.underlying53 rfl (by kernel_rfl) rfl
theorem fo_53_4 : FldOff Tryd.prog 53 4 4 := .of Tryd.underlying53 rfl (by kernel_rfl) rfl
theorem fo_54_0 : FldOff Tryd.prog 54 0 0 := .of Tryd.underlying54 rfl (by kernel_rfl) rfl
theorem fo_54_1 : FldOff Tryd.prog 54 1 1 := .of Tryd.underlying54 rfl (by kernel_rfl) rfl
theorem fo_54_2 : FldOff Tryd.prog 54 2 2 := .of Tryd.underlying54 rfl (by kernel_rfl) rfl
theorem fo_54_3 : FldOff Tryd.prog 54 3 3 := .of Tryd.underlying54 rfl (by kernel_rfl) rfl
theorem fo_54_4 : FldOff Tryd.prog 54 4 4 := .of Tryd.underlying54 rfl (by kernel_rfl) rfl
theorem fo_57_0 : FldOff Tryd.prog 57 0 0 := .of Tryd.underlying57 rfl (by kernel_rfl) rfl
theorem fo_57_1 : FldOff Tryd.prog 57 1 1 := .of Tryd.underlying57 rfl (by kernel_rfl) rfl
theorem fo_57_2 : FldOff Tryd.prog 57 2 2 := .of Tryd.underlying57 rfl (by kernel_rfl) rfl
theorem fo_58_0 : FldOff Tryd.prog 58 0 0 := .of Tryd.underlying58 rfl (by kernel_rfl) rfl
theorem fo_58_1 : FldOff Tryd.prog 58 1 1 := .of Tryd.underlying58 rfl (by kernel_rfl) rfl
theorem fo_58_2 : FldOff Tryd.prog 58 2 2 := .of Tryd.underlying58 rfl (by kernel_rfl) rfl
theorem fo_71_0 : FldOff Tryd.prog 71 0 0 := .of Tryd.underlying71 rfl (by kernel_rfl) rfl
theorem fo_71_1 : FldOff Tryd.prog 71 1 1 := .of Tryd.underlying71 rfl (by kernel_rfl) rfl
theorem fo_71_2 : FldOff Tryd.prog 71 2 2 := .of Tryd.underlying71 rfl (by kernel_rfl) rfl
theorem fo_71_3 : FldOff Tryd.prog 71 3 3 := .of Tryd.underlying71 rfl (by kernel_rfl) rfl
theorem fo_71_4 : FldOff Tryd.prog 71 4 4 := .of Tryd.underlying71 rfl (by kernel_rfl) rfl
theorem fo_71_5 : FldOff Tryd.prog 71 5 5 := .of Tryd.underlying71 rfl (by kernel_rfl) rfl
theorem fo_72_0 : FldOff Tryd.prog 72 0 0 := .of Tryd.underlying72 rfl (by kernel_rfl) rfl
theorem fo_72_1 : FldOff Tryd.prog 72 1 1 := .of Tryd.underlying72 rfl (by kernel_rfl) rfl
theorem fo_72_2 : FldOff Tryd.prog 72 2 2 := .of Tryd.underlying72 rfl (by kernel_rfl) rfl
theorem fo_72_3 : FldOff Tryd.prog 72 3 3 := .of Tryd.underlying72 rfl (by kernel_rfl) rfl
theorem fo_72_4 : FldOff Tryd.prog 72 4 4 := .of Tryd.underlying72 rfl (by kernel_rfl) rfl
theorem fo_72_5 : FldOff Tryd.prog 72 5 5 := .of Tryd.underlying72 rfl (by kernel_rfl) rfl
theorem fo_75_0 : FldOff Tryd.prog 75 0 0 := .of Tryd.underlying75 rfl (by kernel_rfl) rfl
theorem fo_75_1 : FldOff Tryd.prog 75 1 1 := .of Tryd.underlying75 rfl (by kernel_rfl) rfl
theorem fo_75_2 : FldOff Tryd.prog 75 2 2 := .of Tryd.underlying75 rfl (by kernel_rfl) rfl
theorem fo_75_3 : FldOff Tryd.prog 75 3 3 := .of Tryd.underlying75 rfl (by kernel_rfl) rfl
theorem fo_75_4 : FldOff Tryd.prog 75 4 4 := .of Tryd.underlying75 rfl (by kernel_rfl) rfl
theorem fo_75_5 : FldOff Tryd.prog 75 5 5 := .of Tryd.underlying75 rfl (by kernel_rfl) rfl
theorem fo_75_6 : FldOff Tryd.prog 75 6 6 := .of Tryd.underlying75 rfl (by kernel_rfl) rfl
theorem fo_75_7 : FldOff Tryd.prog 75 7 7 := .of Tryd.underlying75 rfl (by kernel_rfl) rfl
theorem fo_76_0 : FldOff Tryd.prog 76 0 0 := .of Tryd.underlying76 rfl (by kernel_rfl) rfl
theorem fo_76_1 : FldOff Tryd.prog 76 1 1 := .of Tryd.underlying76 rfl (by kernel_rfl) rfl
theorem fo_76_2 : FldOff Tryd.prog 76 2 2 := .of Tryd.underlying76 rfl (by kernel_rfl) rfl
theorem fo_76_3 : FldOff Tryd.prog 76 3 3 := .of Tryd.underlying76 rfl (by kernel_rfl) rfl
theorem fo_76_4 : FldOff Tryd.prog 76 4 4 := .of Tryd.underlying76 rfl (by kernel_rfl) rfl
theorem fo_76_5 : FldOff Tryd.prog 76 5 5 := .of Tryd.underlying76 rfl (by kernel_rfl) rfl
theorem fo_76_6 : FldOff Tryd.prog 76 6 6 := .of Tryd.underlying76 rfl (by kernel_rfl) rfl
theorem fo_76_7 : FldOff Tryd.prog 76 7 7 := .of Tryd.underlying76 rfl (by kernel_rfl) rfl
theorem fo_78_0 : FldOff Tryd.prog 78 0 0 := .of Tryd.underlying78 rfl (by kernel_rfl) rfl
theorem fo_78_1 : FldOff Tryd.prog 78 1 1 := .of Tryd.underlying78 rfl (by kernel_rfl) rfl
theorem fo_78_2 : FldOff Tryd.prog 78 2 2 := .of Tryd.underlying78 rfl (by kernel_rfl) rfl
theorem fo_78_3 : FldOff Tryd.prog 78 3 3 := .of Tryd.underlying78 rfl (by kernel_rfl) rfl
theorem fo_79_0 : FldOff Tryd.prog 79 0 0 := .of Tryd.underlying79 rfl (by kernel_rfl) rfl
theorem fo_79_1 : FldOff Tryd.prog 79 1 1 := .of Tryd.underlying79 rfl (by kernel_rfl) rfl
theorem fo_79_2 : FldOff Tryd.prog 79 2 2 := .of Tryd.underlying79 rfl (by kernel_rfl) rfl
theorem fo_79_3 : FldOff Tryd.prog 79 3 3 := .of Tryd.underlying79 rfl (by kernel_rfl) rfl
theorem fo_85_0 : FldOff Tryd.prog 85 0 0 := .of Tryd.underlying85 rfl (by kernel_rfl) rfl
theorem fo_85_1 : FldOff Tryd.prog 85 1 1 := .of Tryd.underlying85 rfl (by kernel_rfl) rfl
theorem fo_85_2 : FldOff Tryd.prog 85 2 2 := .of Tryd.underlying85 rfl (by kernel_rfl) rfl
theorem fo_86_0 : FldOff Tryd.prog 86 0 0 := .of Tryd.underlying86 rfl (by kernel_rfl) rfl
theorem fo_86_1 : FldOff Tryd.prog 86 1 1 := .of Tryd.underlying86 rfl (by kernel_rfl) rfl
theorem fo_86_2 : FldOff Tryd.prog 86 2 2 := .of Tryd.underlying86 rfl (by kernel_rfl) rfl
theorem fo_87_0 : FldOff Tryd.prog 87 0 0 := .of Tryd.underlying87 rfl (by kernel_rfl) rfl
theorem fo_87_1 : FldOff Tryd.prog 87 1 1 := .of Tryd.underlying87 rfl (by kernel_rfl) rfl
theorem fo_88_0 : FldOff Tryd.prog 88 0 0 := .of Tryd.underlying88 rfl (by kernel_rfl) rfl
theorem fo_88_1 : FldOff Tryd.prog 88 1 1 := .of Tryd.underlying88 rfl (by kernel_rfl) rfl
theorem fo_89_0 : FldOff Tryd.prog 89 0 0 := .of Tryd.underlying89 rfl (by kernel_rfl) rfl
theorem fo_89_1 : FldOff Tryd.prog 89 1 1 := .of Tryd.underlying89 rfl (by kernel_rfl) rfl
theorem fo_90_0 : FldOff Tryd.prog 90 0 0 := .of Tryd.underlying90 rfl (by kernel_rfl) rfl
theorem fo_90_1 : FldOff Tryd.prog 90 1 1 := .of Tryd.underlying90 rfl (by kernel_rfl) rfl
theorem fo_97_0 : FldOff Tryd.prog 97 0 0 := .of Tryd.underlying97 rfl (by kernel_rfl) rfl
theorem fo_97_1 : FldOff Tryd.prog 97 1 1 := .of Tryd.underlying97 rfl (by kernel_rfl) rfl
theorem fo_97_2 : FldOff Tryd.prog 97 2 2 := .of Tryd.underlying97 rfl (by kernel_rfl) rfl
theorem fo_97_3 : FldOff Tryd.prog 97 3 3 := .of Tryd.underlying97 rfl (by kernel_rfl) rfl
theorem fo_97_4 : FldOff Tryd.prog 97 4 4 := .of Tryd.underlying97 rfl (by kernel_rfl) rfl
theorem fo_97_5 : FldOff Tryd.prog 97 5 5 := .of Tryd.underlying97 rfl (by kernel_rfl) rfl
theorem fo_98_0 : FldOff Tryd.prog 98 0 0 := .of Tryd.underlying98 rfl (by kernel_rfl) rfl
theorem fo_98_1 : FldOff Tryd.prog 98 1 1 := .of Tryd.underlying98 rfl (by kernel_rfl) rfl
theorem fo_98_2 : FldOff Tryd.prog 98 2 2 := .of Tryd.underlying98 rfl (by kernel_rfl) rfl
theorem fo_98_3 : FldOff Tryd.prog 98 3 3 := .of Tryd.underlying98 rfl (by kernel_rfl) rfl
theorem fo_98_4 : FldOff Tryd.prog 98 4 4 := .of Tryd.underlying98 rfl (by kernel_rfl) rfl
theorem fo_98_5 : FldOff Tryd.prog 98 5 5 := .of Tryd.underlying98 rfl (by kernel_rfl) rfl
theorem fo_102_0 : FldOff Tryd.prog 102 0 0 := .of Tryd.underlying102 rfl (by kernel_rfl) rfl
theorem fo_102_1 : FldOff Tryd.prog 102 1 1 := .of Tryd.underlying102 rfl (by kernel_rfl) rfl
theorem fo_102_2 : FldOff Tryd.prog 102 2 2 := .of Tryd.underlying102 rfl (by kernel_rfl) rfl
theorem fo_102_3 : FldOff Tryd.prog 102 3 3 := .of Tryd.underlying102 rfl (by kernel_rfl) rfl
theorem fo_103_0 : FldOff Tryd.prog 103 0 0 := .of Tryd.underlying103 rfl (by kernel_rfl) rfl
theorem fo_103_1 : FldOff Tryd.prog 103 1 1 := .of Tryd.underlying103 rfl (by kernel_rfl) rfl
theorem fo_103_2 : FldOff Tryd.prog 103 2 2 := .of Tryd.underlying103 rfl (by kernel_rfl) rfl
theorem fo_103_3 : FldOff Tryd.prog 103 3 3 := .of Tryd.underlying103 rfl (by kernel_rfl) rfl
theorem fo_114_0 : FldOff Tryd.prog 114 0 0 := .of Tryd.underlying114 rfl (by kernel_rfl) rfl
theorem fo_114_1 : FldOff Tryd.prog 114 1 1 := .of Tryd.underlying114 rfl (by kernel_rfl) rfl
theorem fo_114_2 : FldOff Tryd.prog 114 2 2 := .of Tryd.underlying114 rfl (by kernel_rfl) rfl
theorem fo_115_0 : FldOff Tryd.prog 115 0 0 := .of Tryd.underlying115 rfl (by kernel_rfl) rfl
theorem fo_115_1 : FldOff Tryd.prog 115 1 1 := .of Tryd.underlying115 rfl (by kernel_rfl) rfl
theorem fo_115_2 : FldOff Tryd.prog 115 2 2 := .of Tryd.underlying115 rfl (by kernel_rfl) rfl
theorem fo_124_0 : FldOff Tryd.prog 124 0 0 := .of Tryd.underlying124 rfl (by kernel_rfl) rfl
theorem fo_124_1 : FldOff Tryd.prog 124 1 1 := .of Tryd.underlying124 rfl (by kernel_rfl) rfl
theorem fo_125_0 : FldOff Tryd.prog 125 0 0 := .of Tryd.underlying125 rfl (by kernel_rfl) rfl
theorem fo_125_1 : FldOff Tryd.prog 125 1 1 := .of Tryd.underlying125 rfl (by kernel_rfl) rfl
theorem fo_132_0 : FldOff Tryd.prog 132 0 0 := .of Tryd.underlying132 rfl (by kernel_rfl) rfl
theorem fo_132_1 : FldOff Tryd.prog 132 1 1 := .of Tryd.underlying132 rfl (by kernel_rfl) rfl
theorem fo_132_2 : FldOff Tryd.prog 132 2 2 := .of Tryd.underlying132 rfl (by kernel_rfl) rfl
theorem fo_132_3 : FldOff Tryd.prog 132 3 3 := .of Tryd.underlying132 rfl (by kernel_rfl) rfl
theorem fo_132_4 : FldOff Tryd.prog 132 4 4 := .of Tryd.underlying132 rfl (by kernel_rfl) rfl
theorem fo_132_5 : FldOff Tryd.prog 132 5 8 := .of Tryd.underlying132 rfl (by kernel_rfl) rfl
theorem fo_133_0 : FldOff Tryd.prog 133 0 0 := .of Tryd.underlying133 rfl (by kernel_rfl) rfl
theorem fo_133_1 : FldOff Tryd.prog 133 1 1 := .of Tryd.underlying133 rfl (by kernel_rfl) rfl
theorem fo_133_2 : FldOff Tryd.prog 133 2 2 := .of Tryd.underlying133 rfl (by kernel_rfl) rfl
theorem fo_133_3 : FldOff Tryd.prog 133 3 3 := .of Tryd.underlying133 rfl (by kernel_rfl) rfl
theorem fo_133_4 : FldOff Tryd.prog 133 4 4 := .of Tryd.underlying133 rfl (by kernel_rfl) rfl
theorem fo_133_5 : FldOff Tryd.prog 133 5 8 := .of Tryd.underlying133 rfl (by kernel_rfl) rfl
theorem fo_138_0 : FldOff Tryd.prog 138 0 0 := .of Tryd.underlying138 rfl (by kernel_rfl) rfl
theorem fo_138_1 : FldOff Tryd.prog 138 1 1 := .of Tryd.underlying138 rfl (by kernel_rfl) rfl
theorem fo_138_2 : FldOff Tryd.prog 138 2 2 := .of Tryd.underlying138 rfl (by kernel_rfl) rfl
theorem fo_138_3 : FldOff Tryd.prog 138 3 3 := .of Tryd.underlying138 rfl (by kernel_rfl) rfl
theorem fo_138_4 : FldOff Tryd.prog 138 4 4 := .of Tryd.underlying138 rfl (by kernel_rfl) rfl
theorem fo_139_0 : FldOff Tryd.prog 139 0 0 := .of Tryd.underlying139 rfl (by kernel_rfl) rfl
theorem fo_139_1 : FldOff Tryd.prog 139 1 1 := .of Tryd.underlying139 rfl (by kernel_rfl) rfl
theorem fo_139_2 : FldOff Tryd.prog 139 2 2 := .of Tryd.underlying139 rfl (by kernel_rfl) rfl
theorem fo_139_3 : FldOff Tryd.prog 139 3 3 := .of Tryd.underlying139 rfl (by kernel_rfl) rfl
theorem fo_139_4 : FldOff Tryd.prog 139 4 4 := .of Tryd.underlying139 rfl (by kernel_rfl) rfl
theorem fo_143_1 : FldOff Tryd.prog 143 1 0 := .of Tryd.underlying143 rfl (by kernel_rfl) rfl
theorem fo_144_1 : FldOff Tryd.prog 144 1 0 := .of Tryd.underlying144 rfl (by kernel_rfl) rfl
theorem fo_145_0 : FldOff Tryd.prog 145 0 0 := .of Tryd.underlying145 rfl (by kernel_rfl) rfl
theorem fo_145_1 : FldOff Tryd.prog 145 1 1 := .of Tryd.underlying145 rfl (by kernel_rfl) rfl
theorem fo_146_0 : FldOff Tryd.prog 146 0 0 := .of Tryd.underlying146 rfl (by kernel_rfl) rfl
theorem fo_146_1 : FldOff Tryd.prog 146 1 1 := .of Tryd.underlying146 rfl (by kernel_rfl) rfl
theorem fo_147_1 : FldOff Tryd.prog 147 1 0 := .of Tryd.underlying147 rfl (by kernel_rfl) rfl
theorem fo_148_1 : FldOff Tryd.prog 148 1 0 := .of Tryd.underlying148 rfl (by kernel_rfl) rfl
theorem fo_149_1 : FldOff Tryd.prog 149 1 0 := .of Tryd.underlying149 rfl (by kernel_rfl) rfl
theorem fo_149_2 : FldOff Tryd.prog 149 2 1 := .of Tryd.underlying149 rfl (by kernel_rfl) rfl
theorem fo_150_1 : FldOff Tryd.prog 150 1 0 := .of Tryd.underlying150 rfl (by kernel_rfl) rfl
theorem fo_150_2 : FldOff Tryd.prog 150 2 1 := .of Tryd.underlying150 rfl (by kernel_rfl) rfl
theorem fo_154_2 : FldOff Tryd.prog 154 2 0 := .of Tryd.underlying154 rfl (by kernel_rfl) rfl
theorem fo_155_2 : FldOff Tryd.prog 155 2 0 := .of Tryd.underlying155 rfl (by kernel_rfl) rfl
theorem fo_156_0 : FldOff Tryd.prog 156 0 0 := .of Tryd.underlying156 rfl (by kernel_rfl) rfl
theorem fo_156_1 : FldOff Tryd.prog 156 1 3 := .of Tryd.underlying156 rfl (by kernel_rfl) rfl
theorem fo_156_2 : FldOff Tryd.prog 156 2 4 := .of Tryd.underlying156 rfl (by kernel_rfl) rfl
theorem fo_156_3 : FldOff Tryd.prog 156 3 5 := .of Tryd.underlying156 rfl (by kernel_rfl) rfl
theorem fo_156_4 : FldOff Tryd.prog 156 4 6 := .of Tryd.underlying156 rfl (by kernel_rfl) rfl
theorem fo_157_0 : FldOff Tryd.prog 157 0 0 := .of Tryd.underlying157 rfl (by kernel_rfl) rfl
theorem fo_157_1 : FldOff Tryd.prog 157 1 3 := .of Tryd.underlying157 rfl (by kernel_rfl) rfl
theorem fo_157_2 : FldOff Tryd.prog 157 2 4 := .of Tryd.underlying157 rfl (by kernel_rfl) rfl
theorem fo_157_3 : FldOff Tryd.prog 157 3 5 := .of Tryd.underlying157 rfl (by kernel_rfl) rfl
theorem fo_157_4 : FldOff Tryd.prog 157 4 6 := .of Tryd.underlying157 rfl (by kernel_rfl) rfl
theorem fo_162_0 : FldOff Tryd.prog 162 0 0 := .of Tryd.underlying162 rfl (by kernel_rfl) rfl
theorem fo_162_1 : FldOff Tryd.prog 162 1 1 := .of Tryd.underlying162 rfl (by kernel_rfl) rfl
theorem fo_162_2 : FldOff Tryd.prog 162 2 2 := .of Tryd.underlying162 rfl (by kernel_rfl) rfl
theorem fo_162_3 : FldOff Tryd.prog 162 3 3 := .of Tryd.underlying162 rfl (by kernel_rfl) rfl
theorem fo_163_0 : FldOff Tryd.prog 163 0 0 := .of Tryd.underlying163 rfl (by kernel_rfl) rfl
theorem fo_163_1 : FldOff Tryd.prog 163 1 1 := .of Tryd.underlying163 rfl (by kernel_rfl) rfl
theorem fo_163_2 : FldOff Tryd.prog 163 2 2 := .of Tryd.underlying163 rfl (by kernel_rfl) rfl
theorem fo_163_3 : FldOff Tryd.prog 163 3 3 := .of Tryd.underlying163 rfl (by kernel_rfl) rfl
theorem fo_164_0 : FldOff Tryd.prog 164 0 0 := .of Tryd.underlying164 rfl (by kernel_rfl) rfl
theorem fo_164_1 : FldOff Tryd.prog 164 1 1 := .of Tryd.underlying164 rfl (by kernel_rfl) rfl
theorem fo_164_2 : FldOff Tryd.prog 164 2 2 := .of Tryd.underlying164 rfl (by kernel_rfl) rfl
theorem fo_165_0 : FldOff Tryd.prog 165 0 0 := .of Tryd.underlying165 rfl (by kernel_rfl) rfl
theorem fo_165_1 : FldOff Tryd.prog 165 1 1 := .of Tryd.underlying165 rfl (by kernel_rfl) rfl
theorem fo_165_2 : FldOff Tryd.prog 165 2 2 := .of Tryd.underlying165 rfl (by kernel_rfl) rfl
theorem fo_166_0 : FldOff Tryd.prog 166 0 0 := .of Tryd.underlying166 rfl (by kernel_rfl) rfl
theorem fo_166_1 : FldOff Tryd.prog 166 1 1 := .of Tryd.underlying166 rfl (by kernel_rfl) rfl
theorem fo_166_2 : FldOff Tryd.prog 166 2 2 := .of Tryd.underlying166 rfl (by kernel_rfl) rfl
theorem fo_166_3 : FldOff Tryd.prog 166 3 3 := .of Tryd.underlying166 rfl (by kernel_rfl) rfl
theorem fo_167_0 : FldOff Tryd.prog 167 0 0 := .of Tryd.underlying167 rfl (by kernel_rfl) rfl
theorem fo_167_1 : FldOff Tryd.prog 167 1 1 := .of Tryd.underlying167 rfl (by kernel_rfl) rfl
theorem fo_167_2 : FldOff Tryd.prog 167 2 2 := .of Tryd.underlying167 rfl (by kernel_rfl) rfl
theorem fo_167_3 : FldOff Tryd.prog 167 3 3 := .of Tryd.underlying167 rfl (by kernel_rfl) rfl
theorem fo_176_0 : FldOff Tryd.prog 176 0 0 := .of Tryd.underlying176 rfl (by kernel_rfl) rfl
theorem fo_176_1 : FldOff Tryd.prog 176 1 1 := .of Tryd.underlying176 rfl (by kernel_rfl) rfl
theorem fo_176_2 : FldOff Tryd.prog 176 2 2 := .of Tryd.underlying176 rfl (by kernel_rfl) rfl
theorem fo_177_0 : FldOff Tryd.prog 177 0 0 := .of Tryd.underlying177 rfl (by kernel_rfl) rfl
theorem fo_177_1 : FldOff Tryd.prog 177 1 1 := .of Tryd.underlying177 rfl (by kernel_rfl) rfl
theorem fo_177_2 : FldOff Tryd.prog 177 2 2 := .of Tryd.underlying177 rfl (by kernel_rfl) rfl
theorem fo_180_0 : FldOff Tryd.prog 180 0 0 := .of Tryd.underlying180 rfl (by kernel_rfl) rfl
theorem fo_180_1 : FldOff Tryd.prog 180 1 1 := .of Tryd.underlying180 rfl (by kernel_rfl) rfl
theorem fo_181_0 : FldOff Tryd.prog 181 0 0 := .of Tryd.underlying181 rfl (by kernel_rfl) rfl
theorem fo_181_1 : FldOff Tryd.prog 181 1 1 := .of Tryd.underlying181 rfl (by kernel_rfl) rfl
theorem fo_183_0 : FldOff Tryd.prog 183 0 0 := .of Tryd.underlying183 rfl (by kernel_rfl) rfl
theorem fo_183_1 : FldOff Tryd.prog 183 1 1 := .of Tryd.underlying183 rfl (by kernel_rfl) rfl
theorem fo_184_0 : FldOff Tryd.prog 184 0 0 := .of Tryd.underlying184 rfl (by kernel_rfl) rfl
theorem fo_184_1 : FldOff Tryd.prog 184 1 1 := .of Tryd.underlying184 rfl (by kernel_rfl) rfl
theorem fo_202_0 : FldOff Tryd.prog 202 0 0 := .of Tryd.underlying202 rfl (by kernel_rfl) rfl
theorem fo_202_1 : FldOff Tryd.prog 202 1 1 := .of Tryd.underlying202 rfl (by kernel_rfl) rfl
theorem fo_202_2 : FldOff Tryd.prog 202 2 2 := .of Tryd.underlying202 rfl (by kernel_rfl) rfl
theorem fo_203_0 : FldOff Tryd.prog 203 0 0 := .of Tryd.underlying203 rfl (by kernel_rfl) rfl
theorem fo_203_1 : FldOff Tryd.prog 203 1 1 := .of Tryd.underlying203 rfl (by kernel_rfl) rfl
theorem fo_203_2 : FldOff Tryd.prog 203 2 2 := .of Tryd.underlying203 rfl (by kernel_rfl) rfl
theorem fo_212_0 : FldOff Tryd.prog 212 0 0 := .of Tryd.underlying212 rfl (by kernel_rfl) rfl
theorem fo_212_1 : FldOff Tryd.prog 212 1 1 := .of Tryd.underlying212 rfl (by kernel_rfl) rfl
theorem fo_213_0 : FldOff Tryd.prog 213 0 0 := .of Tryd.underlying213 rfl (by kernel_rfl) rfl
theorem fo_213_1 : FldOff Tryd.prog 213 1 1 := .of Tryd.underlying213 rfl (by kernel_rfl) rfl
theorem fo_227_0 : FldOff Tryd.prog 227 0 0 := .of Tryd.underlying227 rfl (by kernel_rfl) rfl
theorem fo_227_1 : FldOff Tryd.prog 227 1 1 := .of Tryd.underlying227 rfl (by kernel_rfl) rfl
theorem fo_227_2 : FldOff Tryd.prog 227 2 2 := .of Tryd.underlying227 rfl (by kernel_rfl) rfl
theorem fo_228_0 : FldOff Tryd.prog 228 0 0 := .of Tryd.underlying228 rfl (by kernel_rfl) rfl
theorem fo_228_1 : FldOff Tryd.prog 228 1 1 := .of Tryd.underlying228 rfl (by kernel_rfl) rfl
theorem fo_228_2 : FldOff Tryd.prog 228 2 2 := .of Tryd.underlying228 rfl (by kernel_rfl) rfl
theorem fo_229_0 : FldOff Tryd.prog 229 0 0 := .of Tryd.underlying229 rfl (by kernel_rfl) rfl
theorem fo_229_1 : FldOff Tryd.prog 229 1 1 := .of Tryd.underlying229 rfl (by kernel_rfl) rfl
theorem fo_229_2 : FldOff Tryd.prog 229 2 2 := .of Tryd.underlying229 rfl (by kernel_rfl) rfl
theorem fo_230_0 : FldOff Tryd.prog 230 0 0 := .of Tryd.underlying230 rfl (by kernel_rfl) rfl
theorem fo_230_1 : FldOff Tryd.prog 230 1 1 := .of Tryd.underlying230 rfl (by kernel_rfl) rfl
theorem fo_230_2 : FldOff Tryd.prog 230 2 2 := .of Tryd.underlying230 rfl (by kernel_rfl) rfl
theorem fo_232_0 : FldOff Tryd.prog 232 0 0 := .of Tryd.underlying232 rfl (by kernel_rfl) rfl
theorem fo_232_1 : FldOff Tryd.prog 232 1 1 := .of Tryd.underlying232 rfl (by kernel_rfl) rfl
theorem fo_232_2 : FldOff Tryd.prog 232 2 2 := .of Tryd.underlying232 rfl (by kernel_rfl) rfl
theorem fo_233_0 : FldOff Tryd.prog 233 0 0 := .of Tryd.underlying233 rfl (by kernel_rfl) rfl
theorem fo_233_1 : FldOff Tryd.prog 233 1 1 := .of Tryd.underlying233 rfl (by kernel_rfl) rfl
theorem fo_233_2 : FldOff Tryd.prog 233 2 2 := .of Tryd.underlying233 rfl (by kernel_rfl) rfl
theorem fo_247_0 : FldOff Tryd.prog 247 0 0 := .of Tryd.underlying247 rfl (by kernel_rfl) rfl
theorem fo_247_1 : FldOff Tryd.prog 247 1 1 := .of Tryd.underlying247 rfl (by kernel_rfl) rfl
theorem fo_248_0 : FldOff Tryd.prog 248 0 0 := .of Tryd.underlying248 rfl (by kernel_rfl) rfl
theorem fo_248_1 : FldOff Tryd.prog 248 1 1 := .of Tryd.underlying248 rfl (by kernel_rfl) rfl
theorem fo_266_0 : FldOff Tryd.prog 266 0 0 := .of Tryd.underlying266 rfl (by kernel_rfl) rfl
theorem fo_266_1 : FldOff Tryd.prog 266 1 1 := .of Tryd.underlying266 rfl (by kernel_rfl) rfl
theorem fo_266_2 : FldOff Tryd.prog 266 2 2 := .of Tryd.underlying266 rfl (by kernel_rfl) rfl
theorem fo_266_3 : FldOff Tryd.prog 266 3 3 := .of Tryd.underlying266 rfl (by kernel_rfl) rfl
theorem fo_267_0 : FldOff Tryd.prog 267 0 0 := .of Tryd.underlying267 rfl (by kernel_rfl) rfl
theorem fo_267_1 : FldOff Tryd.prog 267 1 1 := .of Tryd.underlying267 rfl (by kernel_rfl) rfl
theorem fo_267_2 : FldOff Tryd.prog 267 2 2 := .of Tryd.underlying267 rfl (by kernel_rfl) rfl
theorem fo_267_3 : FldOff Tryd.prog 267 3 3 := .of Tryd.underlying267 rfl (by kernel_rfl) rfl
theorem fo_277_0 : FldOff Tryd.prog 277 0 0 := .of Tryd.underlying277 rfl (by kernel_rfl) rfl
theorem fo_277_1 : FldOff Tryd.prog 277 1 1 := .of Tryd.underlying277 rfl (by kernel_rfl) rfl
theorem fo_277_2 : FldOff Tryd.prog 277 2 2 := .of Tryd.underlying277 rfl (by kernel_rfl) rfl
theorem fo_277_3 : FldOff Tryd.prog 277 3 3 := .of Tryd.underlying277 rfl (by kernel_rfl) rfl
theorem fo_277_4 : FldOff Tryd.prog 277 4 4 := .of Tryd.underlying277 rfl (by kernel_rfl) rfl
theorem fo_277_5 : FldOff Tryd.prog 277 5 5 := .of Tryd.underlying277 rfl (by kernel_rfl) rfl
theorem fo_277_6 : FldOff Tryd.prog 277 6 6 := .of Tryd.underlying277 rfl (by kernel_rfl) rfl
theorem fo_277_7 : FldOff Tryd.prog 277 7 7 := .of Tryd.underlying277 rfl (by kernel_rfl) rfl
theorem fo_277_8 : FldOff Tryd.prog 277 8 8 := .of Tryd.underlying277 rfl (by kernel_rfl) rfl
theorem fo_277_9 : FldOff Tryd.prog 277 9 9 := .of Tryd.underlying277 rfl (by kernel_rfl) rfl
theorem fo_277_10 : FldOff Tryd.prog 277 10 10 := .of Tryd.underlying277 rfl (by kernel_rfl) rfl
theorem fo_278_0 : FldOff Tryd.prog 278 0 0 := .of Tryd.underlying278 rfl (by kernel_rfl) rfl
theorem fo_278_1 : FldOff Tryd.prog 278 1 1 := .of Tryd.underlying278 rfl (by kernel_rfl) rfl
theorem fo_278_2 : FldOff Tryd.prog 278 2 2 := .of Tryd.underlying278 rfl (by kernel_rfl) rfl
theorem fo_278_3 : FldOff Tryd.prog 278 3 3 := .of Tryd.underlying278 rfl (by kernel_rfl) rfl
theorem fo_278_4 : FldOff Tryd.prog 278 4 4 := .of Tryd.underlying278 rfl (by kernel_rfl) rfl
theorem fo_278_5 : FldOff Tryd.prog 278 5 5 := .of Tryd.underlying278 rfl (by kernel_rfl) rfl
theorem fo_278_6 : FldOff Tryd.prog 278 6 6 := .of Tryd.underlying278 rfl (by kernel_rfl) rfl
theorem fo_278_7 : FldOff Tryd.prog 278 7 7 := .of Tryd.underlying278 rfl (by kernel_rfl) rfl
theorem fo_278_8 : FldOff Tryd.prog 278 8 8 := .of Tryd.underlying278 rfl (by kernel_rfl) rfl
theorem fo_278_9 : FldOff Tryd.prog 278 9 9 := .of Tryd.underlying278 rfl (by kernel_rfl) rfl
theorem fo_278_10 : FldOff Tryd.prog 278 10 10 := .of Tryd.underlying278 rfl (by kernel_rfl) rfl
theorem inf_3 : (Tryd.prog.info? 3).map (fun i => (i.zero, i.size, i.bytes)) = some (some (Value.int .i64 0), 1, 8) := by kernel_rfl
theorem inf_3_i : Tryd.prog.info? 3 = some ((Tryd.prog.info? 3).getD default) := (info_of inf_3).1
theorem inf_3_z : ((Tryd.prog.info? 3).getD default).zero = some (Value.int .i64 0) := (info_of inf_3).2.1
theorem inf_3_s : ((Tryd.prog.info? 3).getD default).size = 1 := (info_of inf_3).2.2.1
theorem inf_3_b : ((Tryd.prog.info? 3).getD default).bytes = 8 := (info_of inf_3).2.2.2
theorem inf_5 : (Tryd.prog.info? 5).map (fun i => (i.zero, i.size, i.bytes)) = some (some (Value.int .u8 0), 1, 1) := by kernel_rfl
theorem inf_5_i : Tryd.prog.info? 5 = some ((Tryd.prog.info? 5).getD default) := (info_of inf_5).1
theorem inf_5_z : ((Tryd.prog.info? 5).getD default).zero = some (Value.int .u8 0) := (info_of inf_5).2.1
theorem inf_5_s : ((Tryd.prog.info? 5).getD default).size = 1 := (info_of inf_5).2.2.1
theorem inf_5_b : ((Tryd.prog.info? 5).getD default).bytes = 1 := (info_of inf_5).2.2.2
theorem inf_9 : (Tryd.prog.info? 9).map (fun i => (i.zero, i.size, i.bytes)) = some (some (Value.string ⟨#[]⟩), 1, 16) := by kernel_rfl
theorem inf_9_i : Tryd.prog.info? 9 = some ((Tryd.prog.info? 9).getD default) := (info_of inf_9).1
theorem inf_9_z : ((Tryd.prog.info? 9).getD default).zero = some (Value.string ⟨#[]⟩) := (info_of inf_9).2.1
theorem inf_9_s : ((Tryd.prog.info? 9).getD default).size = 1 := (info_of inf_9).2.2.1
theorem inf_9_b : ((Tryd.prog.info? 9).getD default).bytes = 16 := (info_of inf_9).2.2.2
theorem inf_22 : (Tryd.prog.info? 22).map (fun i => (i.zero, i.size, i.bytes)) = some (some (Value.int .u64 0), 1, 8) := by kernel_rfl
theorem inf_22_i : Tryd.prog.info? 22 = some ((Tryd.prog.info? 22).getD default) := (info_of inf_22).1
theorem inf_22_z : ((Tryd.prog.info? 22).getD default).zero = some (Value.int .u64 0) := (info_of inf_22).2.1
theorem inf_22_s : ((Tryd.prog.info? 22).getD default).size = 1 := (info_of inf_22).2.2.1
theorem inf_22_b : ((Tryd.prog.info? 22).getD default).bytes = 8 := (info_of inf_22).2.2.2
theorem inf_29 : (Tryd.prog.info? 29).map (fun i => (i.zero, i.size, i.bytes)) = some (some (Value.int .u16 0), 1, 2) := by kernel_rfl
theorem inf_29_i : Tryd.prog.info? 29 = some ((Tryd.prog.info? 29).getD default) := (info_of inf_29).1
theorem inf_29_z : ((Tryd.prog.info? 29).getD default).zero = some (Value.int .u16 0) := (info_of inf_29).2.1
theorem inf_29_s : ((Tryd.prog.info? 29).getD default).size = 1 := (info_of inf_29).2.2.1
theorem inf_29_b : ((Tryd.prog.info? 29).getD default).bytes = 2 := (info_of inf_29).2.2.2
theorem inf_32 : (Tryd.prog.info? 32).map (fun i => (i.zero, i.size, i.bytes)) = some (some (Value.agg #[Value.int .u16 0, Value.int .u8 0, Value.int .u8 0, Value.int .u32 0]), 4, 8) := by kernel_rfl
theorem inf_32_i : Tryd.prog.info? 32 = some ((Tryd.prog.info? 32).getD default) := (info_of inf_32).1
theorem inf_32_z : ((Tryd.prog.info? 32).getD default).zero = some (Value.agg #[Value.int .u16 0, Value.int .u8 0, Value.int .u8 0, Value.int .u32 0]) := (info_of inf_32).2.1
theorem inf_32_s : ((Tryd.prog.info? 32).getD default).size = 4 := (info_of inf_32).2.2.1
theorem inf_32_b : ((Tryd.prog.info? 32).getD default).bytes = 8 := (info_of inf_32).2.2.2
theorem inf_35 : (Tryd.prog.info? 35).map (fun i => (i.zero, i.size, i.bytes)) = some (some (Value.agg #[Value.string ⟨#[]⟩, Value.int .u16 0, Value.int .u8 0, Value.int .u8 0, Value.int .u32 0, Value.int .i64 0]), 6, 32) := by kernel_rfl
theorem inf_35_i : Tryd.prog.info? 35 = some ((Tryd.prog.info? 35).getD default) := (info_of inf_35).1
theorem inf_35_z : ((Tryd.prog.info? 35).getD default).zero = some (Value.agg #[Value.string ⟨#[]⟩, Value.int .u16 0, Value.int .u8 0, Value.int .u8 0, Value.int .u32 0, Value.int .i64 0]) := (info_of inf_35).2.1
theorem inf_35_s : ((Tryd.prog.info? 35).getD default).size = 6 := (info_of inf_35).2.2.1
theorem inf_35_b : ((Tryd.prog.info? 35).getD default).bytes = 32 := (info_of inf_35).2.2.2
theorem inf_52 : (Tryd.prog.info? 52).map (fun i => (i.zero, i.size, i.bytes)) = some (some (Value.agg #[Value.string ⟨#[]⟩, Value.int .u8 0, Value.int .i64 0]), 3, 32) := by kernel_rfl
theorem inf_52_i : Tryd.prog.info? 52 = some ((Tryd.prog.info? 52).getD default) := (info_of inf_52).1
theorem inf_52_z : ((Tryd.prog.info? 52).getD default).zero = some (Value.agg #[Value.string ⟨#[]⟩, Value.int .u8 0, Value.int .i64 0]) := (info_of inf_52).2.1
theorem inf_52_s : ((Tryd.prog.info? 52).getD default).size = 3 := (info_of inf_52).2.2.1
theorem inf_52_b : ((Tryd.prog.info? 52).getD default).bytes = 32 := (info_of inf_52).2.2.2
theorem inf_54 : (Tryd.prog.info? 54).map (fun i => (i.zero, i.size, i.bytes)) = some (some (Value.agg #[Value.int .u8 0, Value.string ⟨#[]⟩, Value.int .u64 0, Value.int .i64 0, Value.int .i64 0]), 5, 48) := by kernel_rfl
theorem inf_54_i : Tryd.prog.info? 54 = some ((Tryd.prog.info? 54).getD default) := (info_of inf_54).1
theorem inf_54_z : ((Tryd.prog.info? 54).getD default).zero = some (Value.agg #[Value.int .u8 0, Value.string ⟨#[]⟩, Value.int .u64 0, Value.int .i64 0, Value.int .i64 0]) := (info_of inf_54).2.1
theorem inf_54_s : ((Tryd.prog.info? 54).getD default).size = 5 := (info_of inf_54).2.2.1
theorem inf_54_b : ((Tryd.prog.info? 54).getD default).bytes = 48 := (info_of inf_54).2.2.2
theorem inf_72 : (Tryd.prog.info? 72).map (fun i => (i.zero, i.size, i.bytes)) = some (some (Value.agg #[Value.string ⟨#[]⟩, Value.int .u32 0, Value.slice none 0 0, Value.int .u16 0, Value.slice none 0 0, Value.slice none 0 0]), 6, 104) := by kernel_rfl
theorem inf_72_i : Tryd.prog.info? 72 = some ((Tryd.prog.info? 72).getD default) := (info_of inf_72).1
theorem inf_72_z : ((Tryd.prog.info? 72).getD default).zero = some (Value.agg #[Value.string ⟨#[]⟩, Value.int .u32 0, Value.slice none 0 0, Value.int .u16 0, Value.slice none 0 0, Value.slice none 0 0]) := (info_of inf_72).2.1
theorem inf_72_s : ((Tryd.prog.info? 72).getD default).size = 6 := (info_of inf_72).2.2.1
theorem inf_72_b : ((Tryd.prog.info? 72).getD default).bytes = 104 := (info_of inf_72).2.2.2
theorem inf_79 : (Tryd.prog.info? 79).map (fun i => (i.zero, i.size, i.bytes)) = some (some (Value.agg #[Value.int .i64 0, Value.int .u8 0, Value.int .u64 0, Value.int .u64 0]), 4, 32) := by kernel_rfl
theorem inf_79_i : Tryd.prog.info? 79 = some ((Tryd.prog.info? 79).getD default) := (info_of inf_79).1
theorem inf_79_z : ((Tryd.prog.info? 79).getD default).zero = some (Value.agg #[Value.int .i64 0, Value.int .u8 0, Value.int .u64 0, Value.int .u64 0]) := (info_of inf_79).2.1
theorem inf_79_s : ((Tryd.prog.info? 79).getD default).size = 4 := (info_of inf_79).2.2.1
theorem inf_79_b : ((Tryd.prog.info? 79).getD default).bytes = 32 := (info_of inf_79).2.2.2
theorem inf_86 : (Tryd.prog.info? 86).map (fun i => (i.zero, i.size, i.bytes)) = some (some (Value.agg #[Value.int .u32 0, Value.int .u32 0, Value.slice none 0 0]), 3, 32) := by kernel_rfl
theorem inf_86_i : Tryd.prog.info? 86 = some ((Tryd.prog.info? 86).getD default) := (info_of inf_86).1
theorem inf_86_z : ((Tryd.prog.info? 86).getD default).zero = some (Value.agg #[Value.int .u32 0, Value.int .u32 0, Value.slice none 0 0]) := (info_of inf_86).2.1
theorem inf_86_s : ((Tryd.prog.info? 86).getD default).size = 3 := (info_of inf_86).2.2.1
theorem inf_86_b : ((Tryd.prog.info? 86).getD default).bytes = 32 := (info_of inf_86).2.2.2
theorem inf_88 : (Tryd.prog.info? 88).map (fun i => (i.zero, i.size, i.bytes)) = some (some (Value.agg #[Value.string ⟨#[]⟩, Value.int .u16 0]), 2, 24) := by kernel_rfl
theorem inf_88_i : Tryd.prog.info? 88 = some ((Tryd.prog.info? 88).getD default) := (info_of inf_88).1
theorem inf_88_z : ((Tryd.prog.info? 88).getD default).zero = some (Value.agg #[Value.string ⟨#[]⟩, Value.int .u16 0]) := (info_of inf_88).2.1
theorem inf_88_s : ((Tryd.prog.info? 88).getD default).size = 2 := (info_of inf_88).2.2.1
theorem inf_88_b : ((Tryd.prog.info? 88).getD default).bytes = 24 := (info_of inf_88).2.2.2
theorem inf_90 : (Tryd.prog.info? 90).map (fun i => (i.zero, i.size, i.bytes)) = some (some (Value.agg #[Value.int .u16 0, Value.int .u16 0]), 2, 4) := by kernel_rfl
theorem inf_90_i : Tryd.prog.info? 90 = some ((Tryd.prog.info? 90).getD default) := (info_of inf_90).1
theorem inf_90_z : ((Tryd.prog.info? 90).getD default).zero = some (Value.agg #[Value.int .u16 0, Value.int .u16 0]) := (info_of inf_90).2.1
theorem inf_90_s : ((Tryd.prog.info? 90).getD default).size = 2 := (info_of inf_90).2.2.1
theorem inf_90_b : ((Tryd.prog.info? 90).getD default).bytes = 4 := (info_of inf_90).2.2.2
theorem inf_103 : (Tryd.prog.info? 103).map (fun i => (i.zero, i.size, i.bytes)) = some (some (Value.agg #[Value.int .i64 0, Value.int .i64 0, Value.int .u64 0, Value.int .u64 0]), 4, 32) := by kernel_rfl
theorem inf_103_i : Tryd.prog.info? 103 = some ((Tryd.prog.info? 103).getD default) := (info_of inf_103).1
theorem inf_103_z : ((Tryd.prog.info? 103).getD default).zero = some (Value.agg #[Value.int .i64 0, Value.int .i64 0, Value.int .u64 0, Value.int .u64 0]) := (info_of inf_103).2.1
theorem inf_103_s : ((Tryd.prog.info? 103).getD default).size = 4 := (info_of inf_103).2.2.1
theorem inf_103_b : ((Tryd.prog.info? 103).getD default).bytes = 32 := (info_of inf_103).2.2.2
theorem inf_115 : (Tryd.prog.info? 115).map (fun i => (i.zero, i.size, i.bytes)) = some (some (Value.agg #[Value.int .u16 0, Value.string ⟨#[]⟩, Value.int .u8 0]), 3, 32) := by kernel_rfl
theorem inf_115_i : Tryd.prog.info? 115 = some ((Tryd.prog.info? 115).getD default) := (info_of inf_115).1
theorem inf_115_z : ((Tryd.prog.info? 115).getD default).zero = some (Value.agg #[Value.int .u16 0, Value.string ⟨#[]⟩, Value.int .u8 0]) := (info_of inf_115).2.1
theorem inf_115_s : ((Tryd.prog.info? 115).getD default).size = 3 := (info_of inf_115).2.2.1
theorem inf_115_b : ((Tryd.prog.info? 115).getD default).bytes = 32 := (info_of inf_115).2.2.2
theorem inf_133 : (Tryd.prog.info? 133).map (fun i => (i.zero, i.size, i.bytes)) = some (some (Value.agg #[Value.int .u8 0, Value.int .u8 0, Value.int .u8 0, Value.int .u8 0, Value.int .u16 0, Value.int .u8 0, Value.int .u8 0, Value.int .u32 0, Value.bool false]), 9, 16) := by kernel_rfl
theorem inf_133_i : Tryd.prog.info? 133 = some ((Tryd.prog.info? 133).getD default) := (info_of inf_133).1
theorem inf_133_z : ((Tryd.prog.info? 133).getD default).zero = some (Value.agg #[Value.int .u8 0, Value.int .u8 0, Value.int .u8 0, Value.int .u8 0, Value.int .u16 0, Value.int .u8 0, Value.int .u8 0, Value.int .u32 0, Value.bool false]) := (info_of inf_133).2.1
theorem inf_133_s : ((Tryd.prog.info? 133).getD default).size = 9 := (info_of inf_133).2.2.1
theorem inf_133_b : ((Tryd.prog.info? 133).getD default).bytes = 16 := (info_of inf_133).2.2.2
theorem inf_163 : (Tryd.prog.info? 163).map (fun i => (i.zero, i.size, i.bytes)) = some (some (Value.agg #[Value.int .u8 0, Value.int .u8 0, Value.int .u8 0, Value.slice none 0 0]), 4, 32) := by kernel_rfl
theorem inf_163_i : Tryd.prog.info? 163 = some ((Tryd.prog.info? 163).getD default) := (info_of inf_163).1
theorem inf_163_z : ((Tryd.prog.info? 163).getD default).zero = some (Value.agg #[Value.int .u8 0, Value.int .u8 0, Value.int .u8 0, Value.slice none 0 0]) := (info_of inf_163).2.1
theorem inf_163_s : ((Tryd.prog.info? 163).getD default).size = 4 := (info_of inf_163).2.2.1
theorem inf_163_b : ((Tryd.prog.info? 163).getD default).bytes = 32 := (info_of inf_163).2.2.2
theorem inf_165 : (Tryd.prog.info? 165).map (fun i => (i.zero, i.size, i.bytes)) = some (some (Value.agg #[Value.int .i64 0, Value.string ⟨#[]⟩, Value.int .i64 0]), 3, 32) := by kernel_rfl
theorem inf_165_i : Tryd.prog.info? 165 = some ((Tryd.prog.info? 165).getD default) := (info_of inf_165).1
theorem inf_165_z : ((Tryd.prog.info? 165).getD default).zero = some (Value.agg #[Value.int .i64 0, Value.string ⟨#[]⟩, Value.int .i64 0]) := (info_of inf_165).2.1
theorem inf_165_s : ((Tryd.prog.info? 165).getD default).size = 3 := (info_of inf_165).2.2.1
theorem inf_165_b : ((Tryd.prog.info? 165).getD default).bytes = 32 := (info_of inf_165).2.2.2
theorem inf_167 : (Tryd.prog.info? 167).map (fun i => (i.zero, i.size, i.bytes)) = some (some (Value.agg #[Value.int .u8 0, Value.int .u8 0, Value.int .u8 0, Value.int .u8 0]), 4, 4) := by kernel_rfl
theorem inf_167_i : Tryd.prog.info? 167 = some ((Tryd.prog.info? 167).getD default) := (info_of inf_167).1
theorem inf_167_z : ((Tryd.prog.info? 167).getD default).zero = some (Value.agg #[Value.int .u8 0, Value.int .u8 0, Value.int .u8 0, Value.int .u8 0]) := (info_of inf_167).2.1
theorem inf_167_s : ((Tryd.prog.info? 167).getD default).size = 4 := (info_of inf_167).2.2.1
theorem inf_167_b : ((Tryd.prog.info? 167).getD default).bytes = 4 := (info_of inf_167).2.2.2
theorem inf_177 : (Tryd.prog.info? 177).map (fun i => (i.zero, i.size, i.bytes)) = some (some (Value.agg #[Value.int .u32 0, Value.int .u32 0, Value.slice none 0 0]), 3, 32) := by kernel_rfl
theorem inf_177_i : Tryd.prog.info? 177 = some ((Tryd.prog.info? 177).getD default) := (info_of inf_177).1
theorem inf_177_z : ((Tryd.prog.info? 177).getD default).zero = some (Value.agg #[Value.int .u32 0, Value.int .u32 0, Value.slice none 0 0]) := (info_of inf_177).2.1
theorem inf_177_s : ((Tryd.prog.info? 177).getD default).size = 3 := (info_of inf_177).2.2.1
theorem inf_177_b : ((Tryd.prog.info? 177).getD default).bytes = 32 := (info_of inf_177).2.2.2
theorem inf_181 : (Tryd.prog.info? 181).map (fun i => (i.zero, i.size, i.bytes)) = some (some (Value.agg #[Value.string ⟨#[]⟩, Value.int .i64 0]), 2, 24) := by kernel_rfl
theorem inf_181_i : Tryd.prog.info? 181 = some ((Tryd.prog.info? 181).getD default) := (info_of inf_181).1
theorem inf_181_z : ((Tryd.prog.info? 181).getD default).zero = some (Value.agg #[Value.string ⟨#[]⟩, Value.int .i64 0]) := (info_of inf_181).2.1
theorem inf_181_s : ((Tryd.prog.info? 181).getD default).size = 2 := (info_of inf_181).2.2.1
theorem inf_181_b : ((Tryd.prog.info? 181).getD default).bytes = 24 := (info_of inf_181).2.2.2
theorem inf_184 : (Tryd.prog.info? 184).map (fun i => (i.zero, i.size, i.bytes)) = some (some (Value.agg #[Value.int .i64 0, Value.int .i64 0]), 2, 16) := by kernel_rfl
theorem inf_184_i : Tryd.prog.info? 184 = some ((Tryd.prog.info? 184).getD default) := (info_of inf_184).1
theorem inf_184_z : ((Tryd.prog.info? 184).getD default).zero = some (Value.agg #[Value.int .i64 0, Value.int .i64 0]) := (info_of inf_184).2.1
theorem inf_184_s : ((Tryd.prog.info? 184).getD default).size = 2 := (info_of inf_184).2.2.1
theorem inf_184_b : ((Tryd.prog.info? 184).getD default).bytes = 16 := (info_of inf_184).2.2.2
theorem inf_203 : (Tryd.prog.info? 203).map (fun i => (i.zero, i.size, i.bytes)) = some (some (Value.agg #[Value.int .u32 0, Value.string ⟨#[]⟩, Value.int .i64 0]), 3, 32) := by kernel_rfl
theorem inf_203_i : Tryd.prog.info? 203 = some ((Tryd.prog.info? 203).getD default) := (info_of inf_203).1
theorem inf_203_z : ((Tryd.prog.info? 203).getD default).zero = some (Value.agg #[Value.int .u32 0, Value.string ⟨#[]⟩, Value.int .i64 0]) := (info_of inf_203).2.1
theorem inf_203_s : ((Tryd.prog.info? 203).getD default).size = 3 := (info_of inf_203).2.2.1
theorem inf_203_b : ((Tryd.prog.info? 203).getD default).bytes = 32 := (info_of inf_203).2.2.2
theorem inf_213 : (Tryd.prog.info? 213).map (fun i => (i.zero, i.size, i.bytes)) = some (some (Value.agg #[Value.int .i64 0, Value.int .i64 0]), 2, 16) := by kernel_rfl
theorem inf_213_i : Tryd.prog.info? 213 = some ((Tryd.prog.info? 213).getD default) := (info_of inf_213).1
theorem inf_213_z : ((Tryd.prog.info? 213).getD default).zero = some (Value.agg #[Value.int .i64 0, Value.int .i64 0]) := (info_of inf_213).2.1
theorem inf_213_s : ((Tryd.prog.info? 213).getD default).size = 2 := (info_of inf_213).2.2.1
theorem inf_213_b : ((Tryd.prog.info? 213).getD default).bytes = 16 := (info_of inf_213).2.2.2
theorem inf_230 : (Tryd.prog.info? 230).map (fun i => (i.zero, i.size, i.bytes)) = some (some (Value.agg #[Value.int .u16 0, Value.int .u16 0, Value.int .u16 0]), 3, 6) := by kernel_rfl
theorem inf_230_i : Tryd.prog.info? 230 = some ((Tryd.prog.info? 230).getD default) := (info_of inf_230).1
theorem inf_230_z : ((Tryd.prog.info? 230).getD default).zero = some (Value.agg #[Value.int .u16 0, Value.int .u16 0, Value.int .u16 0]) := (info_of inf_230).2.1
theorem inf_230_s : ((Tryd.prog.info? 230).getD default).size = 3 := (info_of inf_230).2.2.1
theorem inf_230_b : ((Tryd.prog.info? 230).getD default).bytes = 6 := (info_of inf_230).2.2.2
theorem inf_233 : (Tryd.prog.info? 233).map (fun i => (i.zero, i.size, i.bytes)) = some (some (Value.agg #[Value.int .u32 0, Value.int .u32 0, Value.int .u32 0]), 3, 12) := by kernel_rfl
theorem inf_233_i : Tryd.prog.info? 233 = some ((Tryd.prog.info? 233).getD default) := (info_of inf_233).1
theorem inf_233_z : ((Tryd.prog.info? 233).getD default).zero = some (Value.agg #[Value.int .u32 0, Value.int .u32 0, Value.int .u32 0]) := (info_of inf_233).2.1
theorem inf_233_s : ((Tryd.prog.info? 233).getD default).size = 3 := (info_of inf_233).2.2.1
theorem inf_233_b : ((Tryd.prog.info? 233).getD default).bytes = 12 := (info_of inf_233).2.2.2
end Go.Proofs.YtmicafpfkpnalaaDoor
