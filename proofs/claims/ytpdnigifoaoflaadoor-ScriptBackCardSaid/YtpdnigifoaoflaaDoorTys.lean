/- Sizes and zero values of the types that the walks name. Conditions: none. -/
import Derived.Test.YtpdnigifoaoflaaDoorRows
import Derived.Test.YtpdnigifoaoflaaDoorGl3
namespace Go.Proofs.YtpdnigifoaoflaaDoor
open Go Go.RowKit
theorem sz_2 : (Tryd.prog.info? 2).map (·.size) = some 1 := by kernel_rfl
theorem sz_3 : (Tryd.prog.info? 3).map (·.size) = some 1 := by kernel_rfl
theorem sz_4 : (Tryd.prog.info? 4).map (·.size) = some 1 := by kernel_rfl
theorem sz_5 : (Tryd.prog.info? 5).map (·.size) = some 1 := by kernel_rfl
theorem sz_6 : (Tryd.prog.info? 6).map (·.size) = some 1 := by kernel_rfl
theorem sz_7 : (Tryd.prog.info? 7).map (·.size) = some 4 := by kernel_rfl
theorem sz_8 : (Tryd.prog.info? 8).map (·.size) = some 4 := by kernel_rfl
theorem sz_9 : (Tryd.prog.info? 9).map (·.size) = some 1 := by kernel_rfl
theorem sz_10 : (Tryd.prog.info? 10).map (·.size) = some 1 := by kernel_rfl
theorem sz_11 : (Tryd.prog.info? 11).map (·.size) = some 1 := by kernel_rfl
theorem sz_12 : (Tryd.prog.info? 12).map (·.size) = some 1 := by kernel_rfl
theorem sz_13 : (Tryd.prog.info? 13).map (·.size) = some 2 := by kernel_rfl
theorem sz_14 : (Tryd.prog.info? 14).map (·.size) = some 2 := by kernel_rfl
theorem sz_15 : (Tryd.prog.info? 15).map (·.size) = some 1 := by kernel_rfl
theorem sz_16 : (Tryd.prog.info? 16).map (·.size) = some 1 := by kernel_rfl
theorem sz_17 : (Tryd.prog.info? 17).map (·.size) = some 1 := by kernel_rfl
theorem sz_18 : (Tryd.prog.info? 18).map (·.size) = some 1 := by kernel_rfl
theorem sz_19 : (Tryd.prog.info? 19).map (·.size) = some 1 := by kernel_rfl
theorem sz_20 : (Tryd.prog.info? 20).map (·.size) = some 1 := by kernel_rfl
theorem sz_21 : (Tryd.prog.info? 21).map (·.size) = some 1 := by kernel_rfl
theorem sz_22 : (Tryd.prog.info? 22).map (·.size) = some 1 := by kernel_rfl
theorem sz_24 : (Tryd.prog.info? 24).map (·.size) = some 1 := by kernel_rfl
theorem sz_25 : (Tryd.prog.info? 25).map (·.size) = some 1 := by kernel_rfl
theorem sz_26 : (Tryd.prog.info? 26).map (·.size) = some 2 := by kernel_rfl
theorem sz_27 : (Tryd.prog.info? 27).map (·.size) = some 2 := by kernel_rfl
theorem sz_29 : (Tryd.prog.info? 29).map (·.size) = some 1 := by kernel_rfl
theorem sz_30 : (Tryd.prog.info? 30).map (·.size) = some 1 := by kernel_rfl
theorem sz_32 : (Tryd.prog.info? 32).map (·.size) = some 1 := by kernel_rfl
theorem sz_33 : (Tryd.prog.info? 33).map (·.size) = some 2 := by kernel_rfl
theorem sz_34 : (Tryd.prog.info? 34).map (·.size) = some 2 := by kernel_rfl
theorem sz_43 : (Tryd.prog.info? 43).map (·.size) = some 1 := by kernel_rfl
theorem sz_46 : (Tryd.prog.info? 46).map (·.size) = some 1 := by kernel_rfl
theorem sz_47 : (Tryd.prog.info? 47).map (·.size) = some 1 := by kernel_rfl
theorem sz_48 : (Tryd.prog.info? 48).map (·.size) = some 1 := by kernel_rfl
theorem sz_49 : (Tryd.prog.info? 49).map (·.size) = some 2 := by kernel_rfl
theorem sz_50 : (Tryd.prog.info? 50).map (·.size) = some 2 := by kernel_rfl
theorem sz_51 : (Tryd.prog.info? 51).map (·.size) = some 7 := by kernel_rfl
theorem sz_52 : (Tryd.prog.info? 52).map (·.size) = some 7 := by kernel_rfl
theorem sz_53 : (Tryd.prog.info? 53).map (·.size) = some 17 := by kernel_rfl
theorem sz_54 : (Tryd.prog.info? 54).map (·.size) = some 17 := by kernel_rfl
theorem sz_57 : (Tryd.prog.info? 57).map (·.size) = some 3 := by kernel_rfl
theorem sz_58 : (Tryd.prog.info? 58).map (·.size) = some 3 := by kernel_rfl
theorem sz_65 : (Tryd.prog.info? 65).map (·.size) = some 0 := by kernel_rfl
theorem sz_66 : (Tryd.prog.info? 66).map (·.size) = some 0 := by kernel_rfl
theorem sz_67 : (Tryd.prog.info? 67).map (·.size) = some 0 := by kernel_rfl
theorem sz_68 : (Tryd.prog.info? 68).map (·.size) = some 1 := by kernel_rfl
theorem sz_69 : (Tryd.prog.info? 69).map (·.size) = some 1 := by kernel_rfl
theorem sz_70 : (Tryd.prog.info? 70).map (·.size) = some 2 := by kernel_rfl
theorem sz_71 : (Tryd.prog.info? 71).map (·.size) = some 2 := by kernel_rfl
theorem sz_72 : (Tryd.prog.info? 72).map (·.size) = some 2 := by kernel_rfl
theorem sz_73 : (Tryd.prog.info? 73).map (·.size) = some 2 := by kernel_rfl
theorem sz_74 : (Tryd.prog.info? 74).map (·.size) = some 3 := by kernel_rfl
theorem sz_75 : (Tryd.prog.info? 75).map (·.size) = some 3 := by kernel_rfl
theorem sz_76 : (Tryd.prog.info? 76).map (·.size) = some 1 := by kernel_rfl
theorem sz_77 : (Tryd.prog.info? 77).map (·.size) = some 1 := by kernel_rfl
theorem sz_78 : (Tryd.prog.info? 78).map (·.size) = some 0 := by kernel_rfl
theorem sz_79 : (Tryd.prog.info? 79).map (·.size) = some 1 := by kernel_rfl
theorem sz_80 : (Tryd.prog.info? 80).map (·.size) = some 1 := by kernel_rfl
theorem sz_81 : (Tryd.prog.info? 81).map (·.size) = some 7 := by kernel_rfl
theorem sz_82 : (Tryd.prog.info? 82).map (·.size) = some 7 := by kernel_rfl
theorem sz_89 : (Tryd.prog.info? 89).map (·.size) = some 1 := by kernel_rfl
theorem sz_90 : (Tryd.prog.info? 90).map (·.size) = some 2 := by kernel_rfl
theorem sz_91 : (Tryd.prog.info? 91).map (·.size) = some 2 := by kernel_rfl
theorem sz_92 : (Tryd.prog.info? 92).map (·.size) = some 1 := by kernel_rfl
theorem sz_93 : (Tryd.prog.info? 93).map (·.size) = some 1 := by kernel_rfl
theorem sz_95 : (Tryd.prog.info? 95).map (·.size) = some 1 := by kernel_rfl
theorem sz_98 : (Tryd.prog.info? 98).map (·.size) = some 1 := by kernel_rfl
theorem sz_100 : (Tryd.prog.info? 100).map (·.size) = some 1 := by kernel_rfl
theorem sz_102 : (Tryd.prog.info? 102).map (·.size) = some 1 := by kernel_rfl
theorem sz_104 : (Tryd.prog.info? 104).map (·.size) = some 3 := by kernel_rfl
theorem sz_105 : (Tryd.prog.info? 105).map (·.size) = some 3 := by kernel_rfl
theorem sz_113 : (Tryd.prog.info? 113).map (·.size) = some 256 := by kernel_rfl
theorem sz_121 : (Tryd.prog.info? 121).map (·.size) = some 1 := by kernel_rfl
theorem sz_122 : (Tryd.prog.info? 122).map (·.size) = some 1 := by kernel_rfl
theorem sz_124 : (Tryd.prog.info? 124).map (·.size) = some 2 := by kernel_rfl
theorem sz_128 : (Tryd.prog.info? 128).map (·.size) = some 1 := by kernel_rfl
theorem sz_129 : (Tryd.prog.info? 129).map (·.size) = some 2 := by kernel_rfl
theorem sz_130 : (Tryd.prog.info? 130).map (·.size) = some 2 := by kernel_rfl
theorem sz_132 : (Tryd.prog.info? 132).map (·.size) = some 1 := by kernel_rfl
theorem sz_134 : (Tryd.prog.info? 134).map (·.size) = some 1 := by kernel_rfl
theorem sz_142 : (Tryd.prog.info? 142).map (·.size) = some 1 := by kernel_rfl
theorem sz_143 : (Tryd.prog.info? 143).map (·.size) = some 1 := by kernel_rfl
theorem sz_144 : (Tryd.prog.info? 144).map (·.size) = some 3 := by kernel_rfl
theorem sz_145 : (Tryd.prog.info? 145).map (·.size) = some 3 := by kernel_rfl
theorem sz_146 : (Tryd.prog.info? 146).map (·.size) = some 1 := by kernel_rfl
theorem sz_147 : (Tryd.prog.info? 147).map (·.size) = some 3 := by kernel_rfl
theorem sz_148 : (Tryd.prog.info? 148).map (·.size) = some 3 := by kernel_rfl
theorem sz_150 : (Tryd.prog.info? 150).map (·.size) = some 3 := by kernel_rfl
theorem sz_151 : (Tryd.prog.info? 151).map (·.size) = some 3 := by kernel_rfl
theorem sz_153 : (Tryd.prog.info? 153).map (·.size) = some 1 := by kernel_rfl
theorem sz_154 : (Tryd.prog.info? 154).map (·.size) = some 1 := by kernel_rfl
theorem sz_156 : (Tryd.prog.info? 156).map (·.size) = some 1 := by kernel_rfl
theorem sz_158 : (Tryd.prog.info? 158).map (·.size) = some 1 := by kernel_rfl
theorem sz_161 : (Tryd.prog.info? 161).map (·.size) = some 1 := by kernel_rfl
theorem sz_162 : (Tryd.prog.info? 162).map (·.size) = some 1 := by kernel_rfl
theorem sz_163 : (Tryd.prog.info? 163).map (·.size) = some 1 := by kernel_rfl
theorem sz_165 : (Tryd.prog.info? 165).map (·.size) = some 1 := by kernel_rfl
theorem sz_167 : (Tryd.prog.info? 167).map (·.size) = some 2 := by kernel_rfl
theorem sz_168 : (Tryd.prog.info? 168).map (·.size) = some 2 := by kernel_rfl
theorem sz_169 : (Tryd.prog.info? 169).map (·.size) = some 32 := by kernel_rfl
theorem sz_170 : (Tryd.prog.info? 170).map (·.size) = some 1 := by kernel_rfl
theorem sz_173 : (Tryd.prog.info? 173).map (·.size) = some 1 := by kernel_rfl
theorem sz_175 : (Tryd.prog.info? 175).map (·.size) = some 1 := by kernel_rfl
theorem sz_183 : (Tryd.prog.info? 183).map (·.size) = some 4 := by kernel_rfl
theorem sz_184 : (Tryd.prog.info? 184).map (·.size) = some 4 := by kernel_rfl
theorem sz_185 : (Tryd.prog.info? 185).map (·.size) = some 0 := by kernel_rfl
theorem sz_186 : (Tryd.prog.info? 186).map (·.size) = some 0 := by kernel_rfl
theorem sz_187 : (Tryd.prog.info? 187).map (·.size) = some 0 := by kernel_rfl
theorem sz_189 : (Tryd.prog.info? 189).map (·.size) = some 1 := by kernel_rfl
theorem sz_190 : (Tryd.prog.info? 190).map (·.size) = some 1 := by kernel_rfl
theorem sz_192 : (Tryd.prog.info? 192).map (·.size) = some 1 := by kernel_rfl
theorem sz_193 : (Tryd.prog.info? 193).map (·.size) = some 1 := by kernel_rfl
theorem sz_194 : (Tryd.prog.info? 194).map (·.size) = some 11 := by kernel_rfl
theorem sz_195 : (Tryd.prog.info? 195).map (·.size) = some 11 := by kernel_rfl
theorem sz_197 : (Tryd.prog.info? 197).map (·.size) = some 6 := by kernel_rfl
theorem sz_198 : (Tryd.prog.info? 198).map (·.size) = some 9 := by kernel_rfl
theorem sz_199 : (Tryd.prog.info? 199).map (·.size) = some 9 := by kernel_rfl
theorem fo_7_0 : FldOff Tryd.prog 7 0 0 := .of Tryd.underlying7 rfl (by kernel_rfl) rfl
theorem fo_7_1 : FldOff Tryd.prog 7 1 1 := .of Tryd.underlying7 rfl (by kernel_rfl) rfl
theorem fo_7_2 : FldOff Tryd.prog 7 2 2 := .of Tryd.underlying7 rfl (by kernel_rfl) rfl
theorem fo_7_3 : FldOff Tryd.prog 7 3 3 := .of Tryd.underlying7 rfl (by kernel_rfl) rfl
theorem fo_8_0 : FldOff Tryd.prog 8 0 0 := .of Tryd.underlying8 rfl (by kernel_rfl) rfl
theorem fo_8_1 : FldOff Tryd.prog 8 1 1 := .of Tryd.underlying8 rfl (by kernel_rfl) rfl
theorem fo_8_2 : FldOff Tryd.prog 8 2 2 := .of Tryd.underlying8 rfl (by kernel_rfl) rfl
theorem fo_8_3 : FldOff Tryd.prog 8 3 3 := .of Tryd.underlying8 rfl (by kernel_rfl) rfl
theorem fo_13_0 : FldOff Tryd.prog 13 0 0 := .of Tryd.underlying13 rfl (by kernel_rfl) rfl
theorem fo_13_1 : FldOff Tryd.prog 13 1 1 := .of Tryd.underlying13 rfl (by kernel_rfl) rfl
theorem fo_14_0 : FldOff Tryd.prog 14 0 0 := .of Tryd.underlying14 rfl (by kernel_rfl) rfl
theorem fo_14_1 : FldOff Tryd.prog 14 1 1 := .of Tryd.underlying14 rfl (by kernel_rfl) rfl
theorem fo_18_0 : FldOff Tryd.prog 18 0 0 := .of Tryd.underlying18 rfl (by kernel_rfl) rfl
theorem fo_19_0 : FldOff Tryd.prog 19 0 0 := .of Tryd.underlying19 rfl (by kernel_rfl) rfl
theorem fo_26_0 : FldOff Tryd.prog 26 0 0 := .of Tryd.underlying26 rfl (by kernel_rfl) rfl
theorem fo_26_1 : FldOff Tryd.prog 26 1 1 := .of Tryd.underlying26 rfl (by kernel_rfl) rfl
theorem fo_27_0 : FldOff Tryd.prog 27 0 0 := .of Tryd.underlying27 rfl (by kernel_rfl) rfl
theorem fo_27_1 : FldOff Tryd.prog 27 1 1 := .of Tryd.underlying27 rfl (by kernel_rfl) rfl
theorem fo_33_0 : FldOff Tryd.prog 33 0 0 := .of Tryd.underlying33 rfl (by kernel_rfl) rfl
theorem fo_33_1 : FldOff Tryd.prog 33 1 1 := .of Tryd.underlying33 rfl (by kernel_rfl) rfl
theorem fo_34_0 : FldOff Tryd.prog 34 0 0 := .of Tryd.underlying34 rfl (by kernel_rfl) rfl
theorem fo_34_1 : FldOff Tryd.prog 34 1 1 := .of Tryd.underlying34 rfl (by kernel_rfl) rfl
theorem fo_51_0 : FldOff Tryd.prog 51 0 0 := .of Tryd.underlying51 rfl (by kernel_rfl) rfl
theorem fo_51_1 : FldOff Tryd.prog 51 1 1 := .of Tryd.underlying51 rfl (by kernel_rfl) rfl
theorem fo_51_2 : FldOff Tryd.prog 51 2 2 := .of Tryd.underlying51 rfl (by kernel_rfl) rfl
theorem fo_51_3 : FldOff Tryd.prog 51 3 3 := .of Tryd.underlying51 rfl (by kernel_rfl) rfl
theorem fo_51_4 : FldOff Tryd.prog 51 4 5 := .of Tryd.underlying51 rfl (by kernel_rfl) rfl
theorem fo_52_0 : FldOff Tryd.prog 52 0 0 := .of Tryd.underlying52 rfl (by kernel_rfl) rfl
theorem fo_52_1 : FldOff Tryd.prog 52 1 1 := .of Tryd.underlying52 rfl (by kernel_rfl) rfl
theorem fo_52_2 : FldOff Tryd.prog 52 2 2 := .of Tryd.underlying52 rfl (by kernel_rfl) rfl
theorem fo_52_3 : FldOff Tryd.prog 52 3 3 := .of Tryd.underlying52 rfl (by kernel_rfl) rfl
theorem fo_52_4 : FldOff Tryd.prog 52 4 5 := .of Tryd.underlying52 rfl (by kernel_rfl) rfl
theorem fo_53_0 : FldOff Tryd.prog 53 0 0 := .of Tryd.underlying53 rfl (by kernel_rfl) rfl
theorem fo_53_1 : FldOff Tryd.prog 53 1 1 := .of Tryd.underlying53 rfl (by kernel_rfl) rfl
theorem fo_53_2 : FldOff Tryd.prog 53 2 2 := .of Tryd.underlying53 rfl (by kernel_rfl) rfl
theorem fo_53_3 : FldOff Tryd.prog 53 3 3 := .of Tryd.underlying53 rfl (by kernel_rfl) rfl
theorem fo_53_4 : FldOff Tryd.prog 53 4 4 := .of Tryd.underlying53 rfl (by kernel_rfl) rfl
theorem fo_53_5 : FldOff Tryd.prog 53 5 5 := .of Tryd.underlying53 rfl (by kernel_rfl) rfl
theorem fo_53_6 : FldOff Tryd.prog 53 6 6 := .of Tryd.underlying53 rfl (by kernel_rfl) rfl
theorem fo_53_7 : FldOff Tryd.prog 53 7 7 := .of Tryd.underlying53 rfl (by kernel_rfl) rfl
theorem fo_53_8 : FldOff Tryd.prog 53 8 8 := .of Tryd.underlying53 rfl (by kernel_rfl) rfl
theorem fo_53_9 : FldOff Tryd.prog 53 9 9 := .of Tryd.underlying53 rfl (by kernel_rfl) rfl
theorem fo_53_10 : FldOff Tryd.prog 53 10 16 := .of Tryd.underlying53 rfl (by kernel_rfl) rfl
theorem fo_54_0 : FldOff Tryd.prog 54 0 0 := .of Tryd.underlying54 rfl (by kernel_rfl) rfl
theorem fo_54_1 : FldOff Tryd.prog 54 1 1 := .of Tryd.underlying54 rfl (by kernel_rfl) rfl
theorem fo_54_2 : FldOff Tryd.prog 54 2 2 := .of Tryd.underlying54 rfl (by kernel_rfl) rfl
theorem fo_54_3 : FldOff Tryd.prog 54 3 3 := .of Tryd.underlying54 rfl (by kernel_rfl) rfl
theorem fo_54_4 : FldOff Tryd.prog 54 4 4 := .of Tryd.underlying54 rfl (by kernel_rfl) rfl
theorem fo_54_5 : FldOff Tryd.prog 54 5 5 := .of Tryd.underlying54 rfl (by kernel_rfl) rfl
theorem fo_54_6 : FldOff Tryd.prog 54 6 6 := .of Tryd.underlying54 rfl (by kernel_rfl) rfl
theorem fo_54_7 : FldOff Tryd.prog 54 7 7 := .of Tryd.underlying54 rfl (by kernel_rfl) rfl
theorem fo_54_8 : FldOff Tryd.prog 54 8 8 := .of Tryd.underlying54 rfl (by kernel_rfl) rfl
theorem fo_54_9 : FldOff Tryd.prog 54 9 9 := .of Tryd.underlying54 rfl (by kernel_rfl) rfl
theorem fo_54_10 : FldOff Tryd.prog 54 10 16 := .of Tryd.underlying54 rfl (by kernel_rfl) rfl
theorem fo_57_0 : FldOff Tryd.prog 57 0 0 := .of Tryd.underlying57 rfl (by kernel_rfl) rfl
theorem fo_57_1 : FldOff Tryd.prog 57 1 1 := .of Tryd.underlying57 rfl (by kernel_rfl) rfl
theorem fo_57_2 : FldOff Tryd.prog 57 2 2 := .of Tryd.underlying57 rfl (by kernel_rfl) rfl
theorem fo_58_0 : FldOff Tryd.prog 58 0 0 := .of Tryd.underlying58 rfl (by kernel_rfl) rfl
theorem fo_58_1 : FldOff Tryd.prog 58 1 1 := .of Tryd.underlying58 rfl (by kernel_rfl) rfl
theorem fo_58_2 : FldOff Tryd.prog 58 2 2 := .of Tryd.underlying58 rfl (by kernel_rfl) rfl
theorem fo_68_1 : FldOff Tryd.prog 68 1 0 := .of Tryd.underlying68 rfl (by kernel_rfl) rfl
theorem fo_69_1 : FldOff Tryd.prog 69 1 0 := .of Tryd.underlying69 rfl (by kernel_rfl) rfl
theorem fo_70_0 : FldOff Tryd.prog 70 0 0 := .of Tryd.underlying70 rfl (by kernel_rfl) rfl
theorem fo_70_1 : FldOff Tryd.prog 70 1 1 := .of Tryd.underlying70 rfl (by kernel_rfl) rfl
theorem fo_71_0 : FldOff Tryd.prog 71 0 0 := .of Tryd.underlying71 rfl (by kernel_rfl) rfl
theorem fo_71_1 : FldOff Tryd.prog 71 1 1 := .of Tryd.underlying71 rfl (by kernel_rfl) rfl
theorem fo_72_1 : FldOff Tryd.prog 72 1 0 := .of Tryd.underlying72 rfl (by kernel_rfl) rfl
theorem fo_73_1 : FldOff Tryd.prog 73 1 0 := .of Tryd.underlying73 rfl (by kernel_rfl) rfl
theorem fo_74_1 : FldOff Tryd.prog 74 1 0 := .of Tryd.underlying74 rfl (by kernel_rfl) rfl
theorem fo_74_2 : FldOff Tryd.prog 74 2 1 := .of Tryd.underlying74 rfl (by kernel_rfl) rfl
theorem fo_75_1 : FldOff Tryd.prog 75 1 0 := .of Tryd.underlying75 rfl (by kernel_rfl) rfl
theorem fo_75_2 : FldOff Tryd.prog 75 2 1 := .of Tryd.underlying75 rfl (by kernel_rfl) rfl
theorem fo_79_2 : FldOff Tryd.prog 79 2 0 := .of Tryd.underlying79 rfl (by kernel_rfl) rfl
theorem fo_80_2 : FldOff Tryd.prog 80 2 0 := .of Tryd.underlying80 rfl (by kernel_rfl) rfl
theorem fo_81_0 : FldOff Tryd.prog 81 0 0 := .of Tryd.underlying81 rfl (by kernel_rfl) rfl
theorem fo_81_1 : FldOff Tryd.prog 81 1 3 := .of Tryd.underlying81 rfl (by kernel_rfl) rfl
theorem fo_81_2 : FldOff Tryd.prog 81 2 4 := .of Tryd.underlying81 rfl (by kernel_rfl) rfl
theorem fo_81_3 : FldOff Tryd.prog 81 3 5 := .of Tryd.underlying81 rfl (by kernel_rfl) rfl
theorem fo_81_4 : FldOff Tryd.prog 81 4 6 := .of Tryd.underlying81 rfl (by kernel_rfl) rfl
theorem fo_82_0 : FldOff Tryd.prog 82 0 0 := .of Tryd.underlying82 rfl (by kernel_rfl) rfl
theorem fo_82_1 : FldOff Tryd.prog 82 1 3 := .of Tryd.underlying82 rfl (by kernel_rfl) rfl
theorem fo_82_2 : FldOff Tryd.prog 82 2 4 := .of Tryd.underlying82 rfl (by kernel_rfl) rfl
theorem fo_82_3 : FldOff Tryd.prog 82 3 5 := .of Tryd.underlying82 rfl (by kernel_rfl) rfl
theorem fo_82_4 : FldOff Tryd.prog 82 4 6 := .of Tryd.underlying82 rfl (by kernel_rfl) rfl
theorem fo_90_0 : FldOff Tryd.prog 90 0 0 := .of Tryd.underlying90 rfl (by kernel_rfl) rfl
theorem fo_90_1 : FldOff Tryd.prog 90 1 1 := .of Tryd.underlying90 rfl (by kernel_rfl) rfl
theorem fo_91_0 : FldOff Tryd.prog 91 0 0 := .of Tryd.underlying91 rfl (by kernel_rfl) rfl
theorem fo_91_1 : FldOff Tryd.prog 91 1 1 := .of Tryd.underlying91 rfl (by kernel_rfl) rfl
theorem fo_104_0 : FldOff Tryd.prog 104 0 0 := .of Tryd.underlying104 rfl (by kernel_rfl) rfl
theorem fo_104_1 : FldOff Tryd.prog 104 1 1 := .of Tryd.underlying104 rfl (by kernel_rfl) rfl
theorem fo_104_2 : FldOff Tryd.prog 104 2 2 := .of Tryd.underlying104 rfl (by kernel_rfl) rfl
theorem fo_105_0 : FldOff Tryd.prog 105 0 0 := .of Tryd.underlying105 rfl (by kernel_rfl) rfl
theorem fo_105_1 : FldOff Tryd.prog 105 1 1 := .of Tryd.underlying105 rfl (by kernel_rfl) rfl
theorem fo_105_2 : FldOff Tryd.prog 105 2 2 := .of Tryd.underlying105 rfl (by kernel_rfl) rfl
theorem fo_129_0 : FldOff Tryd.prog 129 0 0 := .of Tryd.underlying129 rfl (by kernel_rfl) rfl
theorem fo_129_1 : FldOff Tryd.prog 129 1 1 := .of Tryd.underlying129 rfl (by kernel_rfl) rfl
theorem fo_130_0 : FldOff Tryd.prog 130 0 0 := .of Tryd.underlying130 rfl (by kernel_rfl) rfl
theorem fo_130_1 : FldOff Tryd.prog 130 1 1 := .of Tryd.underlying130 rfl (by kernel_rfl) rfl
theorem fo_144_0 : FldOff Tryd.prog 144 0 0 := .of Tryd.underlying144 rfl (by kernel_rfl) rfl
theorem fo_144_1 : FldOff Tryd.prog 144 1 1 := .of Tryd.underlying144 rfl (by kernel_rfl) rfl
theorem fo_144_2 : FldOff Tryd.prog 144 2 2 := .of Tryd.underlying144 rfl (by kernel_rfl) rfl
theorem fo_145_0 : FldOff Tryd.prog 145 0 0 := .of Tryd.underlying145 rfl (by kernel_rfl) rfl
theorem fo_145_1 : FldOff Tryd.prog 145 1 1 := .of Tryd.underlying145 rfl (by kernel_rfl) rfl
theorem fo_145_2 : FldOff Tryd.prog 145 2 2 := .of Tryd.underlying145 rfl (by kernel_rfl) rfl
theorem fo_147_0 : FldOff Tryd.prog 147 0 0 := .of Tryd.underlying147 rfl (by kernel_rfl) rfl
theorem fo_147_1 : FldOff Tryd.prog 147 1 1 := .of Tryd.underlying147 rfl (by kernel_rfl) rfl
theorem fo_147_2 : FldOff Tryd.prog 147 2 2 := .of Tryd.underlying147 rfl (by kernel_rfl) rfl
theorem fo_148_0 : FldOff Tryd.prog 148 0 0 := .of Tryd.underlying148 rfl (by kernel_rfl) rfl
theorem fo_148_1 : FldOff Tryd.prog 148 1 1 := .of Tryd.underlying148 rfl (by kernel_rfl) rfl
theorem fo_148_2 : FldOff Tryd.prog 148 2 2 := .of Tryd.underlying148 rfl (by kernel_rfl) rfl
theorem fo_150_0 : FldOff Tryd.prog 150 0 0 := .of Tryd.underlying150 rfl (by kernel_rfl) rfl
theorem fo_150_1 : FldOff Tryd.prog 150 1 1 := .of Tryd.underlying150 rfl (by kernel_rfl) rfl
theorem fo_150_2 : FldOff Tryd.prog 150 2 2 := .of Tryd.underlying150 rfl (by kernel_rfl) rfl
theorem fo_151_0 : FldOff Tryd.prog 151 0 0 := .of Tryd.underlying151 rfl (by kernel_rfl) rfl
theorem fo_151_1 : FldOff Tryd.prog 151 1 1 := .of Tryd.underlying151 rfl (by kernel_rfl) rfl
theorem fo_151_2 : FldOff Tryd.prog 151 2 2 := .of Tryd.underlying151 rfl (by kernel_rfl) rfl
theorem fo_167_0 : FldOff Tryd.prog 167 0 0 := .of Tryd.underlying167 rfl (by kernel_rfl) rfl
theorem fo_167_1 : FldOff Tryd.prog 167 1 1 := .of Tryd.underlying167 rfl (by kernel_rfl) rfl
theorem fo_168_0 : FldOff Tryd.prog 168 0 0 := .of Tryd.underlying168 rfl (by kernel_rfl) rfl
theorem fo_168_1 : FldOff Tryd.prog 168 1 1 := .of Tryd.underlying168 rfl (by kernel_rfl) rfl
theorem fo_183_0 : FldOff Tryd.prog 183 0 0 := .of Tryd.underlying183 rfl (by kernel_rfl) rfl
theorem fo_183_1 : FldOff Tryd.prog 183 1 1 := .of Tryd.underlying183 rfl (by kernel_rfl) rfl
theorem fo_183_2 : FldOff Tryd.prog 183 2 2 := .of Tryd.underlying183 rfl (by kernel_rfl) rfl
theorem fo_183_3 : FldOff Tryd.prog 183 3 3 := .of Tryd.underlying183 rfl (by kernel_rfl) rfl
theorem fo_184_0 : FldOff Tryd.prog 184 0 0 := .of Tryd.underlying184 rfl (by kernel_rfl) rfl
theorem fo_184_1 : FldOff Tryd.prog 184 1 1 := .of Tryd.underlying184 rfl (by kernel_rfl) rfl
theorem fo_184_2 : FldOff Tryd.prog 184 2 2 := .of Tryd.underlying184 rfl (by kernel_rfl) rfl
theorem fo_184_3 : FldOff Tryd.prog 184 3 3 := .of Tryd.underlying184 rfl (by kernel_rfl) rfl
theorem fo_194_0 : FldOff Tryd.prog 194 0 0 := .of Tryd.underlying194 rfl (by kernel_rfl) rfl
theorem fo_194_1 : FldOff Tryd.prog 194 1 1 := .of Tryd.underlying194 rfl (by kernel_rfl) rfl
theorem fo_194_2 : FldOff Tryd.prog 194 2 2 := .of Tryd.underlying194 rfl (by kernel_rfl) rfl
theorem fo_194_3 : FldOff Tryd.prog 194 3 3 := .of Tryd.underlying194 rfl (by kernel_rfl) rfl
theorem fo_194_4 : FldOff Tryd.prog 194 4 4 := .of Tryd.underlying194 rfl (by kernel_rfl) rfl
theorem fo_194_5 : FldOff Tryd.prog 194 5 5 := .of Tryd.underlying194 rfl (by kernel_rfl) rfl
theorem fo_194_6 : FldOff Tryd.prog 194 6 6 := .of Tryd.underlying194 rfl (by kernel_rfl) rfl
theorem fo_194_7 : FldOff Tryd.prog 194 7 7 := .of Tryd.underlying194 rfl (by kernel_rfl) rfl
theorem fo_194_8 : FldOff Tryd.prog 194 8 8 := .of Tryd.underlying194 rfl (by kernel_rfl) rfl
theorem fo_194_9 : FldOff Tryd.prog 194 9 9 := .of Tryd.underlying194 rfl (by kernel_rfl) rfl
theorem fo_194_10 : FldOff Tryd.prog 194 10 10 := .of Tryd.underlying194 rfl (by kernel_rfl) rfl
theorem fo_195_0 : FldOff Tryd.prog 195 0 0 := .of Tryd.underlying195 rfl (by kernel_rfl) rfl
theorem fo_195_1 : FldOff Tryd.prog 195 1 1 := .of Tryd.underlying195 rfl (by kernel_rfl) rfl
theorem fo_195_2 : FldOff Tryd.prog 195 2 2 := .of Tryd.underlying195 rfl (by kernel_rfl) rfl
theorem fo_195_3 : FldOff Tryd.prog 195 3 3 := .of Tryd.underlying195 rfl (by kernel_rfl) rfl
theorem fo_195_4 : FldOff Tryd.prog 195 4 4 := .of Tryd.underlying195 rfl (by kernel_rfl) rfl
theorem fo_195_5 : FldOff Tryd.prog 195 5 5 := .of Tryd.underlying195 rfl (by kernel_rfl) rfl
theorem fo_195_6 : FldOff Tryd.prog 195 6 6 := .of Tryd.underlying195 rfl (by kernel_rfl) rfl
theorem fo_195_7 : FldOff Tryd.prog 195 7 7 := .of Tryd.underlying195 rfl (by kernel_rfl) rfl
theorem fo_195_8 : FldOff Tryd.prog 195 8 8 := .of Tryd.underlying195 rfl (by kernel_rfl) rfl
theorem fo_195_9 : FldOff Tryd.prog 195 9 9 := .of Tryd.underlying195 rfl (by kernel_rfl) rfl
theorem fo_195_10 : FldOff Tryd.prog 195 10 10 := .of Tryd.underlying195 rfl (by kernel_rfl) rfl
theorem fo_198_0 : FldOff Tryd.prog 198 0 0 := .of Tryd.underlying198 rfl (by kernel_rfl) rfl
theorem fo_198_1 : FldOff Tryd.prog 198 1 1 := .of Tryd.underlying198 rfl (by kernel_rfl) rfl
theorem fo_198_2 : FldOff Tryd.prog 198 2 2 := .of Tryd.underlying198 rfl (by kernel_rfl) rfl
theorem fo_198_3 : FldOff Tryd.prog 198 3 3 := .of Tryd.underlying198 rfl (by kernel_rfl) rfl
theorem fo_199_0 : FldOff Tryd.prog 199 0 0 := .of Tryd.underlying199 rfl (by kernel_rfl) rfl
theorem fo_199_1 : FldOff Tryd.prog 199 1 1 := .of Tryd.underlying199 rfl (by kernel_rfl) rfl
theorem fo_199_2 : FldOff Tryd.prog 199 2 2 := .of Tryd.underlying199 rfl (by kernel_rfl) rfl
theorem fo_199_3 : FldOff Tryd.prog 199 3 3 := .of Tryd.underlying199 rfl (by kernel_rfl) rfl
theorem inf_5 : (Tryd.prog.info? 5).map (fun i => (i.zero, i.size, i.bytes)) = some (some (Value.int .u8 0), 1, 1) := by kernel_rfl
theorem inf_5_i : Tryd.prog.info? 5 = some ((Tryd.prog.info? 5).getD default) := (info_of inf_5).1
theorem inf_5_z : ((Tryd.prog.info? 5).getD default).zero = some (Value.int .u8 0) := (info_of inf_5).2.1
theorem inf_5_s : ((Tryd.prog.info? 5).getD default).size = 1 := (info_of inf_5).2.2.1
theorem inf_5_b : ((Tryd.prog.info? 5).getD default).bytes = 1 := (info_of inf_5).2.2.2
theorem inf_9 : (Tryd.prog.info? 9).map (fun i => (i.zero, i.size, i.bytes)) = some (some (Value.string ⟨#[]⟩), 1, 16) := by kernel_rfl
theorem inf_9_i : Tryd.prog.info? 9 = some ((Tryd.prog.info? 9).getD default) := (info_of inf_9).1
theorem inf_9_z : ((Tryd.prog.info? 9).getD default).zero = some (Value.string ⟨#[]⟩) := (info_of inf_9).2.1
theorem inf_9_s : ((Tryd.prog.info? 9).getD default).size = 1 := (info_of inf_9).2.2.1
theorem inf_9_b : ((Tryd.prog.info? 9).getD default).bytes = 16 := (info_of inf_9).2.2.2
theorem inf_27 : (Tryd.prog.info? 27).map (fun i => (i.zero, i.size, i.bytes)) = some (some (Value.agg #[Value.string ⟨#[]⟩, Value.int .i64 0]), 2, 24) := by kernel_rfl
theorem inf_27_i : Tryd.prog.info? 27 = some ((Tryd.prog.info? 27).getD default) := (info_of inf_27).1
theorem inf_27_z : ((Tryd.prog.info? 27).getD default).zero = some (Value.agg #[Value.string ⟨#[]⟩, Value.int .i64 0]) := (info_of inf_27).2.1
theorem inf_27_s : ((Tryd.prog.info? 27).getD default).size = 2 := (info_of inf_27).2.2.1
theorem inf_27_b : ((Tryd.prog.info? 27).getD default).bytes = 24 := (info_of inf_27).2.2.2
theorem inf_47 : (Tryd.prog.info? 47).map (fun i => (i.zero, i.size, i.bytes)) = some (some (Value.int .u32 0), 1, 4) := by kernel_rfl
theorem inf_47_i : Tryd.prog.info? 47 = some ((Tryd.prog.info? 47).getD default) := (info_of inf_47).1
theorem inf_47_z : ((Tryd.prog.info? 47).getD default).zero = some (Value.int .u32 0) := (info_of inf_47).2.1
theorem inf_47_s : ((Tryd.prog.info? 47).getD default).size = 1 := (info_of inf_47).2.2.1
theorem inf_47_b : ((Tryd.prog.info? 47).getD default).bytes = 4 := (info_of inf_47).2.2.2
theorem inf_48 : (Tryd.prog.info? 48).map (fun i => (i.zero, i.size, i.bytes)) = some (some (Value.int .u64 0), 1, 8) := by kernel_rfl
theorem inf_48_i : Tryd.prog.info? 48 = some ((Tryd.prog.info? 48).getD default) := (info_of inf_48).1
theorem inf_48_z : ((Tryd.prog.info? 48).getD default).zero = some (Value.int .u64 0) := (info_of inf_48).2.1
theorem inf_48_s : ((Tryd.prog.info? 48).getD default).size = 1 := (info_of inf_48).2.2.1
theorem inf_48_b : ((Tryd.prog.info? 48).getD default).bytes = 8 := (info_of inf_48).2.2.2
theorem inf_52 : (Tryd.prog.info? 52).map (fun i => (i.zero, i.size, i.bytes)) = some (some (Value.agg #[Value.int .u8 0, Value.bool false, Value.int .u32 0, Value.int .u64 0, Value.int .u64 0, Value.string ⟨#[]⟩, Value.string ⟨#[]⟩]), 7, 56) := by kernel_rfl
theorem inf_52_i : Tryd.prog.info? 52 = some ((Tryd.prog.info? 52).getD default) := (info_of inf_52).1
theorem inf_52_z : ((Tryd.prog.info? 52).getD default).zero = some (Value.agg #[Value.int .u8 0, Value.bool false, Value.int .u32 0, Value.int .u64 0, Value.int .u64 0, Value.string ⟨#[]⟩, Value.string ⟨#[]⟩]) := (info_of inf_52).2.1
theorem inf_52_s : ((Tryd.prog.info? 52).getD default).size = 7 := (info_of inf_52).2.2.1
theorem inf_52_b : ((Tryd.prog.info? 52).getD default).bytes = 56 := (info_of inf_52).2.2.2
theorem inf_54 : (Tryd.prog.info? 54).map (fun i => (i.zero, i.size, i.bytes)) = some (some (Value.agg #[Value.int .u8 0, Value.int .u8 0, Value.int .u8 0, Value.int .u8 0, Value.slice none 0 0, Value.slice none 0 0, Value.string ⟨#[]⟩, Value.bool false, Value.bool false, Value.int .u8 0, Value.bool false, Value.int .u32 0, Value.int .u64 0, Value.int .u64 0, Value.string ⟨#[]⟩, Value.string ⟨#[]⟩, Value.bool false]), 17, 144) := by kernel_rfl
theorem inf_54_i : Tryd.prog.info? 54 = some ((Tryd.prog.info? 54).getD default) := (info_of inf_54).1
theorem inf_54_z : ((Tryd.prog.info? 54).getD default).zero = some (Value.agg #[Value.int .u8 0, Value.int .u8 0, Value.int .u8 0, Value.int .u8 0, Value.slice none 0 0, Value.slice none 0 0, Value.string ⟨#[]⟩, Value.bool false, Value.bool false, Value.int .u8 0, Value.bool false, Value.int .u32 0, Value.int .u64 0, Value.int .u64 0, Value.string ⟨#[]⟩, Value.string ⟨#[]⟩, Value.bool false]) := (info_of inf_54).2.1
theorem inf_54_s : ((Tryd.prog.info? 54).getD default).size = 17 := (info_of inf_54).2.2.1
theorem inf_54_b : ((Tryd.prog.info? 54).getD default).bytes = 144 := (info_of inf_54).2.2.2
theorem inf_58 : (Tryd.prog.info? 58).map (fun i => (i.zero, i.size, i.bytes)) = some (some (Value.agg #[Value.int .i64 0, Value.string ⟨#[]⟩, Value.int .i64 0]), 3, 32) := by kernel_rfl
theorem inf_58_i : Tryd.prog.info? 58 = some ((Tryd.prog.info? 58).getD default) := (info_of inf_58).1
theorem inf_58_z : ((Tryd.prog.info? 58).getD default).zero = some (Value.agg #[Value.int .i64 0, Value.string ⟨#[]⟩, Value.int .i64 0]) := (info_of inf_58).2.1
theorem inf_58_s : ((Tryd.prog.info? 58).getD default).size = 3 := (info_of inf_58).2.2.1
theorem inf_58_b : ((Tryd.prog.info? 58).getD default).bytes = 32 := (info_of inf_58).2.2.2
theorem inf_105 : (Tryd.prog.info? 105).map (fun i => (i.zero, i.size, i.bytes)) = some (some (Value.agg #[Value.int .u32 0, Value.string ⟨#[]⟩, Value.int .i64 0]), 3, 32) := by kernel_rfl
theorem inf_105_i : Tryd.prog.info? 105 = some ((Tryd.prog.info? 105).getD default) := (info_of inf_105).1
theorem inf_105_z : ((Tryd.prog.info? 105).getD default).zero = some (Value.agg #[Value.int .u32 0, Value.string ⟨#[]⟩, Value.int .i64 0]) := (info_of inf_105).2.1
theorem inf_105_s : ((Tryd.prog.info? 105).getD default).size = 3 := (info_of inf_105).2.2.1
theorem inf_105_b : ((Tryd.prog.info? 105).getD default).bytes = 32 := (info_of inf_105).2.2.2
theorem inf_130 : (Tryd.prog.info? 130).map (fun i => (i.zero, i.size, i.bytes)) = some (some (Value.agg #[Value.int .i64 0, Value.int .i64 0]), 2, 16) := by kernel_rfl
theorem inf_130_i : Tryd.prog.info? 130 = some ((Tryd.prog.info? 130).getD default) := (info_of inf_130).1
theorem inf_130_z : ((Tryd.prog.info? 130).getD default).zero = some (Value.agg #[Value.int .i64 0, Value.int .i64 0]) := (info_of inf_130).2.1
theorem inf_130_s : ((Tryd.prog.info? 130).getD default).size = 2 := (info_of inf_130).2.2.1
theorem inf_130_b : ((Tryd.prog.info? 130).getD default).bytes = 16 := (info_of inf_130).2.2.2
theorem inf_148 : (Tryd.prog.info? 148).map (fun i => (i.zero, i.size, i.bytes)) = some (some (Value.agg #[Value.int .u16 0, Value.int .u16 0, Value.int .u16 0]), 3, 6) := by kernel_rfl
theorem inf_148_i : Tryd.prog.info? 148 = some ((Tryd.prog.info? 148).getD default) := (info_of inf_148).1
theorem inf_148_z : ((Tryd.prog.info? 148).getD default).zero = some (Value.agg #[Value.int .u16 0, Value.int .u16 0, Value.int .u16 0]) := (info_of inf_148).2.1
theorem inf_148_s : ((Tryd.prog.info? 148).getD default).size = 3 := (info_of inf_148).2.2.1
theorem inf_148_b : ((Tryd.prog.info? 148).getD default).bytes = 6 := (info_of inf_148).2.2.2
theorem inf_151 : (Tryd.prog.info? 151).map (fun i => (i.zero, i.size, i.bytes)) = some (some (Value.agg #[Value.int .u32 0, Value.int .u32 0, Value.int .u32 0]), 3, 12) := by kernel_rfl
theorem inf_151_i : Tryd.prog.info? 151 = some ((Tryd.prog.info? 151).getD default) := (info_of inf_151).1
theorem inf_151_z : ((Tryd.prog.info? 151).getD default).zero = some (Value.agg #[Value.int .u32 0, Value.int .u32 0, Value.int .u32 0]) := (info_of inf_151).2.1
theorem inf_151_s : ((Tryd.prog.info? 151).getD default).size = 3 := (info_of inf_151).2.2.1
theorem inf_151_b : ((Tryd.prog.info? 151).getD default).bytes = 12 := (info_of inf_151).2.2.2
end Go.Proofs.YtpdnigifoaoflaaDoor
