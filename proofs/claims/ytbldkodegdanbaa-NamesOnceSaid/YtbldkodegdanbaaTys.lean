/- Sizes and zero values of the types that the walks name. Conditions: none. -/
import Derived.Test.YtbldkodegdanbaaRows
import Derived.Test.YtbldkodegdanbaaGl3
namespace Go.Proofs.Ytbldkodegdanbaa
open Go Go.RowKit
theorem sz_2 : (Try.prog.info? 2).map (·.size) = some 1 := by kernel_rfl
theorem sz_3 : (Try.prog.info? 3).map (·.size) = some 1 := by kernel_rfl
theorem sz_4 : (Try.prog.info? 4).map (·.size) = some 1 := by kernel_rfl
theorem sz_5 : (Try.prog.info? 5).map (·.size) = some 1 := by kernel_rfl
theorem sz_6 : (Try.prog.info? 6).map (·.size) = some 1 := by kernel_rfl
theorem sz_7 : (Try.prog.info? 7).map (·.size) = some 4 := by kernel_rfl
theorem sz_8 : (Try.prog.info? 8).map (·.size) = some 4 := by kernel_rfl
theorem sz_9 : (Try.prog.info? 9).map (·.size) = some 1 := by kernel_rfl
theorem sz_10 : (Try.prog.info? 10).map (·.size) = some 1 := by kernel_rfl
theorem sz_11 : (Try.prog.info? 11).map (·.size) = some 1 := by kernel_rfl
theorem sz_12 : (Try.prog.info? 12).map (·.size) = some 1 := by kernel_rfl
theorem sz_13 : (Try.prog.info? 13).map (·.size) = some 2 := by kernel_rfl
theorem sz_14 : (Try.prog.info? 14).map (·.size) = some 2 := by kernel_rfl
theorem sz_15 : (Try.prog.info? 15).map (·.size) = some 1 := by kernel_rfl
theorem sz_16 : (Try.prog.info? 16).map (·.size) = some 1 := by kernel_rfl
theorem sz_17 : (Try.prog.info? 17).map (·.size) = some 1 := by kernel_rfl
theorem sz_18 : (Try.prog.info? 18).map (·.size) = some 1 := by kernel_rfl
theorem sz_19 : (Try.prog.info? 19).map (·.size) = some 1 := by kernel_rfl
theorem sz_20 : (Try.prog.info? 20).map (·.size) = some 1 := by kernel_rfl
theorem sz_21 : (Try.prog.info? 21).map (·.size) = some 1 := by kernel_rfl
theorem sz_22 : (Try.prog.info? 22).map (·.size) = some 1 := by kernel_rfl
theorem sz_24 : (Try.prog.info? 24).map (·.size) = some 1 := by kernel_rfl
theorem sz_26 : (Try.prog.info? 26).map (·.size) = some 3 := by kernel_rfl
theorem sz_27 : (Try.prog.info? 27).map (·.size) = some 3 := by kernel_rfl
theorem sz_30 : (Try.prog.info? 30).map (·.size) = some 3 := by kernel_rfl
theorem sz_31 : (Try.prog.info? 31).map (·.size) = some 3 := by kernel_rfl
theorem sz_35 : (Try.prog.info? 35).map (·.size) = some 1 := by kernel_rfl
theorem sz_40 : (Try.prog.info? 40).map (·.size) = some 1 := by kernel_rfl
theorem sz_42 : (Try.prog.info? 42).map (·.size) = some 1 := by kernel_rfl
theorem sz_45 : (Try.prog.info? 45).map (·.size) = some 1 := by kernel_rfl
theorem sz_50 : (Try.prog.info? 50).map (·.size) = some 1 := by kernel_rfl
theorem sz_51 : (Try.prog.info? 51).map (·.size) = some 1 := by kernel_rfl
theorem sz_52 : (Try.prog.info? 52).map (·.size) = some 4 := by kernel_rfl
theorem sz_53 : (Try.prog.info? 53).map (·.size) = some 4 := by kernel_rfl
theorem sz_60 : (Try.prog.info? 60).map (·.size) = some 1 := by kernel_rfl
theorem sz_61 : (Try.prog.info? 61).map (·.size) = some 1 := by kernel_rfl
theorem sz_62 : (Try.prog.info? 62).map (·.size) = some 1 := by kernel_rfl
theorem sz_63 : (Try.prog.info? 63).map (·.size) = some 2 := by kernel_rfl
theorem sz_64 : (Try.prog.info? 64).map (·.size) = some 2 := by kernel_rfl
theorem sz_65 : (Try.prog.info? 65).map (·.size) = some 7 := by kernel_rfl
theorem sz_66 : (Try.prog.info? 66).map (·.size) = some 7 := by kernel_rfl
theorem sz_73 : (Try.prog.info? 73).map (·.size) = some 1 := by kernel_rfl
theorem sz_79 : (Try.prog.info? 79).map (·.size) = some 1 := by kernel_rfl
theorem sz_80 : (Try.prog.info? 80).map (·.size) = some 1 := by kernel_rfl
theorem sz_82 : (Try.prog.info? 82).map (·.size) = some 6 := by kernel_rfl
theorem sz_83 : (Try.prog.info? 83).map (·.size) = some 9 := by kernel_rfl
theorem sz_84 : (Try.prog.info? 84).map (·.size) = some 9 := by kernel_rfl
theorem sz_88 : (Try.prog.info? 88).map (·.size) = some 0 := by kernel_rfl
theorem sz_89 : (Try.prog.info? 89).map (·.size) = some 0 := by kernel_rfl
theorem sz_90 : (Try.prog.info? 90).map (·.size) = some 0 := by kernel_rfl
theorem sz_91 : (Try.prog.info? 91).map (·.size) = some 1 := by kernel_rfl
theorem sz_92 : (Try.prog.info? 92).map (·.size) = some 1 := by kernel_rfl
theorem sz_93 : (Try.prog.info? 93).map (·.size) = some 2 := by kernel_rfl
theorem sz_94 : (Try.prog.info? 94).map (·.size) = some 2 := by kernel_rfl
theorem sz_95 : (Try.prog.info? 95).map (·.size) = some 2 := by kernel_rfl
theorem sz_96 : (Try.prog.info? 96).map (·.size) = some 2 := by kernel_rfl
theorem sz_97 : (Try.prog.info? 97).map (·.size) = some 3 := by kernel_rfl
theorem sz_98 : (Try.prog.info? 98).map (·.size) = some 3 := by kernel_rfl
theorem sz_99 : (Try.prog.info? 99).map (·.size) = some 1 := by kernel_rfl
theorem sz_100 : (Try.prog.info? 100).map (·.size) = some 1 := by kernel_rfl
theorem sz_101 : (Try.prog.info? 101).map (·.size) = some 0 := by kernel_rfl
theorem sz_102 : (Try.prog.info? 102).map (·.size) = some 1 := by kernel_rfl
theorem sz_103 : (Try.prog.info? 103).map (·.size) = some 1 := by kernel_rfl
theorem sz_104 : (Try.prog.info? 104).map (·.size) = some 7 := by kernel_rfl
theorem sz_105 : (Try.prog.info? 105).map (·.size) = some 7 := by kernel_rfl
theorem sz_109 : (Try.prog.info? 109).map (·.size) = some 2 := by kernel_rfl
theorem sz_112 : (Try.prog.info? 112).map (·.size) = some 1 := by kernel_rfl
theorem sz_117 : (Try.prog.info? 117).map (·.size) = some 1 := by kernel_rfl
theorem sz_119 : (Try.prog.info? 119).map (·.size) = some 1 := by kernel_rfl
theorem sz_120 : (Try.prog.info? 120).map (·.size) = some 1 := by kernel_rfl
theorem sz_123 : (Try.prog.info? 123).map (·.size) = some 1 := by kernel_rfl
theorem sz_132 : (Try.prog.info? 132).map (·.size) = some 1 := by kernel_rfl
theorem sz_134 : (Try.prog.info? 134).map (·.size) = some 1 := by kernel_rfl
theorem sz_136 : (Try.prog.info? 136).map (·.size) = some 1 := by kernel_rfl
theorem sz_140 : (Try.prog.info? 140).map (·.size) = some 1 := by kernel_rfl
theorem sz_142 : (Try.prog.info? 142).map (·.size) = some 1 := by kernel_rfl
theorem sz_145 : (Try.prog.info? 145).map (·.size) = some 1 := by kernel_rfl
theorem sz_148 : (Try.prog.info? 148).map (·.size) = some 1 := by kernel_rfl
theorem sz_150 : (Try.prog.info? 150).map (·.size) = some 1 := by kernel_rfl
theorem sz_152 : (Try.prog.info? 152).map (·.size) = some 1 := by kernel_rfl
theorem sz_159 : (Try.prog.info? 159).map (·.size) = some 4 := by kernel_rfl
theorem sz_160 : (Try.prog.info? 160).map (·.size) = some 4 := by kernel_rfl
theorem sz_161 : (Try.prog.info? 161).map (·.size) = some 0 := by kernel_rfl
theorem sz_162 : (Try.prog.info? 162).map (·.size) = some 0 := by kernel_rfl
theorem sz_163 : (Try.prog.info? 163).map (·.size) = some 0 := by kernel_rfl
theorem sz_165 : (Try.prog.info? 165).map (·.size) = some 1 := by kernel_rfl
theorem sz_166 : (Try.prog.info? 166).map (·.size) = some 1 := by kernel_rfl
theorem sz_168 : (Try.prog.info? 168).map (·.size) = some 1 := by kernel_rfl
theorem sz_169 : (Try.prog.info? 169).map (·.size) = some 1 := by kernel_rfl
theorem sz_170 : (Try.prog.info? 170).map (·.size) = some 1 := by kernel_rfl
theorem sz_171 : (Try.prog.info? 171).map (·.size) = some 11 := by kernel_rfl
theorem sz_172 : (Try.prog.info? 172).map (·.size) = some 11 := by kernel_rfl
theorem fo_7_0 : FldOff Try.prog 7 0 0 := .of Try.underlying7 rfl (by kernel_rfl) rfl
theorem fo_7_1 : FldOff Try.prog 7 1 1 := .of Try.underlying7 rfl (by kernel_rfl) rfl
theorem fo_7_2 : FldOff Try.prog 7 2 2 := .of Try.underlying7 rfl (by kernel_rfl) rfl
theorem fo_7_3 : FldOff Try.prog 7 3 3 := .of Try.underlying7 rfl (by kernel_rfl) rfl
theorem fo_8_0 : FldOff Try.prog 8 0 0 := .of Try.underlying8 rfl (by kernel_rfl) rfl
theorem fo_8_1 : FldOff Try.prog 8 1 1 := .of Try.underlying8 rfl (by kernel_rfl) rfl
theorem fo_8_2 : FldOff Try.prog 8 2 2 := .of Try.underlying8 rfl (by kernel_rfl) rfl
theorem fo_8_3 : FldOff Try.prog 8 3 3 := .of Try.underlying8 rfl (by kernel_rfl) rfl
theorem fo_13_0 : FldOff Try.prog 13 0 0 := .of Try.underlying13 rfl (by kernel_rfl) rfl
theorem fo_13_1 : FldOff Try.prog 13 1 1 := .of Try.underlying13 rfl (by kernel_rfl) rfl
theorem fo_14_0 : FldOff Try.prog 14 0 0 := .of Try.underlying14 rfl (by kernel_rfl) rfl
theorem fo_14_1 : FldOff Try.prog 14 1 1 := .of Try.underlying14 rfl (by kernel_rfl) rfl
theorem fo_18_0 : FldOff Try.prog 18 0 0 := .of Try.underlying18 rfl (by kernel_rfl) rfl
theorem fo_19_0 : FldOff Try.prog 19 0 0 := .of Try.underlying19 rfl (by kernel_rfl) rfl
theorem fo_26_0 : FldOff Try.prog 26 0 0 := .of Try.underlying26 rfl (by kernel_rfl) rfl
theorem fo_26_1 : FldOff Try.prog 26 1 1 := .of Try.underlying26 rfl (by kernel_rfl) rfl
theorem fo_26_2 : FldOff Try.prog 26 2 2 := .of Try.underlying26 rfl (by kernel_rfl) rfl
theorem fo_27_0 : FldOff Try.prog 27 0 0 := .of Try.underlying27 rfl (by kernel_rfl) rfl
theorem fo_27_1 : FldOff Try.prog 27 1 1 := .of Try.underlying27 rfl (by kernel_rfl) rfl
theorem fo_27_2 : FldOff Try.prog 27 2 2 := .of Try.underlying27 rfl (by kernel_rfl) rfl
theorem fo_30_0 : FldOff Try.prog 30 0 0 := .of Try.underlying30 rfl (by kernel_rfl) rfl
theorem fo_30_1 : FldOff Try.prog 30 1 1 := .of Try.underlying30 rfl (by kernel_rfl) rfl
theorem fo_30_2 : FldOff Try.prog 30 2 2 := .of Try.underlying30 rfl (by kernel_rfl) rfl
theorem fo_31_0 : FldOff Try.prog 31 0 0 := .of Try.underlying31 rfl (by kernel_rfl) rfl
theorem fo_31_1 : FldOff Try.prog 31 1 1 := .of Try.underlying31 rfl (by kernel_rfl) rfl
theorem fo_31_2 : FldOff Try.prog 31 2 2 := .of Try.underlying31 rfl (by kernel_rfl) rfl
theorem fo_52_0 : FldOff Try.prog 52 0 0 := .of Try.underlying52 rfl (by kernel_rfl) rfl
theorem fo_52_1 : FldOff Try.prog 52 1 1 := .of Try.underlying52 rfl (by kernel_rfl) rfl
theorem fo_52_2 : FldOff Try.prog 52 2 2 := .of Try.underlying52 rfl (by kernel_rfl) rfl
theorem fo_52_3 : FldOff Try.prog 52 3 3 := .of Try.underlying52 rfl (by kernel_rfl) rfl
theorem fo_53_0 : FldOff Try.prog 53 0 0 := .of Try.underlying53 rfl (by kernel_rfl) rfl
theorem fo_53_1 : FldOff Try.prog 53 1 1 := .of Try.underlying53 rfl (by kernel_rfl) rfl
theorem fo_53_2 : FldOff Try.prog 53 2 2 := .of Try.underlying53 rfl (by kernel_rfl) rfl
theorem fo_53_3 : FldOff Try.prog 53 3 3 := .of Try.underlying53 rfl (by kernel_rfl) rfl
theorem fo_65_0 : FldOff Try.prog 65 0 0 := .of Try.underlying65 rfl (by kernel_rfl) rfl
theorem fo_65_1 : FldOff Try.prog 65 1 1 := .of Try.underlying65 rfl (by kernel_rfl) rfl
theorem fo_65_2 : FldOff Try.prog 65 2 2 := .of Try.underlying65 rfl (by kernel_rfl) rfl
theorem fo_65_3 : FldOff Try.prog 65 3 3 := .of Try.underlying65 rfl (by kernel_rfl) rfl
theorem fo_65_4 : FldOff Try.prog 65 4 5 := .of Try.underlying65 rfl (by kernel_rfl) rfl
theorem fo_66_0 : FldOff Try.prog 66 0 0 := .of Try.underlying66 rfl (by kernel_rfl) rfl
theorem fo_66_1 : FldOff Try.prog 66 1 1 := .of Try.underlying66 rfl (by kernel_rfl) rfl
theorem fo_66_2 : FldOff Try.prog 66 2 2 := .of Try.underlying66 rfl (by kernel_rfl) rfl
theorem fo_66_3 : FldOff Try.prog 66 3 3 := .of Try.underlying66 rfl (by kernel_rfl) rfl
theorem fo_66_4 : FldOff Try.prog 66 4 5 := .of Try.underlying66 rfl (by kernel_rfl) rfl
theorem fo_83_0 : FldOff Try.prog 83 0 0 := .of Try.underlying83 rfl (by kernel_rfl) rfl
theorem fo_83_1 : FldOff Try.prog 83 1 1 := .of Try.underlying83 rfl (by kernel_rfl) rfl
theorem fo_83_2 : FldOff Try.prog 83 2 2 := .of Try.underlying83 rfl (by kernel_rfl) rfl
theorem fo_83_3 : FldOff Try.prog 83 3 3 := .of Try.underlying83 rfl (by kernel_rfl) rfl
theorem fo_84_0 : FldOff Try.prog 84 0 0 := .of Try.underlying84 rfl (by kernel_rfl) rfl
theorem fo_84_1 : FldOff Try.prog 84 1 1 := .of Try.underlying84 rfl (by kernel_rfl) rfl
theorem fo_84_2 : FldOff Try.prog 84 2 2 := .of Try.underlying84 rfl (by kernel_rfl) rfl
theorem fo_84_3 : FldOff Try.prog 84 3 3 := .of Try.underlying84 rfl (by kernel_rfl) rfl
theorem fo_91_1 : FldOff Try.prog 91 1 0 := .of Try.underlying91 rfl (by kernel_rfl) rfl
theorem fo_92_1 : FldOff Try.prog 92 1 0 := .of Try.underlying92 rfl (by kernel_rfl) rfl
theorem fo_93_0 : FldOff Try.prog 93 0 0 := .of Try.underlying93 rfl (by kernel_rfl) rfl
theorem fo_93_1 : FldOff Try.prog 93 1 1 := .of Try.underlying93 rfl (by kernel_rfl) rfl
theorem fo_94_0 : FldOff Try.prog 94 0 0 := .of Try.underlying94 rfl (by kernel_rfl) rfl
theorem fo_94_1 : FldOff Try.prog 94 1 1 := .of Try.underlying94 rfl (by kernel_rfl) rfl
theorem fo_95_1 : FldOff Try.prog 95 1 0 := .of Try.underlying95 rfl (by kernel_rfl) rfl
theorem fo_96_1 : FldOff Try.prog 96 1 0 := .of Try.underlying96 rfl (by kernel_rfl) rfl
theorem fo_97_1 : FldOff Try.prog 97 1 0 := .of Try.underlying97 rfl (by kernel_rfl) rfl
theorem fo_97_2 : FldOff Try.prog 97 2 1 := .of Try.underlying97 rfl (by kernel_rfl) rfl
theorem fo_98_1 : FldOff Try.prog 98 1 0 := .of Try.underlying98 rfl (by kernel_rfl) rfl
theorem fo_98_2 : FldOff Try.prog 98 2 1 := .of Try.underlying98 rfl (by kernel_rfl) rfl
theorem fo_102_2 : FldOff Try.prog 102 2 0 := .of Try.underlying102 rfl (by kernel_rfl) rfl
theorem fo_103_2 : FldOff Try.prog 103 2 0 := .of Try.underlying103 rfl (by kernel_rfl) rfl
theorem fo_104_0 : FldOff Try.prog 104 0 0 := .of Try.underlying104 rfl (by kernel_rfl) rfl
theorem fo_104_1 : FldOff Try.prog 104 1 3 := .of Try.underlying104 rfl (by kernel_rfl) rfl
theorem fo_104_2 : FldOff Try.prog 104 2 4 := .of Try.underlying104 rfl (by kernel_rfl) rfl
theorem fo_104_3 : FldOff Try.prog 104 3 5 := .of Try.underlying104 rfl (by kernel_rfl) rfl
theorem fo_104_4 : FldOff Try.prog 104 4 6 := .of Try.underlying104 rfl (by kernel_rfl) rfl
theorem fo_105_0 : FldOff Try.prog 105 0 0 := .of Try.underlying105 rfl (by kernel_rfl) rfl
theorem fo_105_1 : FldOff Try.prog 105 1 3 := .of Try.underlying105 rfl (by kernel_rfl) rfl
theorem fo_105_2 : FldOff Try.prog 105 2 4 := .of Try.underlying105 rfl (by kernel_rfl) rfl
theorem fo_105_3 : FldOff Try.prog 105 3 5 := .of Try.underlying105 rfl (by kernel_rfl) rfl
theorem fo_105_4 : FldOff Try.prog 105 4 6 := .of Try.underlying105 rfl (by kernel_rfl) rfl
theorem fo_159_0 : FldOff Try.prog 159 0 0 := .of Try.underlying159 rfl (by kernel_rfl) rfl
theorem fo_159_1 : FldOff Try.prog 159 1 1 := .of Try.underlying159 rfl (by kernel_rfl) rfl
theorem fo_159_2 : FldOff Try.prog 159 2 2 := .of Try.underlying159 rfl (by kernel_rfl) rfl
theorem fo_159_3 : FldOff Try.prog 159 3 3 := .of Try.underlying159 rfl (by kernel_rfl) rfl
theorem fo_160_0 : FldOff Try.prog 160 0 0 := .of Try.underlying160 rfl (by kernel_rfl) rfl
theorem fo_160_1 : FldOff Try.prog 160 1 1 := .of Try.underlying160 rfl (by kernel_rfl) rfl
theorem fo_160_2 : FldOff Try.prog 160 2 2 := .of Try.underlying160 rfl (by kernel_rfl) rfl
theorem fo_160_3 : FldOff Try.prog 160 3 3 := .of Try.underlying160 rfl (by kernel_rfl) rfl
theorem fo_171_0 : FldOff Try.prog 171 0 0 := .of Try.underlying171 rfl (by kernel_rfl) rfl
theorem fo_171_1 : FldOff Try.prog 171 1 1 := .of Try.underlying171 rfl (by kernel_rfl) rfl
theorem fo_171_2 : FldOff Try.prog 171 2 2 := .of Try.underlying171 rfl (by kernel_rfl) rfl
theorem fo_171_3 : FldOff Try.prog 171 3 3 := .of Try.underlying171 rfl (by kernel_rfl) rfl
theorem fo_171_4 : FldOff Try.prog 171 4 4 := .of Try.underlying171 rfl (by kernel_rfl) rfl
theorem fo_171_5 : FldOff Try.prog 171 5 5 := .of Try.underlying171 rfl (by kernel_rfl) rfl
theorem fo_171_6 : FldOff Try.prog 171 6 6 := .of Try.underlying171 rfl (by kernel_rfl) rfl
theorem fo_171_7 : FldOff Try.prog 171 7 7 := .of Try.underlying171 rfl (by kernel_rfl) rfl
theorem fo_171_8 : FldOff Try.prog 171 8 8 := .of Try.underlying171 rfl (by kernel_rfl) rfl
theorem fo_171_9 : FldOff Try.prog 171 9 9 := .of Try.underlying171 rfl (by kernel_rfl) rfl
theorem fo_171_10 : FldOff Try.prog 171 10 10 := .of Try.underlying171 rfl (by kernel_rfl) rfl
theorem fo_172_0 : FldOff Try.prog 172 0 0 := .of Try.underlying172 rfl (by kernel_rfl) rfl
theorem fo_172_1 : FldOff Try.prog 172 1 1 := .of Try.underlying172 rfl (by kernel_rfl) rfl
theorem fo_172_2 : FldOff Try.prog 172 2 2 := .of Try.underlying172 rfl (by kernel_rfl) rfl
theorem fo_172_3 : FldOff Try.prog 172 3 3 := .of Try.underlying172 rfl (by kernel_rfl) rfl
theorem fo_172_4 : FldOff Try.prog 172 4 4 := .of Try.underlying172 rfl (by kernel_rfl) rfl
theorem fo_172_5 : FldOff Try.prog 172 5 5 := .of Try.underlying172 rfl (by kernel_rfl) rfl
theorem fo_172_6 : FldOff Try.prog 172 6 6 := .of Try.underlying172 rfl (by kernel_rfl) rfl
theorem fo_172_7 : FldOff Try.prog 172 7 7 := .of Try.underlying172 rfl (by kernel_rfl) rfl
theorem fo_172_8 : FldOff Try.prog 172 8 8 := .of Try.underlying172 rfl (by kernel_rfl) rfl
theorem fo_172_9 : FldOff Try.prog 172 9 9 := .of Try.underlying172 rfl (by kernel_rfl) rfl
theorem fo_172_10 : FldOff Try.prog 172 10 10 := .of Try.underlying172 rfl (by kernel_rfl) rfl
theorem inf_3 : (Try.prog.info? 3).map (fun i => (i.zero, i.size, i.bytes)) = some (some (Value.int .i64 0), 1, 8) := by kernel_rfl
theorem inf_3_i : Try.prog.info? 3 = some ((Try.prog.info? 3).getD default) := (info_of inf_3).1
theorem inf_3_z : ((Try.prog.info? 3).getD default).zero = some (Value.int .i64 0) := (info_of inf_3).2.1
theorem inf_3_s : ((Try.prog.info? 3).getD default).size = 1 := (info_of inf_3).2.2.1
theorem inf_3_b : ((Try.prog.info? 3).getD default).bytes = 8 := (info_of inf_3).2.2.2
theorem inf_5 : (Try.prog.info? 5).map (fun i => (i.zero, i.size, i.bytes)) = some (some (Value.int .u8 0), 1, 1) := by kernel_rfl
theorem inf_5_i : Try.prog.info? 5 = some ((Try.prog.info? 5).getD default) := (info_of inf_5).1
theorem inf_5_z : ((Try.prog.info? 5).getD default).zero = some (Value.int .u8 0) := (info_of inf_5).2.1
theorem inf_5_s : ((Try.prog.info? 5).getD default).size = 1 := (info_of inf_5).2.2.1
theorem inf_5_b : ((Try.prog.info? 5).getD default).bytes = 1 := (info_of inf_5).2.2.2
theorem inf_9 : (Try.prog.info? 9).map (fun i => (i.zero, i.size, i.bytes)) = some (some (Value.string ⟨#[]⟩), 1, 16) := by kernel_rfl
theorem inf_9_i : Try.prog.info? 9 = some ((Try.prog.info? 9).getD default) := (info_of inf_9).1
theorem inf_9_z : ((Try.prog.info? 9).getD default).zero = some (Value.string ⟨#[]⟩) := (info_of inf_9).2.1
theorem inf_9_s : ((Try.prog.info? 9).getD default).size = 1 := (info_of inf_9).2.2.1
theorem inf_9_b : ((Try.prog.info? 9).getD default).bytes = 16 := (info_of inf_9).2.2.2
theorem inf_22 : (Try.prog.info? 22).map (fun i => (i.zero, i.size, i.bytes)) = some (some (Value.int .u32 0), 1, 4) := by kernel_rfl
theorem inf_22_i : Try.prog.info? 22 = some ((Try.prog.info? 22).getD default) := (info_of inf_22).1
theorem inf_22_z : ((Try.prog.info? 22).getD default).zero = some (Value.int .u32 0) := (info_of inf_22).2.1
theorem inf_22_s : ((Try.prog.info? 22).getD default).size = 1 := (info_of inf_22).2.2.1
theorem inf_22_b : ((Try.prog.info? 22).getD default).bytes = 4 := (info_of inf_22).2.2.2
theorem inf_27 : (Try.prog.info? 27).map (fun i => (i.zero, i.size, i.bytes)) = some (some (Value.agg #[Value.int .u32 0, Value.string ⟨#[]⟩, Value.int .i64 0]), 3, 32) := by kernel_rfl
theorem inf_27_i : Try.prog.info? 27 = some ((Try.prog.info? 27).getD default) := (info_of inf_27).1
theorem inf_27_z : ((Try.prog.info? 27).getD default).zero = some (Value.agg #[Value.int .u32 0, Value.string ⟨#[]⟩, Value.int .i64 0]) := (info_of inf_27).2.1
theorem inf_27_s : ((Try.prog.info? 27).getD default).size = 3 := (info_of inf_27).2.2.1
theorem inf_27_b : ((Try.prog.info? 27).getD default).bytes = 32 := (info_of inf_27).2.2.2
theorem inf_31 : (Try.prog.info? 31).map (fun i => (i.zero, i.size, i.bytes)) = some (some (Value.agg #[Value.int .i64 0, Value.string ⟨#[]⟩, Value.int .i64 0]), 3, 32) := by kernel_rfl
theorem inf_31_i : Try.prog.info? 31 = some ((Try.prog.info? 31).getD default) := (info_of inf_31).1
theorem inf_31_z : ((Try.prog.info? 31).getD default).zero = some (Value.agg #[Value.int .i64 0, Value.string ⟨#[]⟩, Value.int .i64 0]) := (info_of inf_31).2.1
theorem inf_31_s : ((Try.prog.info? 31).getD default).size = 3 := (info_of inf_31).2.2.1
theorem inf_31_b : ((Try.prog.info? 31).getD default).bytes = 32 := (info_of inf_31).2.2.2
theorem inf_50 : (Try.prog.info? 50).map (fun i => (i.zero, i.size, i.bytes)) = some (some (Value.slice none 0 0), 1, 24) := by kernel_rfl
theorem inf_50_i : Try.prog.info? 50 = some ((Try.prog.info? 50).getD default) := (info_of inf_50).1
theorem inf_50_z : ((Try.prog.info? 50).getD default).zero = some (Value.slice none 0 0) := (info_of inf_50).2.1
theorem inf_50_s : ((Try.prog.info? 50).getD default).size = 1 := (info_of inf_50).2.2.1
theorem inf_50_b : ((Try.prog.info? 50).getD default).bytes = 24 := (info_of inf_50).2.2.2
theorem inf_66 : (Try.prog.info? 66).map (fun i => (i.zero, i.size, i.bytes)) = some (some (Value.agg #[Value.int .u8 0, Value.bool false, Value.int .u32 0, Value.int .u64 0, Value.int .u64 0, Value.string ⟨#[]⟩, Value.string ⟨#[]⟩]), 7, 56) := by kernel_rfl
theorem inf_66_i : Try.prog.info? 66 = some ((Try.prog.info? 66).getD default) := (info_of inf_66).1
theorem inf_66_z : ((Try.prog.info? 66).getD default).zero = some (Value.agg #[Value.int .u8 0, Value.bool false, Value.int .u32 0, Value.int .u64 0, Value.int .u64 0, Value.string ⟨#[]⟩, Value.string ⟨#[]⟩]) := (info_of inf_66).2.1
theorem inf_66_s : ((Try.prog.info? 66).getD default).size = 7 := (info_of inf_66).2.2.1
theorem inf_66_b : ((Try.prog.info? 66).getD default).bytes = 56 := (info_of inf_66).2.2.2
end Go.Proofs.Ytbldkodegdanbaa
