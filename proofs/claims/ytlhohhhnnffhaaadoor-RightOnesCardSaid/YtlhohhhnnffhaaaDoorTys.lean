/- Sizes and zero values of the types that the walks name. Conditions: none. -/
import Derived.Test.YtlhohhhnnffhaaaDoorRows
import Derived.Test.YtlhohhhnnffhaaaDoorGl3
namespace Go.Proofs.YtlhohhhnnffhaaaDoor
open Go Go.RowKit
theorem sz_2 : (Tryd.prog.info? 2).map (·.size) = some 1 := by kernel_rfl
theorem sz_3 : (Tryd.prog.info? 3).map (·.size) = some 1 := by kernel_rfl
theorem sz_4 : (Tryd.prog.info? 4).map (·.size) = some 1 := by kernel_rfl
theorem sz_5 : (Tryd.prog.info? 5).map (·.size) = some 1 := by kernel_rfl
theorem sz_6 : (Tryd.prog.info? 6).map (·.size) = some 1 := by kernel_rfl
theorem sz_7 : (Tryd.prog.info? 7).map (·.size) = some 4 := by kernel_rfl
theorem sz_8 : (Tryd.prog.info? 8).map (·.size) = some 4 := by kernel_rfl
theorem sz_9 : (Tryd.prog.info? 9).map (·.size) = some 1 := by kernel_rfl
theorem sz_10 : (Tryd.prog.info? 10).map (·.size) = some 1 := by kernel_rfl
theorem sz_11 : (Tryd.prog.info? 11).map (·.size) = some 1 := by kernel_rfl
theorem sz_12 : (Tryd.prog.info? 12).map (·.size) = some 1 := by kernel_rfl
theorem sz_13 : (Tryd.prog.info? 13).map (·.size) = some 2 := by kernel_rfl
theorem sz_14 : (Tryd.prog.info? 14).map (·.size) = some 2 := by kernel_rfl
theorem sz_15 : (Tryd.prog.info? 15).map (·.size) = some 1 := by kernel_rfl
theorem sz_16 : (Tryd.prog.info? 16).map (·.size) = some 1 := by kernel_rfl
theorem sz_17 : (Tryd.prog.info? 17).map (·.size) = some 1 := by kernel_rfl
theorem sz_18 : (Tryd.prog.info? 18).map (·.size) = some 1 := by kernel_rfl
theorem sz_19 : (Tryd.prog.info? 19).map (·.size) = some 1 := by kernel_rfl
theorem sz_20 : (Tryd.prog.info? 20).map (·.size) = some 1 := by kernel_rfl
theorem sz_21 : (Tryd.prog.info? 21).map (·.size) = some 1 := by kernel_rfl
theorem sz_22 : (Tryd.prog.info? 22).map (·.size) = some 1 := by kernel_rfl
theorem sz_24 : (Tryd.prog.info? 24).map (·.size) = some 1 := by kernel_rfl
theorem sz_26 : (Tryd.prog.info? 26).map (·.size) = some 1 := by kernel_rfl
theorem sz_27 : (Tryd.prog.info? 27).map (·.size) = some 1 := by kernel_rfl
theorem sz_38 : (Tryd.prog.info? 38).map (·.size) = some 1 := by kernel_rfl
theorem sz_45 : (Tryd.prog.info? 45).map (·.size) = some 1 := by kernel_rfl
theorem sz_47 : (Tryd.prog.info? 47).map (·.size) = some 2 := by kernel_rfl
theorem sz_48 : (Tryd.prog.info? 48).map (·.size) = some 2 := by kernel_rfl
theorem sz_51 : (Tryd.prog.info? 51).map (·.size) = some 1 := by kernel_rfl
theorem sz_52 : (Tryd.prog.info? 52).map (·.size) = some 1 := by kernel_rfl
theorem sz_55 : (Tryd.prog.info? 55).map (·.size) = some 0 := by kernel_rfl
theorem sz_56 : (Tryd.prog.info? 56).map (·.size) = some 0 := by kernel_rfl
theorem sz_57 : (Tryd.prog.info? 57).map (·.size) = some 0 := by kernel_rfl
theorem sz_58 : (Tryd.prog.info? 58).map (·.size) = some 1 := by kernel_rfl
theorem sz_59 : (Tryd.prog.info? 59).map (·.size) = some 1 := by kernel_rfl
theorem sz_60 : (Tryd.prog.info? 60).map (·.size) = some 1 := by kernel_rfl
theorem sz_61 : (Tryd.prog.info? 61).map (·.size) = some 2 := by kernel_rfl
theorem sz_62 : (Tryd.prog.info? 62).map (·.size) = some 2 := by kernel_rfl
theorem sz_63 : (Tryd.prog.info? 63).map (·.size) = some 2 := by kernel_rfl
theorem sz_64 : (Tryd.prog.info? 64).map (·.size) = some 2 := by kernel_rfl
theorem sz_65 : (Tryd.prog.info? 65).map (·.size) = some 3 := by kernel_rfl
theorem sz_66 : (Tryd.prog.info? 66).map (·.size) = some 3 := by kernel_rfl
theorem sz_67 : (Tryd.prog.info? 67).map (·.size) = some 1 := by kernel_rfl
theorem sz_68 : (Tryd.prog.info? 68).map (·.size) = some 4 := by kernel_rfl
theorem sz_69 : (Tryd.prog.info? 69).map (·.size) = some 4 := by kernel_rfl
theorem sz_72 : (Tryd.prog.info? 72).map (·.size) = some 16 := by kernel_rfl
theorem sz_77 : (Tryd.prog.info? 77).map (·.size) = some 1 := by kernel_rfl
theorem sz_78 : (Tryd.prog.info? 78).map (·.size) = some 1 := by kernel_rfl
theorem sz_79 : (Tryd.prog.info? 79).map (·.size) = some 4 := by kernel_rfl
theorem sz_80 : (Tryd.prog.info? 80).map (·.size) = some 4 := by kernel_rfl
theorem sz_84 : (Tryd.prog.info? 84).map (·.size) = some 1 := by kernel_rfl
theorem sz_85 : (Tryd.prog.info? 85).map (·.size) = some 2 := by kernel_rfl
theorem sz_86 : (Tryd.prog.info? 86).map (·.size) = some 2 := by kernel_rfl
theorem sz_88 : (Tryd.prog.info? 88).map (·.size) = some 1 := by kernel_rfl
theorem sz_89 : (Tryd.prog.info? 89).map (·.size) = some 1 := by kernel_rfl
theorem sz_92 : (Tryd.prog.info? 92).map (·.size) = some 1 := by kernel_rfl
theorem sz_93 : (Tryd.prog.info? 93).map (·.size) = some 1 := by kernel_rfl
theorem sz_97 : (Tryd.prog.info? 97).map (·.size) = some 1 := by kernel_rfl
theorem sz_98 : (Tryd.prog.info? 98).map (·.size) = some 1 := by kernel_rfl
theorem sz_100 : (Tryd.prog.info? 100).map (·.size) = some 1 := by kernel_rfl
theorem sz_102 : (Tryd.prog.info? 102).map (·.size) = some 7 := by kernel_rfl
theorem sz_108 : (Tryd.prog.info? 108).map (·.size) = some 1 := by kernel_rfl
theorem sz_111 : (Tryd.prog.info? 111).map (·.size) = some 1 := by kernel_rfl
theorem sz_114 : (Tryd.prog.info? 114).map (·.size) = some 1 := by kernel_rfl
theorem sz_116 : (Tryd.prog.info? 116).map (·.size) = some 1 := by kernel_rfl
theorem sz_120 : (Tryd.prog.info? 120).map (·.size) = some 256 := by kernel_rfl
theorem sz_121 : (Tryd.prog.info? 121).map (·.size) = some 2 := by kernel_rfl
theorem sz_122 : (Tryd.prog.info? 122).map (·.size) = some 2 := by kernel_rfl
theorem sz_123 : (Tryd.prog.info? 123).map (·.size) = some 32 := by kernel_rfl
theorem sz_130 : (Tryd.prog.info? 130).map (·.size) = some 4 := by kernel_rfl
theorem sz_131 : (Tryd.prog.info? 131).map (·.size) = some 4 := by kernel_rfl
theorem sz_132 : (Tryd.prog.info? 132).map (·.size) = some 0 := by kernel_rfl
theorem sz_133 : (Tryd.prog.info? 133).map (·.size) = some 0 := by kernel_rfl
theorem sz_134 : (Tryd.prog.info? 134).map (·.size) = some 0 := by kernel_rfl
theorem sz_135 : (Tryd.prog.info? 135).map (·.size) = some 1 := by kernel_rfl
theorem sz_136 : (Tryd.prog.info? 136).map (·.size) = some 1 := by kernel_rfl
theorem sz_138 : (Tryd.prog.info? 138).map (·.size) = some 1 := by kernel_rfl
theorem sz_139 : (Tryd.prog.info? 139).map (·.size) = some 1 := by kernel_rfl
theorem sz_140 : (Tryd.prog.info? 140).map (·.size) = some 11 := by kernel_rfl
theorem sz_141 : (Tryd.prog.info? 141).map (·.size) = some 11 := by kernel_rfl
theorem fo_7_0 : FldOff Tryd.prog 7 0 0 := .of Tryd.underlying7 rfl (by kernel_rfl) rfl
theorem fo_7_1 : FldOff Tryd.prog 7 1 1 := .of Tryd.underlying7 rfl (by kernel_rfl) rfl
theorem fo_7_2 : FldOff Tryd.prog 7 2 2 := .of Tryd.underlying7 rfl (by kernel_rfl) rfl
theorem fo_7_3 : FldOff Tryd.prog 7 3 3 := .of Tryd.underlying7 rfl (by kernel_rfl) rfl
theorem fo_8_0 : FldOff Tryd.prog 8 0 0 := .of Tryd.underlying8 rfl (by kernel_rfl) rfl
theorem fo_8_1 : FldOff Tryd.prog 8 1 1 := .of Tryd.underlying8 rfl (by kernel_rfl) rfl
theorem fo_8_2 : FldOff Tryd.prog 8 2 2 := .of Tryd.underlying8 rfl (by kernel_rfl) rfl
theorem fo_8_3 : FldOff Tryd.prog 8 3 3 := .of Tryd.underlying8 rfl (by kernel_rfl) rfl
theorem fo_13_0 : FldOff Tryd.prog 13 0 0 := .of Tryd.underlying13 rfl (by kernel_rfl) rfl
theorem fo_13_1 : FldOff Tryd.prog 13 1 1 := .of Tryd.underlying13 rfl (by kernel_rfl) rfl
theorem fo_14_0 : FldOff Tryd.prog 14 0 0 := .of Tryd.underlying14 rfl (by kernel_rfl) rfl
theorem fo_14_1 : FldOff Tryd.prog 14 1 1 := .of Tryd.underlying14 rfl (by kernel_rfl) rfl
theorem fo_18_0 : FldOff Tryd.prog 18 0 0 := .of Tryd.underlying18 rfl (by kernel_rfl) rfl
theorem fo_19_0 : FldOff Tryd.prog 19 0 0 := .of Tryd.underlying19 rfl (by kernel_rfl) rfl
theorem fo_47_0 : FldOff Tryd.prog 47 0 0 := .of Tryd.underlying47 rfl (by kernel_rfl) rfl
theorem fo_47_1 : FldOff Tryd.prog 47 1 1 := .of Tryd.underlying47 rfl (by kernel_rfl) rfl
theorem fo_48_0 : FldOff Tryd.prog 48 0 0 := .of Tryd.underlying48 rfl (by kernel_rfl) rfl
theorem fo_48_1 : FldOff Tryd.prog 48 1 1 := .of Tryd.underlying48 rfl (by kernel_rfl) rfl
theorem fo_59_1 : FldOff Tryd.prog 59 1 0 := .of Tryd.underlying59 rfl (by kernel_rfl) rfl
theorem fo_60_1 : FldOff Tryd.prog 60 1 0 := .of Tryd.underlying60 rfl (by kernel_rfl) rfl
theorem fo_61_0 : FldOff Tryd.prog 61 0 0 := .of Tryd.underlying61 rfl (by kernel_rfl) rfl
theorem fo_61_1 : FldOff Tryd.prog 61 1 1 := .of Tryd.underlying61 rfl (by kernel_rfl) rfl
theorem fo_62_0 : FldOff Tryd.prog 62 0 0 := .of Tryd.underlying62 rfl (by kernel_rfl) rfl
theorem fo_62_1 : FldOff Tryd.prog 62 1 1 := .of Tryd.underlying62 rfl (by kernel_rfl) rfl
theorem fo_63_1 : FldOff Tryd.prog 63 1 0 := .of Tryd.underlying63 rfl (by kernel_rfl) rfl
theorem fo_64_1 : FldOff Tryd.prog 64 1 0 := .of Tryd.underlying64 rfl (by kernel_rfl) rfl
theorem fo_65_1 : FldOff Tryd.prog 65 1 0 := .of Tryd.underlying65 rfl (by kernel_rfl) rfl
theorem fo_65_2 : FldOff Tryd.prog 65 2 1 := .of Tryd.underlying65 rfl (by kernel_rfl) rfl
theorem fo_66_1 : FldOff Tryd.prog 66 1 0 := .of Tryd.underlying66 rfl (by kernel_rfl) rfl
theorem fo_66_2 : FldOff Tryd.prog 66 2 1 := .of Tryd.underlying66 rfl (by kernel_rfl) rfl
theorem fo_68_0 : FldOff Tryd.prog 68 0 0 := .of Tryd.underlying68 rfl (by kernel_rfl) rfl
theorem fo_68_1 : FldOff Tryd.prog 68 1 3 := .of Tryd.underlying68 rfl (by kernel_rfl) rfl
theorem fo_69_0 : FldOff Tryd.prog 69 0 0 := .of Tryd.underlying69 rfl (by kernel_rfl) rfl
theorem fo_69_1 : FldOff Tryd.prog 69 1 3 := .of Tryd.underlying69 rfl (by kernel_rfl) rfl
theorem fo_79_0 : FldOff Tryd.prog 79 0 0 := .of Tryd.underlying79 rfl (by kernel_rfl) rfl
theorem fo_79_1 : FldOff Tryd.prog 79 1 1 := .of Tryd.underlying79 rfl (by kernel_rfl) rfl
theorem fo_79_2 : FldOff Tryd.prog 79 2 2 := .of Tryd.underlying79 rfl (by kernel_rfl) rfl
theorem fo_79_3 : FldOff Tryd.prog 79 3 3 := .of Tryd.underlying79 rfl (by kernel_rfl) rfl
theorem fo_80_0 : FldOff Tryd.prog 80 0 0 := .of Tryd.underlying80 rfl (by kernel_rfl) rfl
theorem fo_80_1 : FldOff Tryd.prog 80 1 1 := .of Tryd.underlying80 rfl (by kernel_rfl) rfl
theorem fo_80_2 : FldOff Tryd.prog 80 2 2 := .of Tryd.underlying80 rfl (by kernel_rfl) rfl
theorem fo_80_3 : FldOff Tryd.prog 80 3 3 := .of Tryd.underlying80 rfl (by kernel_rfl) rfl
theorem fo_85_0 : FldOff Tryd.prog 85 0 0 := .of Tryd.underlying85 rfl (by kernel_rfl) rfl
theorem fo_85_1 : FldOff Tryd.prog 85 1 1 := .of Tryd.underlying85 rfl (by kernel_rfl) rfl
theorem fo_86_0 : FldOff Tryd.prog 86 0 0 := .of Tryd.underlying86 rfl (by kernel_rfl) rfl
theorem fo_86_1 : FldOff Tryd.prog 86 1 1 := .of Tryd.underlying86 rfl (by kernel_rfl) rfl
theorem fo_121_0 : FldOff Tryd.prog 121 0 0 := .of Tryd.underlying121 rfl (by kernel_rfl) rfl
theorem fo_121_1 : FldOff Tryd.prog 121 1 1 := .of Tryd.underlying121 rfl (by kernel_rfl) rfl
theorem fo_122_0 : FldOff Tryd.prog 122 0 0 := .of Tryd.underlying122 rfl (by kernel_rfl) rfl
theorem fo_122_1 : FldOff Tryd.prog 122 1 1 := .of Tryd.underlying122 rfl (by kernel_rfl) rfl
theorem fo_130_0 : FldOff Tryd.prog 130 0 0 := .of Tryd.underlying130 rfl (by kernel_rfl) rfl
theorem fo_130_1 : FldOff Tryd.prog 130 1 1 := .of Tryd.underlying130 rfl (by kernel_rfl) rfl
theorem fo_130_2 : FldOff Tryd.prog 130 2 2 := .of Tryd.underlying130 rfl (by kernel_rfl) rfl
theorem fo_130_3 : FldOff Tryd.prog 130 3 3 := .of Tryd.underlying130 rfl (by kernel_rfl) rfl
theorem fo_131_0 : FldOff Tryd.prog 131 0 0 := .of Tryd.underlying131 rfl (by kernel_rfl) rfl
theorem fo_131_1 : FldOff Tryd.prog 131 1 1 := .of Tryd.underlying131 rfl (by kernel_rfl) rfl
theorem fo_131_2 : FldOff Tryd.prog 131 2 2 := .of Tryd.underlying131 rfl (by kernel_rfl) rfl
theorem fo_131_3 : FldOff Tryd.prog 131 3 3 := .of Tryd.underlying131 rfl (by kernel_rfl) rfl
theorem fo_140_0 : FldOff Tryd.prog 140 0 0 := .of Tryd.underlying140 rfl (by kernel_rfl) rfl
theorem fo_140_1 : FldOff Tryd.prog 140 1 1 := .of Tryd.underlying140 rfl (by kernel_rfl) rfl
theorem fo_140_2 : FldOff Tryd.prog 140 2 2 := .of Tryd.underlying140 rfl (by kernel_rfl) rfl
theorem fo_140_3 : FldOff Tryd.prog 140 3 3 := .of Tryd.underlying140 rfl (by kernel_rfl) rfl
theorem fo_140_4 : FldOff Tryd.prog 140 4 4 := .of Tryd.underlying140 rfl (by kernel_rfl) rfl
theorem fo_140_5 : FldOff Tryd.prog 140 5 5 := .of Tryd.underlying140 rfl (by kernel_rfl) rfl
theorem fo_140_6 : FldOff Tryd.prog 140 6 6 := .of Tryd.underlying140 rfl (by kernel_rfl) rfl
theorem fo_140_7 : FldOff Tryd.prog 140 7 7 := .of Tryd.underlying140 rfl (by kernel_rfl) rfl
theorem fo_140_8 : FldOff Tryd.prog 140 8 8 := .of Tryd.underlying140 rfl (by kernel_rfl) rfl
theorem fo_140_9 : FldOff Tryd.prog 140 9 9 := .of Tryd.underlying140 rfl (by kernel_rfl) rfl
theorem fo_140_10 : FldOff Tryd.prog 140 10 10 := .of Tryd.underlying140 rfl (by kernel_rfl) rfl
theorem fo_141_0 : FldOff Tryd.prog 141 0 0 := .of Tryd.underlying141 rfl (by kernel_rfl) rfl
theorem fo_141_1 : FldOff Tryd.prog 141 1 1 := .of Tryd.underlying141 rfl (by kernel_rfl) rfl
theorem fo_141_2 : FldOff Tryd.prog 141 2 2 := .of Tryd.underlying141 rfl (by kernel_rfl) rfl
theorem fo_141_3 : FldOff Tryd.prog 141 3 3 := .of Tryd.underlying141 rfl (by kernel_rfl) rfl
theorem fo_141_4 : FldOff Tryd.prog 141 4 4 := .of Tryd.underlying141 rfl (by kernel_rfl) rfl
theorem fo_141_5 : FldOff Tryd.prog 141 5 5 := .of Tryd.underlying141 rfl (by kernel_rfl) rfl
theorem fo_141_6 : FldOff Tryd.prog 141 6 6 := .of Tryd.underlying141 rfl (by kernel_rfl) rfl
theorem fo_141_7 : FldOff Tryd.prog 141 7 7 := .of Tryd.underlying141 rfl (by kernel_rfl) rfl
theorem fo_141_8 : FldOff Tryd.prog 141 8 8 := .of Tryd.underlying141 rfl (by kernel_rfl) rfl
theorem fo_141_9 : FldOff Tryd.prog 141 9 9 := .of Tryd.underlying141 rfl (by kernel_rfl) rfl
theorem fo_141_10 : FldOff Tryd.prog 141 10 10 := .of Tryd.underlying141 rfl (by kernel_rfl) rfl
theorem inf_5 : (Tryd.prog.info? 5).map (fun i => (i.zero, i.size, i.bytes)) = some (some (Value.int .u8 0), 1, 1) := by kernel_rfl
theorem inf_5_i : Tryd.prog.info? 5 = some ((Tryd.prog.info? 5).getD default) := (info_of inf_5).1
theorem inf_5_z : ((Tryd.prog.info? 5).getD default).zero = some (Value.int .u8 0) := (info_of inf_5).2.1
theorem inf_5_s : ((Tryd.prog.info? 5).getD default).size = 1 := (info_of inf_5).2.2.1
theorem inf_5_b : ((Tryd.prog.info? 5).getD default).bytes = 1 := (info_of inf_5).2.2.2
theorem inf_9 : (Tryd.prog.info? 9).map (fun i => (i.zero, i.size, i.bytes)) = some (some (Value.string ⟨#[]⟩), 1, 16) := by kernel_rfl
theorem inf_9_i : Tryd.prog.info? 9 = some ((Tryd.prog.info? 9).getD default) := (info_of inf_9).1
theorem inf_9_z : ((Tryd.prog.info? 9).getD default).zero = some (Value.string ⟨#[]⟩) := (info_of inf_9).2.1
theorem inf_9_s : ((Tryd.prog.info? 9).getD default).size = 1 := (info_of inf_9).2.2.1
theorem inf_9_b : ((Tryd.prog.info? 9).getD default).bytes = 16 := (info_of inf_9).2.2.2
theorem inf_26 : (Tryd.prog.info? 26).map (fun i => (i.zero, i.size, i.bytes)) = some (some (Value.int .u16 0), 1, 2) := by kernel_rfl
theorem inf_26_i : Tryd.prog.info? 26 = some ((Tryd.prog.info? 26).getD default) := (info_of inf_26).1
theorem inf_26_z : ((Tryd.prog.info? 26).getD default).zero = some (Value.int .u16 0) := (info_of inf_26).2.1
theorem inf_26_s : ((Tryd.prog.info? 26).getD default).size = 1 := (info_of inf_26).2.2.1
theorem inf_26_b : ((Tryd.prog.info? 26).getD default).bytes = 2 := (info_of inf_26).2.2.2
theorem inf_48 : (Tryd.prog.info? 48).map (fun i => (i.zero, i.size, i.bytes)) = some (some (Value.agg #[Value.int .i64 0, Value.string ⟨#[]⟩]), 2, 24) := by kernel_rfl
theorem inf_48_i : Tryd.prog.info? 48 = some ((Tryd.prog.info? 48).getD default) := (info_of inf_48).1
theorem inf_48_z : ((Tryd.prog.info? 48).getD default).zero = some (Value.agg #[Value.int .i64 0, Value.string ⟨#[]⟩]) := (info_of inf_48).2.1
theorem inf_48_s : ((Tryd.prog.info? 48).getD default).size = 2 := (info_of inf_48).2.2.1
theorem inf_48_b : ((Tryd.prog.info? 48).getD default).bytes = 24 := (info_of inf_48).2.2.2
end Go.Proofs.YtlhohhhnnffhaaaDoor
