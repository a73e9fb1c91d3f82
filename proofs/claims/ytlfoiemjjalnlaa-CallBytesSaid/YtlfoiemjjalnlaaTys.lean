/- Sizes and zero values of the types that the walks name. Conditions: none. -/
import Derived.Test.YtlfoiemjjalnlaaRows
import Derived.Test.YtlfoiemjjalnlaaGl3
namespace Go.Proofs.Ytlfoiemjjalnlaa
open Go Go.RowKit
theorem sz_2 : (Try.prog.info? 2).map (·.size) = some 1 := by kernel_rfl
theorem sz_3 : (Try.prog.info? 3).map (·.size) = some 1 := by kernel_rfl
theorem sz_4 : (Try.prog.info? 4).map (·.size) = some 1 := by kernel_rfl
theorem sz_5 : (Try.prog.info? 5).map (·.size) = some 1 := by kernel_rfl
theorem sz_6 : (Try.prog.info? 6).map (·.size) = some 1 := by kernel_rfl
theorem sz_7 : (Try.prog.info? 7).map (·.size) = some 4 := by kernel_rfl
theorem sz_8 : (Try.prog.info? 8).map (·.size) = some 4 := by kernel_rfl
theorem sz_9 : (Try.prog.info? 9).map (·.size) = some 1 := by kernel_rfl
theorem sz_10 : (Try.prog.info? 10).map (·.size) = some 1 := by kernel_rfl
theorem sz_11 : (Try.prog.info? 11).map (·.size) = some 1 := by kernel_rfl
theorem sz_12 : (Try.prog.info? 12).map (·.size) = some 1 := by kernel_rfl
theorem sz_13 : (Try.prog.info? 13).map (·.size) = some 2 := by kernel_rfl
theorem sz_14 : (Try.prog.info? 14).map (·.size) = some 2 := by kernel_rfl
theorem sz_15 : (Try.prog.info? 15).map (·.size) = some 1 := by kernel_rfl
theorem sz_16 : (Try.prog.info? 16).map (·.size) = some 1 := by kernel_rfl
theorem sz_17 : (Try.prog.info? 17).map (·.size) = some 1 := by kernel_rfl
theorem sz_18 : (Try.prog.info? 18).map (·.size) = some 1 := by kernel_rfl
theorem sz_19 : (Try.prog.info? 19).map (·.size) = some 1 := by kernel_rfl
theorem sz_20 : (Try.prog.info? 20).map (·.size) = some 1 := by kernel_rfl
theorem sz_21 : (Try.prog.info? 21).map (·.size) = some 1 := by kernel_rfl
theorem sz_22 : (Try.prog.info? 22).map (·.size) = some 1 := by kernel_rfl
theorem sz_24 : (Try.prog.info? 24).map (·.size) = some 1 := by kernel_rfl
theorem sz_26 : (Try.prog.info? 26).map (·.size) = some 1 := by kernel_rfl
theorem sz_27 : (Try.prog.info? 27).map (·.size) = some 1 := by kernel_rfl
theorem sz_28 : (Try.prog.info? 28).map (·.size) = some 1 := by kernel_rfl
theorem sz_29 : (Try.prog.info? 29).map (·.size) = some 1 := by kernel_rfl
theorem sz_30 : (Try.prog.info? 30).map (·.size) = some 2 := by kernel_rfl
theorem sz_31 : (Try.prog.info? 31).map (·.size) = some 2 := by kernel_rfl
theorem sz_32 : (Try.prog.info? 32).map (·.size) = some 7 := by kernel_rfl
theorem sz_33 : (Try.prog.info? 33).map (·.size) = some 7 := by kernel_rfl
theorem sz_36 : (Try.prog.info? 36).map (·.size) = some 3 := by kernel_rfl
theorem sz_37 : (Try.prog.info? 37).map (·.size) = some 3 := by kernel_rfl
theorem sz_43 : (Try.prog.info? 43).map (·.size) = some 1 := by kernel_rfl
theorem sz_45 : (Try.prog.info? 45).map (·.size) = some 1 := by kernel_rfl
theorem sz_47 : (Try.prog.info? 47).map (·.size) = some 3 := by kernel_rfl
theorem sz_48 : (Try.prog.info? 48).map (·.size) = some 3 := by kernel_rfl
theorem sz_49 : (Try.prog.info? 49).map (·.size) = some 1 := by kernel_rfl
theorem sz_52 : (Try.prog.info? 52).map (·.size) = some 6 := by kernel_rfl
theorem sz_53 : (Try.prog.info? 53).map (·.size) = some 9 := by kernel_rfl
theorem sz_54 : (Try.prog.info? 54).map (·.size) = some 9 := by kernel_rfl
theorem sz_60 : (Try.prog.info? 60).map (·.size) = some 1 := by kernel_rfl
theorem sz_61 : (Try.prog.info? 61).map (·.size) = some 1 := by kernel_rfl
theorem sz_63 : (Try.prog.info? 63).map (·.size) = some 0 := by kernel_rfl
theorem sz_64 : (Try.prog.info? 64).map (·.size) = some 0 := by kernel_rfl
theorem sz_65 : (Try.prog.info? 65).map (·.size) = some 0 := by kernel_rfl
theorem sz_66 : (Try.prog.info? 66).map (·.size) = some 1 := by kernel_rfl
theorem sz_67 : (Try.prog.info? 67).map (·.size) = some 1 := by kernel_rfl
theorem sz_68 : (Try.prog.info? 68).map (·.size) = some 2 := by kernel_rfl
theorem sz_69 : (Try.prog.info? 69).map (·.size) = some 2 := by kernel_rfl
theorem sz_70 : (Try.prog.info? 70).map (·.size) = some 2 := by kernel_rfl
theorem sz_71 : (Try.prog.info? 71).map (·.size) = some 2 := by kernel_rfl
theorem sz_72 : (Try.prog.info? 72).map (·.size) = some 3 := by kernel_rfl
theorem sz_73 : (Try.prog.info? 73).map (·.size) = some 3 := by kernel_rfl
theorem sz_74 : (Try.prog.info? 74).map (·.size) = some 1 := by kernel_rfl
theorem sz_75 : (Try.prog.info? 75).map (·.size) = some 1 := by kernel_rfl
theorem sz_76 : (Try.prog.info? 76).map (·.size) = some 0 := by kernel_rfl
theorem sz_77 : (Try.prog.info? 77).map (·.size) = some 1 := by kernel_rfl
theorem sz_78 : (Try.prog.info? 78).map (·.size) = some 1 := by kernel_rfl
theorem sz_79 : (Try.prog.info? 79).map (·.size) = some 7 := by kernel_rfl
theorem sz_80 : (Try.prog.info? 80).map (·.size) = some 7 := by kernel_rfl
theorem sz_85 : (Try.prog.info? 85).map (·.size) = some 1 := by kernel_rfl
theorem sz_90 : (Try.prog.info? 90).map (·.size) = some 1 := by kernel_rfl
theorem sz_91 : (Try.prog.info? 91).map (·.size) = some 2 := by kernel_rfl
theorem sz_97 : (Try.prog.info? 97).map (·.size) = some 1 := by kernel_rfl
theorem sz_98 : (Try.prog.info? 98).map (·.size) = some 1 := by kernel_rfl
theorem sz_100 : (Try.prog.info? 100).map (·.size) = some 1 := by kernel_rfl
theorem sz_102 : (Try.prog.info? 102).map (·.size) = some 1 := by kernel_rfl
theorem sz_111 : (Try.prog.info? 111).map (·.size) = some 1 := by kernel_rfl
theorem sz_113 : (Try.prog.info? 113).map (·.size) = some 1 := by kernel_rfl
theorem sz_115 : (Try.prog.info? 115).map (·.size) = some 1 := by kernel_rfl
theorem sz_119 : (Try.prog.info? 119).map (·.size) = some 1 := by kernel_rfl
theorem sz_121 : (Try.prog.info? 121).map (·.size) = some 1 := by kernel_rfl
theorem sz_124 : (Try.prog.info? 124).map (·.size) = some 1 := by kernel_rfl
theorem sz_127 : (Try.prog.info? 127).map (·.size) = some 1 := by kernel_rfl
theorem sz_129 : (Try.prog.info? 129).map (·.size) = some 1 := by kernel_rfl
theorem sz_131 : (Try.prog.info? 131).map (·.size) = some 1 := by kernel_rfl
theorem sz_139 : (Try.prog.info? 139).map (·.size) = some 4 := by kernel_rfl
theorem sz_140 : (Try.prog.info? 140).map (·.size) = some 4 := by kernel_rfl
theorem sz_141 : (Try.prog.info? 141).map (·.size) = some 0 := by kernel_rfl
theorem sz_142 : (Try.prog.info? 142).map (·.size) = some 0 := by kernel_rfl
theorem sz_143 : (Try.prog.info? 143).map (·.size) = some 0 := by kernel_rfl
theorem sz_145 : (Try.prog.info? 145).map (·.size) = some 1 := by kernel_rfl
theorem sz_146 : (Try.prog.info? 146).map (·.size) = some 1 := by kernel_rfl
theorem sz_148 : (Try.prog.info? 148).map (·.size) = some 1 := by kernel_rfl
theorem sz_149 : (Try.prog.info? 149).map (·.size) = some 1 := by kernel_rfl
theorem sz_150 : (Try.prog.info? 150).map (·.size) = some 1 := by kernel_rfl
theorem sz_151 : (Try.prog.info? 151).map (·.size) = some 11 := by kernel_rfl
theorem sz_152 : (Try.prog.info? 152).map (·.size) = some 11 := by kernel_rfl
theorem fo_7_0 : FldOff Try.prog 7 0 0 := .of Try.underlying7 rfl (by kernel_rfl) rfl
theorem fo_7_1 : FldOff Try.prog 7 1 1 := .of Try.underlying7 rfl (by kernel_rfl) rfl
theorem fo_7_2 : FldOff Try.prog 7 2 2 := .of Try.underlying7 rfl (by kernel_rfl) rfl
theorem fo_7_3 : FldOff Try.prog 7 3 3 := .of Try.underlying7 rfl (by kernel_rfl) rfl
theorem fo_8_0 : FldOff Try.prog 8 0 0 := .of Try.underlying8 rfl (by kernel_rfl) rfl
theorem fo_8_1 : FldOff Try.prog 8 1 1 := .of Try.underlying8 rfl (by kernel_rfl) rfl
theorem fo_8_2 : FldOff Try.prog 8 2 2 := .of Try.underlying8 rfl (by kernel_rfl) rfl
theorem fo_8_3 : FldOff Try.prog 8 3 3 := .of Try.underlying8 rfl (by kernel_rfl) rfl
theorem fo_13_0 : FldOff Try.prog 13 0 0 := .of Try.underlying13 rfl (by kernel_rfl) rfl
theorem fo_13_1 : FldOff Try.prog 13 1 1 := .of Try.underlying13 rfl (by kernel_rfl) rfl
theorem fo_14_0 : FldOff Try.prog 14 0 0 := .of Try.underlying14 rfl (by kernel_rfl) rfl
theorem fo_14_1 : FldOff Try.prog 14 1 1 := .of Try.underlying14 rfl (by kernel_rfl) rfl
theorem fo_18_0 : FldOff Try.prog 18 0 0 := .of Try.underlying18 rfl (by kernel_rfl) rfl
theorem fo_19_0 : FldOff Try.prog 19 0 0 := .of Try.underlying19 rfl (by kernel_rfl) rfl
theorem fo_32_0 : FldOff Try.prog 32 0 0 := .of Try.underlying32 rfl (by kernel_rfl) rfl
theorem fo_32_1 : FldOff Try.prog 32 1 1 := .of Try.underlying32 rfl (by kernel_rfl) rfl
theorem fo_32_2 : FldOff Try.prog 32 2 2 := .of Try.underlying32 rfl (by kernel_rfl) rfl
theorem fo_32_3 : FldOff Try.prog 32 3 3 := .of Try.underlying32 rfl (by kernel_rfl) rfl
theorem fo_32_4 : FldOff Try.prog 32 4 5 := .of Try.underlying32 rfl (by kernel_rfl) rfl
theorem fo_33_0 : FldOff Try.prog 33 0 0 := .of Try.underlying33 rfl (by kernel_rfl) rfl
theorem fo_33_1 : FldOff Try.prog 33 1 1 := .of Try.underlying33 rfl (by kernel_rfl) rfl
theorem fo_33_2 : FldOff Try.prog 33 2 2 := .of Try.underlying33 rfl (by kernel_rfl) rfl
theorem fo_33_3 : FldOff Try.prog 33 3 3 := .of Try.underlying33 rfl (by kernel_rfl) rfl
theorem fo_33_4 : FldOff Try.prog 33 4 5 := .of Try.underlying33 rfl (by kernel_rfl) rfl
theorem fo_36_0 : FldOff Try.prog 36 0 0 := .of Try.underlying36 rfl (by kernel_rfl) rfl
theorem fo_36_1 : FldOff Try.prog 36 1 1 := .of Try.underlying36 rfl (by kernel_rfl) rfl
theorem fo_36_2 : FldOff Try.prog 36 2 2 := .of Try.underlying36 rfl (by kernel_rfl) rfl
theorem fo_37_0 : FldOff Try.prog 37 0 0 := .of Try.underlying37 rfl (by kernel_rfl) rfl
theorem fo_37_1 : FldOff Try.prog 37 1 1 := .of Try.underlying37 rfl (by kernel_rfl) rfl
theorem fo_37_2 : FldOff Try.prog 37 2 2 := .of Try.underlying37 rfl (by kernel_rfl) rfl
theorem fo_47_0 : FldOff Try.prog 47 0 0 := .of Try.underlying47 rfl (by kernel_rfl) rfl
theorem fo_47_1 : FldOff Try.prog 47 1 1 := .of Try.underlying47 rfl (by kernel_rfl) rfl
theorem fo_47_2 : FldOff Try.prog 47 2 2 := .of Try.underlying47 rfl (by kernel_rfl) rfl
theorem fo_48_0 : FldOff Try.prog 48 0 0 := .of Try.underlying48 rfl (by kernel_rfl) rfl
theorem fo_48_1 : FldOff Try.prog 48 1 1 := .of Try.underlying48 rfl (by kernel_rfl) rfl
theorem fo_48_2 : FldOff Try.prog 48 2 2 := .of Try.underlying48 rfl (by kernel_rfl) rfl
theorem fo_53_0 : FldOff Try.prog 53 0 0 := .of Try.underlying53 rfl (by kernel_rfl) rfl
theorem fo_53_1 : FldOff Try.prog 53 1 1 := .of Try.underlying53 rfl (by kernel_rfl) rfl
theorem fo_53_2 : FldOff Try.prog 53 2 2 := .of Try.underlying53 rfl (by kernel_rfl) rfl
theorem fo_53_3 : FldOff Try.prog 53 3 3 := .of Try.underlying53 rfl (by kernel_rfl) rfl
theorem fo_54_0 : FldOff Try.prog 54 0 0 := .of Try.underlying54 rfl (by kernel_rfl) rfl
theorem fo_54_1 : FldOff Try.prog 54 1 1 := .of Try.underlying54 rfl (by kernel_rfl) rfl
theorem fo_54_2 : FldOff Try.prog 54 2 2 := .of Try.underlying54 rfl (by kernel_rfl) rfl
theorem fo_54_3 : FldOff Try.prog 54 3 3 := .of Try.underlying54 rfl (by kernel_rfl) rfl
theorem fo_66_1 : FldOff Try.prog 66 1 0 := .of Try.underlying66 rfl (by kernel_rfl) rfl
theorem fo_67_1 : FldOff Try.prog 67 1 0 := .of Try.underlying67 rfl (by kernel_rfl) rfl
theorem fo_68_0 : FldOff Try.prog 68 0 0 := .of Try.underlying68 rfl (by kernel_rfl) rfl
theorem fo_68_1 : FldOff Try.prog 68 1 1 := .of Try.underlying68 rfl (by kernel_rfl) rfl
theorem fo_69_0 : FldOff Try.prog 69 0 0 := .of Try.underlying69 rfl (by kernel_rfl) rfl
theorem fo_69_1 : FldOff Try.prog 69 1 1 := .of Try.underlying69 rfl (by kernel_rfl) rfl
theorem fo_70_1 : FldOff Try.prog 70 1 0 := .of Try.underlying70 rfl (by kernel_rfl) rfl
theorem fo_71_1 : FldOff Try.prog 71 1 0 := .of Try.underlying71 rfl (by kernel_rfl) rfl
theorem fo_72_1 : FldOff Try.prog 72 1 0 := .of Try.underlying72 rfl (by kernel_rfl) rfl
theorem fo_72_2 : FldOff Try.prog 72 2 1 := .of Try.underlying72 rfl (by kernel_rfl) rfl
theorem fo_73_1 : FldOff Try.prog 73 1 0 := .of Try.underlying73 rfl (by kernel_rfl) rfl
theorem fo_73_2 : FldOff Try.prog 73 2 1 := .of Try.underlying73 rfl (by kernel_rfl) rfl
theorem fo_77_2 : FldOff Try.prog 77 2 0 := .of Try.underlying77 rfl (by kernel_rfl) rfl
theorem fo_78_2 : FldOff Try.prog 78 2 0 := .of Try.underlying78 rfl (by kernel_rfl) rfl
theorem fo_79_0 : FldOff Try.prog 79 0 0 := .of Try.underlying79 rfl (by kernel_rfl) rfl
theorem fo_79_1 : FldOff Try.prog 79 1 3 := .of Try.underlying79 rfl (by kernel_rfl) rfl
theorem fo_79_2 : FldOff Try.prog 79 2 4 := .of Try.underlying79 rfl (by kernel_rfl) rfl
theorem fo_79_3 : FldOff Try.prog 79 3 5 := .of Try.underlying79 rfl (by kernel_rfl) rfl
theorem fo_79_4 : FldOff Try.prog 79 4 6 := .of Try.underlying79 rfl (by kernel_rfl) rfl
theorem fo_80_0 : FldOff Try.prog 80 0 0 := .of Try.underlying80 rfl (by kernel_rfl) rfl
theorem fo_80_1 : FldOff Try.prog 80 1 3 := .of Try.underlying80 rfl (by kernel_rfl) rfl
theorem fo_80_2 : FldOff Try.prog 80 2 4 := .of Try.underlying80 rfl (by kernel_rfl) rfl
theorem fo_80_3 : FldOff Try.prog 80 3 5 := .of Try.underlying80 rfl (by kernel_rfl) rfl
theorem fo_80_4 : FldOff Try.prog 80 4 6 := .of Try.underlying80 rfl (by kernel_rfl) rfl
theorem fo_139_0 : FldOff Try.prog 139 0 0 := .of Try.underlying139 rfl (by kernel_rfl) rfl
theorem fo_139_1 : FldOff Try.prog 139 1 1 := .of Try.underlying139 rfl (by kernel_rfl) rfl
theorem fo_139_2 : FldOff Try.prog 139 2 2 := .of Try.underlying139 rfl (by kernel_rfl) rfl
theorem fo_139_3 : FldOff Try.prog 139 3 3 := .of Try.underlying139 rfl (by kernel_rfl) rfl
theorem fo_140_0 : FldOff Try.prog 140 0 0 := .of Try.underlying140 rfl (by kernel_rfl) rfl
theorem fo_140_1 : FldOff Try.prog 140 1 1 := .of Try.underlying140 rfl (by kernel_rfl) rfl
theorem fo_140_2 : FldOff Try.prog 140 2 2 := .of Try.underlying140 rfl (by kernel_rfl) rfl
theorem fo_140_3 : FldOff Try.prog 140 3 3 := .of Try.underlying140 rfl (by kernel_rfl) rfl
theorem fo_151_0 : FldOff Try.prog 151 0 0 := .of Try.underlying151 rfl (by kernel_rfl) rfl
theorem fo_151_1 : FldOff Try.prog 151 1 1 := .of Try.underlying151 rfl (by kernel_rfl) rfl
theorem fo_151_2 : FldOff Try.prog 151 2 2 := .of Try.underlying151 rfl (by kernel_rfl) rfl
theorem fo_151_3 : FldOff Try.prog 151 3 3 := .of Try.underlying151 rfl (by kernel_rfl) rfl
theorem fo_151_4 : FldOff Try.prog 151 4 4 := .of Try.underlying151 rfl (by kernel_rfl) rfl
theorem fo_151_5 : FldOff Try.prog 151 5 5 := .of Try.underlying151 rfl (by kernel_rfl) rfl
theorem fo_151_6 : FldOff Try.prog 151 6 6 := .of Try.underlying151 rfl (by kernel_rfl) rfl
theorem fo_151_7 : FldOff Try.prog 151 7 7 := .of Try.underlying151 rfl (by kernel_rfl) rfl
theorem fo_151_8 : FldOff Try.prog 151 8 8 := .of Try.underlying151 rfl (by kernel_rfl) rfl
theorem fo_151_9 : FldOff Try.prog 151 9 9 := .of Try.underlying151 rfl (by kernel_rfl) rfl
theorem fo_151_10 : FldOff Try.prog 151 10 10 := .of Try.underlying151 rfl (by kernel_rfl) rfl
theorem fo_152_0 : FldOff Try.prog 152 0 0 := .of Try.underlying152 rfl (by kernel_rfl) rfl
theorem fo_152_1 : FldOff Try.prog 152 1 1 := .of Try.underlying152 rfl (by kernel_rfl) rfl
theorem fo_152_2 : FldOff Try.prog 152 2 2 := .of Try.underlying152 rfl (by kernel_rfl) rfl
theorem fo_152_3 : FldOff Try.prog 152 3 3 := .of Try.underlying152 rfl (by kernel_rfl) rfl
theorem fo_152_4 : FldOff Try.prog 152 4 4 := .of Try.underlying152 rfl (by kernel_rfl) rfl
theorem fo_152_5 : FldOff Try.prog 152 5 5 := .of Try.underlying152 rfl (by kernel_rfl) rfl
theorem fo_152_6 : FldOff Try.prog 152 6 6 := .of Try.underlying152 rfl (by kernel_rfl) rfl
theorem fo_152_7 : FldOff Try.prog 152 7 7 := .of Try.underlying152 rfl (by kernel_rfl) rfl
theorem fo_152_8 : FldOff Try.prog 152 8 8 := .of Try.underlying152 rfl (by kernel_rfl) rfl
theorem fo_152_9 : FldOff Try.prog 152 9 9 := .of Try.underlying152 rfl (by kernel_rfl) rfl
theorem fo_152_10 : FldOff Try.prog 152 10 10 := .of Try.underlying152 rfl (by kernel_rfl) rfl
theorem inf_3 : (Try.prog.info? 3).map (fun i => (i.zero, i.size, i.bytes)) = some (some (Value.int .i64 0), 1, 8) := by kernel_rfl
theorem inf_3_i : Try.prog.info? 3 = some ((Try.prog.info? 3).getD default) := (info_of inf_3).1
theorem inf_3_z : ((Try.prog.info? 3).getD default).zero = some (Value.int .i64 0) := (info_of inf_3).2.1
theorem inf_3_s : ((Try.prog.info? 3).getD default).size = 1 := (info_of inf_3).2.2.1
theorem inf_3_b : ((Try.prog.info? 3).getD default).bytes = 8 := (info_of inf_3).2.2.2
theorem inf_5 : (Try.prog.info? 5).map (fun i => (i.zero, i.size, i.bytes)) = some (some (Value.int .u8 0), 1, 1) := by kernel_rfl
theorem inf_5_i : Try.prog.info? 5 = some ((Try.prog.info? 5).getD default) := (info_of inf_5).1
theorem inf_5_z : ((Try.prog.info? 5).getD default).zero = some (Value.int .u8 0) := (info_of inf_5).2.1
theorem inf_5_s : ((Try.prog.info? 5).getD default).size = 1 := (info_of inf_5).2.2.1
theorem inf_5_b : ((Try.prog.info? 5).getD default).bytes = 1 := (info_of inf_5).2.2.2
theorem inf_22 : (Try.prog.info? 22).map (fun i => (i.zero, i.size, i.bytes)) = some (some (Value.slice none 0 0), 1, 24) := by kernel_rfl
theorem inf_22_i : Try.prog.info? 22 = some ((Try.prog.info? 22).getD default) := (info_of inf_22).1
theorem inf_22_z : ((Try.prog.info? 22).getD default).zero = some (Value.slice none 0 0) := (info_of inf_22).2.1
theorem inf_22_s : ((Try.prog.info? 22).getD default).size = 1 := (info_of inf_22).2.2.1
theorem inf_22_b : ((Try.prog.info? 22).getD default).bytes = 24 := (info_of inf_22).2.2.2
theorem inf_33 : (Try.prog.info? 33).map (fun i => (i.zero, i.size, i.bytes)) = some (some (Value.agg #[Value.int .u8 0, Value.bool false, Value.int .u32 0, Value.int .u64 0, Value.int .u64 0, Value.string ⟨#[]⟩, Value.string ⟨#[]⟩]), 7, 56) := by kernel_rfl
theorem inf_33_i : Try.prog.info? 33 = some ((Try.prog.info? 33).getD default) := (info_of inf_33).1
theorem inf_33_z : ((Try.prog.info? 33).getD default).zero = some (Value.agg #[Value.int .u8 0, Value.bool false, Value.int .u32 0, Value.int .u64 0, Value.int .u64 0, Value.string ⟨#[]⟩, Value.string ⟨#[]⟩]) := (info_of inf_33).2.1
theorem inf_33_s : ((Try.prog.info? 33).getD default).size = 7 := (info_of inf_33).2.2.1
theorem inf_33_b : ((Try.prog.info? 33).getD default).bytes = 56 := (info_of inf_33).2.2.2
theorem inf_37 : (Try.prog.info? 37).map (fun i => (i.zero, i.size, i.bytes)) = some (some (Value.agg #[Value.int .i64 0, Value.string ⟨#[]⟩, Value.int .i64 0]), 3, 32) := by kernel_rfl
theorem inf_37_i : Try.prog.info? 37 = some ((Try.prog.info? 37).getD default) := (info_of inf_37).1
theorem inf_37_z : ((Try.prog.info? 37).getD default).zero = some (Value.agg #[Value.int .i64 0, Value.string ⟨#[]⟩, Value.int .i64 0]) := (info_of inf_37).2.1
theorem inf_37_s : ((Try.prog.info? 37).getD default).size = 3 := (info_of inf_37).2.2.1
theorem inf_37_b : ((Try.prog.info? 37).getD default).bytes = 32 := (info_of inf_37).2.2.2
theorem inf_48 : (Try.prog.info? 48).map (fun i => (i.zero, i.size, i.bytes)) = some (some (Value.agg #[Value.int .u32 0, Value.string ⟨#[]⟩, Value.int .i64 0]), 3, 32) := by kernel_rfl
theorem inf_48_i : Try.prog.info? 48 = some ((Try.prog.info? 48).getD default) := (info_of inf_48).1
theorem inf_48_z : ((Try.prog.info? 48).getD default).zero = some (Value.agg #[Value.int .u32 0, Value.string ⟨#[]⟩, Value.int .i64 0]) := (info_of inf_48).2.1
theorem inf_48_s : ((Try.prog.info? 48).getD default).size = 3 := (info_of inf_48).2.2.1
theorem inf_48_b : ((Try.prog.info? 48).getD default).bytes = 32 := (info_of inf_48).2.2.2
end Go.Proofs.Ytlfoiemjjalnlaa
