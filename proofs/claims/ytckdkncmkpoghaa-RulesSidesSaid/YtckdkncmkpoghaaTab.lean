/- Facts on the functions and types of this cut, by stable names; each is checked by reckoning. -/
import Derived.Test.YtckdkncmkpoghaaProg
import Derived.Test.YtckdkncmkpoghaaSl
set_option linter.unusedVariables false
set_option linter.defProp false
namespace Go.Proofs.K
open Go.Sl
noncomputable abbrev P : Program := Try.prog
theorem mixed : P.follows .mixedOrders = true := by kernel_rfl
abbrev n_law10_WireBytes : Nat := 3
theorem fn_law10_WireBytes : P.funcs[3]? = some Try.f3 := Try.func3
theorem nt_law10_WireBytes : Try.f3.ntmps = 72 := Try.ntmps3
theorem go_law10_WireBytes : isGo P 3 = true := by kernel_rfl
abbrev n_law10_WireReads : Nat := 4
theorem fn_law10_WireReads : P.funcs[4]? = some Try.f4 := Try.func4
theorem nt_law10_WireReads : Try.f4.ntmps = 107 := Try.ntmps4
theorem go_law10_WireReads : isGo P 4 = true := by kernel_rfl
abbrev n_law10_WireBounds : Nat := 5
theorem fn_law10_WireBounds : P.funcs[5]? = some Try.f5 := Try.func5
theorem nt_law10_WireBounds : Try.f5.ntmps = 126 := Try.ntmps5
theorem go_law10_WireBounds : isGo P 5 = true := by kernel_rfl
abbrev n_law10_WireApart : Nat := 6
theorem fn_law10_WireApart : P.funcs[6]? = some Try.f6 := Try.func6
theorem nt_law10_WireApart : Try.f6.ntmps = 69 := Try.ntmps6
theorem go_law10_WireApart : isGo P 6 = true := by kernel_rfl
abbrev n_law11_RulesRaw : Nat := 7
theorem fn_law11_RulesRaw : P.funcs[7]? = some Try.f7 := Try.func7
theorem nt_law11_RulesRaw : Try.f7.ntmps = 26 := Try.ntmps7
theorem go_law11_RulesRaw : isGo P 7 = true := by kernel_rfl
abbrev n_law11_RulesNear : Nat := 8
theorem fn_law11_RulesNear : P.funcs[8]? = some Try.f8 := Try.func8
theorem nt_law11_RulesNear : Try.f8.ntmps = 146 := Try.ntmps8
theorem go_law11_RulesNear : isGo P 8 = true := by kernel_rfl
abbrev n_law11_RulesOne : Nat := 9
theorem fn_law11_RulesOne : P.funcs[9]? = some Try.f9 := Try.func9
theorem nt_law11_RulesOne : Try.f9.ntmps = 71 := Try.ntmps9
theorem go_law11_RulesOne : isGo P 9 = true := by kernel_rfl
abbrev n_law11_RulesDeep : Nat := 10
theorem fn_law11_RulesDeep : P.funcs[10]? = some Try.f10 := Try.func10
theorem nt_law11_RulesDeep : Try.f10.ntmps = 45 := Try.ntmps10
theorem go_law11_RulesDeep : isGo P 10 = true := by kernel_rfl
abbrev n_law11_RulesBeside : Nat := 11
theorem fn_law11_RulesBeside : P.funcs[11]? = some Try.f11 := Try.func11
theorem nt_law11_RulesBeside : Try.f11.ntmps = 54 := Try.ntmps11
theorem go_law11_RulesBeside : isGo P 11 = true := by kernel_rfl
abbrev n_law11_RulesSides : Nat := 12
theorem fn_law11_RulesSides : P.funcs[12]? = some Try.f12 := Try.func12
theorem nt_law11_RulesSides : Try.f12.ntmps = 73 := Try.ntmps12
theorem go_law11_RulesSides : isGo P 12 = true := by kernel_rfl
abbrev n_law10_awake : Nat := 13
theorem fn_law10_awake : P.funcs[13]? = some Try.f13 := Try.func13
theorem nt_law10_awake : Try.f13.ntmps = 14 := Try.ntmps13
theorem go_law10_awake : isGo P 13 = true := by kernel_rfl
abbrev n_ref09_Make : Nat := 14
theorem fn_ref09_Make : P.funcs[14]? = some Try.f14 := Try.func14
theorem nt_ref09_Make : Try.f14.ntmps = 105 := Try.ntmps14
theorem go_ref09_Make : isGo P 14 = true := by kernel_rfl
abbrev n_wire_Encode : Nat := 15
theorem fn_wire_Encode : P.funcs[15]? = some Try.f15 := Try.func15
theorem nt_wire_Encode : Try.f15.ntmps = 66 := Try.ntmps15
theorem go_wire_Encode : isGo P 15 = true := by kernel_rfl
abbrev n_wire_Right : Nat := 16
theorem fn_wire_Right : P.funcs[16]? = some Try.f16 := Try.func16
theorem nt_wire_Right : Try.f16.ntmps = 70 := Try.ntmps16
theorem go_wire_Right : isGo P 16 = true := by kernel_rfl
abbrev n_ref09_Right : Nat := 17
theorem fn_ref09_Right : P.funcs[17]? = some Try.f17 := Try.func17
theorem nt_ref09_Right : Try.f17.ntmps = 76 := Try.ntmps17
theorem go_ref09_Right : isGo P 17 = true := by kernel_rfl
abbrev n_wire_Decode : Nat := 18
theorem fn_wire_Decode : P.funcs[18]? = some Try.f18 := Try.func18
theorem nt_wire_Decode : Try.f18.ntmps = 65 := Try.ntmps18
theorem go_wire_Decode : isGo P 18 = true := by kernel_rfl
abbrev n_ref09_Bytes : Nat := 19
theorem fn_ref09_Bytes : P.funcs[19]? = some Try.f19 := Try.func19
theorem nt_ref09_Bytes : Try.f19.ntmps = 75 := Try.ntmps19
theorem go_ref09_Bytes : isGo P 19 = true := by kernel_rfl
abbrev n_ref09_Same : Nat := 20
theorem fn_ref09_Same : P.funcs[20]? = some Try.f20 := Try.func20
theorem nt_ref09_Same : Try.f20.ntmps = 26 := Try.ntmps20
theorem go_ref09_Same : isGo P 20 = true := by kernel_rfl
abbrev n_ref01_Num : Nat := 21
theorem fn_ref01_Num : P.funcs[21]? = some Try.f21 := Try.func21
theorem nt_ref01_Num : Try.f21.ntmps = 20 := Try.ntmps21
theorem go_ref01_Num : isGo P 21 = true := by kernel_rfl
abbrev n_law11_awake : Nat := 22
theorem fn_law11_awake : P.funcs[22]? = some Try.f22 := Try.func22
theorem nt_law11_awake : Try.f22.ntmps = 20 := Try.ntmps22
theorem go_law11_awake : isGo P 22 = true := by kernel_rfl
abbrev n_rules_Check : Nat := 23
theorem fn_rules_Check : P.funcs[23]? = some Try.f23 := Try.func23
theorem nt_rules_Check : Try.f23.ntmps = 36 := Try.ntmps23
theorem go_rules_Check : isGo P 23 = true := by kernel_rfl
abbrev n_ref09_Check : Nat := 24
theorem fn_ref09_Check : P.funcs[24]? = some Try.f24 := Try.func24
theorem nt_ref09_Check : Try.f24.ntmps = 32 := Try.ntmps24
theorem go_ref09_Check : isGo P 24 = true := by kernel_rfl
abbrev n_ref09_Put : Nat := 25
theorem fn_ref09_Put : P.funcs[25]? = some Try.f25 := Try.func25
theorem nt_ref09_Put : Try.f25.ntmps = 52 := Try.ntmps25
theorem go_ref09_Put : isGo P 25 = true := by kernel_rfl
abbrev n_ref09_Drop : Nat := 26
theorem fn_ref09_Drop : P.funcs[26]? = some Try.f26 := Try.func26
theorem nt_ref09_Drop : Try.f26.ntmps = 28 := Try.ntmps26
theorem go_ref09_Drop : isGo P 26 = true := by kernel_rfl
abbrev n_ref09_Find : Nat := 27
theorem fn_ref09_Find : P.funcs[27]? = some Try.f27 := Try.func27
theorem nt_ref09_Find : Try.f27.ntmps = 20 := Try.ntmps27
theorem go_ref09_Find : isGo P 27 = true := by kernel_rfl
abbrev n_ref09_text : Nat := 28
theorem fn_ref09_text : P.funcs[28]? = some Try.f28 := Try.func28
theorem nt_ref09_text : Try.f28.ntmps = 16 := Try.ntmps28
theorem go_ref09_text : isGo P 28 = true := by kernel_rfl
abbrev n_ref09_named : Nat := 29
theorem fn_ref09_named : P.funcs[29]? = some Try.f29 := Try.func29
theorem nt_ref09_named : Try.f29.ntmps = 11 := Try.ntmps29
theorem go_ref09_named : isGo P 29 = true := by kernel_rfl
abbrev n_digit_Pen_Raw : Nat := 30
theorem fn_digit_Pen_Raw : P.funcs[30]? = some Try.f30 := Try.func30
theorem nt_digit_Pen_Raw : Try.f30.ntmps = 15 := Try.ntmps30
theorem go_digit_Pen_Raw : isGo P 30 = true := by kernel_rfl
abbrev n_digit_Pen_Num : Nat := 31
theorem fn_digit_Pen_Num : P.funcs[31]? = some Try.f31 := Try.func31
theorem nt_digit_Pen_Num : Try.f31.ntmps = 37 := Try.ntmps31
theorem go_digit_Pen_Num : isGo P 31 = true := by kernel_rfl
abbrev n_digit_Pen_Text : Nat := 32
theorem fn_digit_Pen_Text : P.funcs[32]? = some Try.f32 := Try.func32
theorem nt_digit_Pen_Text : Try.f32.ntmps = 19 := Try.ntmps32
theorem go_digit_Pen_Text : isGo P 32 = true := by kernel_rfl
abbrev n_chart_Rising : Nat := 33
theorem fn_chart_Rising : P.funcs[33]? = some Try.f33 := Try.func33
theorem nt_chart_Rising : Try.f33.ntmps = 22 := Try.ntmps33
theorem go_chart_Rising : isGo P 33 = true := by kernel_rfl
abbrev n_ref09_Rising : Nat := 34
theorem fn_ref09_Rising : P.funcs[34]? = some Try.f34 := Try.func34
theorem nt_ref09_Rising : Try.f34.ntmps = 22 := Try.ntmps34
theorem go_ref09_Rising : isGo P 34 = true := by kernel_rfl
abbrev n_digit_NewEye : Nat := 35
theorem fn_digit_NewEye : P.funcs[35]? = some Try.f35 := Try.func35
theorem nt_digit_NewEye : Try.f35.ntmps = 7 := Try.ntmps35
theorem go_digit_NewEye : isGo P 35 = true := by kernel_rfl
abbrev n_digit_Eye_Raw : Nat := 36
theorem fn_digit_Eye_Raw : P.funcs[36]? = some Try.f36 := Try.func36
theorem nt_digit_Eye_Raw : Try.f36.ntmps = 45 := Try.ntmps36
theorem go_digit_Eye_Raw : isGo P 36 = true := by kernel_rfl
abbrev n_digit_Eye_Num : Nat := 37
theorem fn_digit_Eye_Num : P.funcs[37]? = some Try.f37 := Try.func37
theorem nt_digit_Eye_Num : Try.f37.ntmps = 71 := Try.ntmps37
theorem go_digit_Eye_Num : isGo P 37 = true := by kernel_rfl
abbrev n_digit_Eye_Text : Nat := 38
theorem fn_digit_Eye_Text : P.funcs[38]? = some Try.f38 := Try.func38
theorem nt_digit_Eye_Text : Try.f38.ntmps = 13 := Try.ntmps38
theorem go_digit_Eye_Text : isGo P 38 = true := by kernel_rfl
abbrev n_digit_Eye_Fault : Nat := 39
theorem fn_digit_Eye_Fault : P.funcs[39]? = some Try.f39 := Try.func39
theorem nt_digit_Eye_Fault : Try.f39.ntmps = 9 := Try.ntmps39
theorem go_digit_Eye_Fault : isGo P 39 = true := by kernel_rfl
abbrev n_digit_Eye_End : Nat := 40
theorem fn_digit_Eye_End : P.funcs[40]? = some Try.f40 := Try.func40
theorem nt_digit_Eye_End : Try.f40.ntmps = 13 := Try.ntmps40
theorem go_digit_Eye_End : isGo P 40 = true := by kernel_rfl
abbrev n_ref01_Text : Nat := 41
theorem fn_ref01_Text : P.funcs[41]? = some Try.f41 := Try.func41
theorem nt_ref01_Text : Try.f41.ntmps = 8 := Try.ntmps41
theorem go_ref01_Text : isGo P 41 = true := by kernel_rfl
abbrev n_rules_kinds : Nat := 42
theorem fn_rules_kinds : P.funcs[42]? = some Try.f42 := Try.func42
theorem nt_rules_kinds : Try.f42.ntmps = 55 := Try.ntmps42
theorem go_rules_kinds : isGo P 42 = true := by kernel_rfl
abbrev n_rules_names : Nat := 43
theorem fn_rules_names : P.funcs[43]? = some Try.f43 := Try.func43
theorem nt_rules_names : Try.f43.ntmps = 43 := Try.ntmps43
theorem go_rules_names : isGo P 43 = true := by kernel_rfl
abbrev n_rules_parents : Nat := 44
theorem fn_rules_parents : P.funcs[44]? = some Try.f44 := Try.func44
theorem nt_rules_parents : Try.f44.ntmps = 37 := Try.ntmps44
theorem go_rules_parents : isGo P 44 = true := by kernel_rfl
abbrev n_rules_rings : Nat := 45
theorem fn_rules_rings : P.funcs[45]? = some Try.f45 := Try.func45
theorem nt_rules_rings : Try.f45.ntmps = 29 := Try.ntmps45
theorem go_rules_rings : isGo P 45 = true := by kernel_rfl
abbrev n_rules_ends : Nat := 46
theorem fn_rules_ends : P.funcs[46]? = some Try.f46 := Try.func46
theorem nt_rules_ends : Try.f46.ntmps = 47 := Try.ntmps46
theorem go_rules_ends : isGo P 46 = true := by kernel_rfl
abbrev n_rules_orders : Nat := 47
theorem fn_rules_orders : P.funcs[47]? = some Try.f47 := Try.func47
theorem nt_rules_orders : Try.f47.ntmps = 41 := Try.ntmps47
theorem go_rules_orders : isGo P 47 = true := by kernel_rfl
abbrev n_rules_mixed : Nat := 48
theorem fn_rules_mixed : P.funcs[48]? = some Try.f48 := Try.func48
theorem nt_rules_mixed : Try.f48.ntmps = 43 := Try.ntmps48
theorem go_rules_mixed : isGo P 48 = true := by kernel_rfl
abbrev n_ref09_breaks : Nat := 49
theorem fn_ref09_breaks : P.funcs[49]? = some Try.f49 := Try.func49
theorem nt_ref09_breaks : Try.f49.ntmps = 303 := Try.ntmps49
theorem go_ref09_breaks : isGo P 49 = true := by kernel_rfl
abbrev n_digit_Eye_fail : Nat := 50
theorem fn_digit_Eye_fail : P.funcs[50]? = some Try.f50 := Try.func50
theorem nt_digit_Eye_fail : Try.f50.ntmps = 16 := Try.ntmps50
theorem go_digit_Eye_fail : isGo P 50 = true := by kernel_rfl
abbrev n_digit_Eye_Left : Nat := 51
theorem fn_digit_Eye_Left : P.funcs[51]? = some Try.f51 := Try.func51
theorem nt_digit_Eye_Left : Try.f51.ntmps = 10 := Try.ntmps51
theorem go_digit_Eye_Left : isGo P 51 = true := by kernel_rfl
abbrev n_rules_named : Nat := 52
theorem fn_rules_named : P.funcs[52]? = some Try.f52 := Try.func52
theorem nt_rules_named : Try.f52.ntmps = 11 := Try.ntmps52
theorem go_rules_named : isGo P 52 = true := by kernel_rfl
abbrev n_chart_Find : Nat := 53
theorem fn_chart_Find : P.funcs[53]? = some Try.f53 := Try.func53
theorem nt_chart_Find : Try.f53.ntmps = 21 := Try.ntmps53
theorem go_chart_Find : isGo P 53 = true := by kernel_rfl
abbrev n_chart_Children : Nat := 54
theorem fn_chart_Children : P.funcs[54]? = some Try.f54 := Try.func54
theorem nt_chart_Children : Try.f54.ntmps = 25 := Try.ntmps54
theorem go_chart_Children : isGo P 54 = true := by kernel_rfl
abbrev n_ref09_kind : Nat := 55
theorem fn_ref09_kind : P.funcs[55]? = some Try.f55 := Try.func55
theorem nt_ref09_kind : Try.f55.ntmps = 16 := Try.ntmps55
theorem go_ref09_kind : isGo P 55 = true := by kernel_rfl
abbrev n_chart_place : Nat := 56
theorem fn_chart_place : P.funcs[56]? = some Try.f56 := Try.func56
theorem nt_chart_place : Try.f56.ntmps = 11 := Try.ntmps56
theorem go_chart_place : isGo P 56 = true := by kernel_rfl
abbrev n_slices_BinarySearchFunc_api_Chart_api_Elem_int : Nat := 57
theorem fn_slices_BinarySearchFunc_api_Chart_api_Elem_int : P.funcs[57]? = some Try.f57 := Try.func57
theorem nt_slices_BinarySearchFunc_api_Chart_api_Elem_int : Try.f57.ntmps = 49 := Try.ntmps57
theorem go_slices_BinarySearchFunc_api_Chart_api_Elem_int : isGo P 57 = true := by kernel_rfl
abbrev n_chart_place_1 : Nat := 58
theorem fn_chart_place_1 : P.funcs[58]? = some Try.f58 := Try.func58
theorem nt_chart_place_1 : Try.f58.ntmps = 9 := Try.ntmps58
theorem go_chart_place_1 : isGo P 58 = true := by kernel_rfl
abbrev n_cmp_Compare_int : Nat := 59
theorem fn_cmp_Compare_int : P.funcs[59]? = some Try.f59 := Try.func59
theorem nt_cmp_Compare_int : Try.f59.ntmps = 20 := Try.ntmps59
theorem go_cmp_Compare_int : isGo P 59 = true := by kernel_rfl
abbrev n_cmp_isNaN_int : Nat := 60
theorem fn_cmp_isNaN_int : P.funcs[60]? = some Try.f60 := Try.func60
theorem nt_cmp_isNaN_int : Try.f60.ntmps = 6 := Try.ntmps60
theorem go_cmp_isNaN_int : isGo P 60 = true := by kernel_rfl
def u_int64 := Try.underlying2
abbrev t_int64 : Nat := 2
theorem sz_int64 : tsz P 2 = some (1, 8) := by kernel_rfl
theorem z_int64 : tzero P 2 = some (.int .i64 0) := by kernel_rfl
def u_int := Try.underlying3
abbrev t_int : Nat := 3
theorem sz_int : tsz P 3 = some (1, 8) := by kernel_rfl
theorem z_int : tzero P 3 = some (.int .i64 0) := by kernel_rfl
def u_bool := Try.underlying4
abbrev t_bool : Nat := 4
theorem sz_bool : tsz P 4 = some (1, 1) := by kernel_rfl
theorem z_bool : tzero P 4 = some (.bool false) := by kernel_rfl
def u_uint8 := Try.underlying5
abbrev t_uint8 : Nat := 5
theorem sz_uint8 : tsz P 5 = some (1, 1) := by kernel_rfl
theorem z_uint8 : tzero P 5 = some (.int .u8 0) := by kernel_rfl
def u_string := Try.underlying9
abbrev t_string : Nat := 9
theorem sz_string : tsz P 9 = some (1, 16) := by kernel_rfl
theorem z_string : tzero P 9 = some (.string ⟨#[]⟩) := by kernel_rfl
def u_uintptr := Try.underlying12
abbrev t_uintptr : Nat := 12
theorem sz_uintptr : tsz P 12 = some (1, 8) := by kernel_rfl
theorem z_uintptr : tzero P 12 = some (.int .u64 0) := by kernel_rfl
def u_st13 := Try.underlying13
abbrev t_st13 : Nat := 13
theorem sz_st13 : tsz P 13 = some (2, 24) := by kernel_rfl
theorem z_st13 : tzero P 13 = some (.agg #[.string ⟨#[]⟩, .int .u64 0]) := by kernel_rfl
def u_interface := Try.underlying20
abbrev t_interface : Nat := 20
theorem sz_interface : tsz P 20 = some (1, 16) := by kernel_rfl
theorem z_interface : tzero P 20 = some (.nilIface) := by kernel_rfl
def u_int32 := Try.underlying21
abbrev t_int32 : Nat := 21
theorem sz_int32 : tsz P 21 = some (1, 4) := by kernel_rfl
theorem z_int32 : tzero P 21 = some (.int .i32 0) := by kernel_rfl
def u_S_api_Elem := Try.underlying22
abbrev t_S_api_Elem : Nat := 22
theorem sz_S_api_Elem : tsz P 22 = some (1, 24) := by kernel_rfl
theorem z_S_api_Elem : tzero P 22 = some (.slice none 0 0) := by kernel_rfl
def u_api_Chart := Try.underlying23
abbrev t_api_Chart : Nat := 23
theorem sz_api_Chart : tsz P 23 = some (1, 24) := by kernel_rfl
theorem z_api_Chart : tzero P 23 = some (.slice none 0 0) := by kernel_rfl
def u_S_interleafref09_Act := Try.underlying24
abbrev t_S_interleafref09_Act : Nat := 24
theorem sz_S_interleafref09_Act : tsz P 24 = some (1, 24) := by kernel_rfl
theorem z_S_interleafref09_Act : tzero P 24 = some (.slice none 0 0) := by kernel_rfl
def u_S_uint8 := Try.underlying27
abbrev t_S_uint8 : Nat := 27
theorem sz_S_uint8 : tsz P 27 = some (1, 24) := by kernel_rfl
theorem z_S_uint8 : tzero P 27 = some (.slice none 0 0) := by kernel_rfl
def u_api_Errno := Try.underlying28
abbrev t_api_Errno : Nat := 28
theorem sz_api_Errno : tsz P 28 = some (1, 8) := by kernel_rfl
theorem z_api_Errno : tzero P 28 = some (.int .i64 0) := by kernel_rfl
def u_uint16 := Try.underlying37
abbrev t_uint16 : Nat := 37
theorem sz_uint16 : tsz P 37 = some (1, 2) := by kernel_rfl
theorem z_uint16 : tzero P 37 = some (.int .u16 0) := by kernel_rfl
def u_S_S_uint8 := Try.underlying38
abbrev t_S_S_uint8 : Nat := 38
theorem sz_S_S_uint8 : tsz P 38 = some (1, 24) := by kernel_rfl
theorem z_S_S_uint8 : tzero P 38 = some (.slice none 0 0) := by kernel_rfl
def u_st40 := Try.underlying40
abbrev t_st40 : Nat := 40
theorem sz_st40 : tsz P 40 = some (10, 112) := by kernel_rfl
theorem z_st40 : tzero P 40 = some (.agg #[.int .i64 0, .int .u8 0, .int .i64 0, .int .i64 0, .string ⟨#[]⟩, .int .i64 0, .int .i64 0, .string ⟨#[]⟩, .string ⟨#[]⟩, .string ⟨#[]⟩]) := by kernel_rfl
def u_api_Elem := Try.underlying41
abbrev t_api_Elem : Nat := 41
theorem sz_api_Elem : tsz P 41 = some (10, 112) := by kernel_rfl
theorem pl_api_Elem : fplaces P 41 = some [(0, 1), (1, 1), (2, 1), (3, 1), (4, 1), (5, 1), (6, 1), (7, 1), (8, 1), (9, 1)] := by kernel_rfl
theorem z_api_Elem : tzero P 41 = some (.agg #[.int .i64 0, .int .u8 0, .int .i64 0, .int .i64 0, .string ⟨#[]⟩, .int .i64 0, .int .i64 0, .string ⟨#[]⟩, .string ⟨#[]⟩, .string ⟨#[]⟩]) := by kernel_rfl
def u_uint := Try.underlying44
abbrev t_uint : Nat := 44
theorem sz_uint : tsz P 44 = some (1, 8) := by kernel_rfl
theorem z_uint : tzero P 44 = some (.int .u64 0) := by kernel_rfl
def u_st46 := Try.underlying46
abbrev t_st46 : Nat := 46
theorem sz_st46 : tsz P 46 = some (2, 16) := by kernel_rfl
theorem z_st46 : tzero P 46 = some (.agg #[.int .i64 0, .int .i64 0]) := by kernel_rfl
def u_api_Fault := Try.underlying47
abbrev t_api_Fault : Nat := 47
theorem sz_api_Fault : tsz P 47 = some (2, 16) := by kernel_rfl
theorem pl_api_Fault : fplaces P 47 = some [(0, 1), (1, 1)] := by kernel_rfl
theorem z_api_Fault : tzero P 47 = some (.agg #[.int .i64 0, .int .i64 0]) := by kernel_rfl
def u_st51 := Try.underlying51
abbrev t_st51 : Nat := 51
theorem sz_st51 : tsz P 51 = some (2, 24) := by kernel_rfl
theorem z_st51 : tzero P 51 = some (.agg #[.int .i64 0, .string ⟨#[]⟩]) := by kernel_rfl
def u_api_Val := Try.underlying52
abbrev t_api_Val : Nat := 52
theorem sz_api_Val : tsz P 52 = some (2, 24) := by kernel_rfl
theorem pl_api_Val : fplaces P 52 = some [(0, 1), (1, 1)] := by kernel_rfl
theorem z_api_Val : tzero P 52 = some (.agg #[.int .i64 0, .string ⟨#[]⟩]) := by kernel_rfl
def u_st59 := Try.underlying59
abbrev t_st59 : Nat := 59
theorem sz_st59 : tsz P 59 = some (4, 4) := by kernel_rfl
theorem z_st59 : tzero P 59 = some (.agg #[.int .u8 0, .int .u8 0, .int .u8 0, .int .u8 0]) := by kernel_rfl
def u_interleafref09_Act := Try.underlying60
abbrev t_interleafref09_Act : Nat := 60
theorem sz_interleafref09_Act : tsz P 60 = some (4, 4) := by kernel_rfl
theorem pl_interleafref09_Act : fplaces P 60 = some [(0, 1), (1, 1), (2, 1), (3, 1)] := by kernel_rfl
theorem z_interleafref09_Act : tzero P 60 = some (.agg #[.int .u8 0, .int .u8 0, .int .u8 0, .int .u8 0]) := by kernel_rfl
def u_p_digit_Pen := Try.underlying64
abbrev t_p_digit_Pen : Nat := 64
theorem sz_p_digit_Pen : tsz P 64 = some (1, 8) := by kernel_rfl
theorem z_p_digit_Pen : tzero P 64 = some (.pointer none) := by kernel_rfl
def u_st65 := Try.underlying65
abbrev t_st65 : Nat := 65
theorem sz_st65 : tsz P 65 = some (1, 24) := by kernel_rfl
theorem z_st65 : tzero P 65 = some (.agg #[.slice none 0 0]) := by kernel_rfl
def u_digit_Pen := Try.underlying66
abbrev t_digit_Pen : Nat := 66
theorem sz_digit_Pen : tsz P 66 = some (1, 24) := by kernel_rfl
theorem pl_digit_Pen : fplaces P 66 = some [(0, 1)] := by kernel_rfl
theorem z_digit_Pen : tzero P 66 = some (.agg #[.slice none 0 0]) := by kernel_rfl
def u_S_int := Try.underlying70
abbrev t_S_int : Nat := 70
theorem sz_S_int : tsz P 70 = some (1, 24) := by kernel_rfl
theorem z_S_int : tzero P 70 = some (.slice none 0 0) := by kernel_rfl
def u_S_string := Try.underlying71
abbrev t_S_string : Nat := 71
theorem sz_S_string : tsz P 71 = some (1, 24) := by kernel_rfl
theorem z_S_string : tzero P 71 = some (.slice none 0 0) := by kernel_rfl
def u_p_digit_Eye := Try.underlying72
abbrev t_p_digit_Eye : Nat := 72
theorem sz_p_digit_Eye : tsz P 72 = some (1, 8) := by kernel_rfl
theorem z_p_digit_Eye : tzero P 72 = some (.pointer none) := by kernel_rfl
def u_S_func_api_Chart_api_Elem_bool := Try.underlying78
abbrev t_S_func_api_Chart_api_Elem_bool : Nat := 78
theorem sz_S_func_api_Chart_api_Elem_bool : tsz P 78 = some (1, 24) := by kernel_rfl
theorem z_S_func_api_Chart_api_Elem_bool : tzero P 78 = some (.slice none 0 0) := by kernel_rfl
def u_uint64 := Try.underlying80
abbrev t_uint64 : Nat := 80
theorem sz_uint64 : tsz P 80 = some (1, 8) := by kernel_rfl
theorem z_uint64 : tzero P 80 = some (.int .u64 0) := by kernel_rfl
def u_st81 := Try.underlying81
abbrev t_st81 : Nat := 81
theorem sz_st81 : tsz P 81 = some (2, 32) := by kernel_rfl
theorem z_st81 : tzero P 81 = some (.agg #[.slice none 0 0, .int .i64 0]) := by kernel_rfl
def u_digit_Eye := Try.underlying82
abbrev t_digit_Eye : Nat := 82
theorem sz_digit_Eye : tsz P 82 = some (2, 32) := by kernel_rfl
theorem pl_digit_Eye : fplaces P 82 = some [(0, 1), (1, 1)] := by kernel_rfl
theorem z_digit_Eye : tzero P 82 = some (.agg #[.slice none 0 0, .int .i64 0]) := by kernel_rfl
def u_uint32 := Try.underlying101
abbrev t_uint32 : Nat := 101
theorem sz_uint32 : tsz P 101 = some (1, 4) := by kernel_rfl
theorem z_uint32 : tzero P 101 = some (.int .u32 0) := by kernel_rfl
def u_p_uint8 := Try.underlying105
abbrev t_p_uint8 : Nat := 105
theorem sz_p_uint8 : tsz P 105 = some (1, 8) := by kernel_rfl
theorem z_p_uint8 : tzero P 105 = some (.pointer none) := by kernel_rfl
end Go.Proofs.K
