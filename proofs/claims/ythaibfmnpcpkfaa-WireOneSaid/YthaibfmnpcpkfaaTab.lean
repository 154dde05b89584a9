/- Facts on the functions and types of this cut, by stable names; each is checked by reckoning. -/
import Derived.Test.YthaibfmnpcpkfaaProg
import Derived.Test.YthaibfmnpcpkfaaSl
set_option linter.unusedVariables false
set_option linter.defProp false
namespace Go.Proofs.K
open Go.Sl
noncomputable abbrev P : Program := Try.prog
theorem mixed : P.follows .mixedOrders = true := by kernel_rfl
abbrev n_law01_DigitSizes : Nat := 3
theorem fn_law01_DigitSizes : P.funcs[3]? = some Try.f3 := Try.func3
theorem nt_law01_DigitSizes : Try.f3.ntmps = 63 := Try.ntmps3
theorem go_law01_DigitSizes : isGo P 3 = true := by kernel_rfl
abbrev n_law01_DigitRaws : Nat := 4
theorem fn_law01_DigitRaws : P.funcs[4]? = some Try.f4 := Try.func4
theorem nt_law01_DigitRaws : Try.f4.ntmps = 61 := Try.ntmps4
theorem go_law01_DigitRaws : isGo P 4 = true := by kernel_rfl
abbrev n_law01_DigitNums : Nat := 5
theorem fn_law01_DigitNums : P.funcs[5]? = some Try.f5 := Try.func5
theorem nt_law01_DigitNums : Try.f5.ntmps = 94 := Try.ntmps5
theorem go_law01_DigitNums : isGo P 5 = true := by kernel_rfl
abbrev n_law01_DigitCuts : Nat := 6
theorem fn_law01_DigitCuts : P.funcs[6]? = some Try.f6 := Try.func6
theorem nt_law01_DigitCuts : Try.f6.ntmps = 123 := Try.ntmps6
theorem go_law01_DigitCuts : isGo P 6 = true := by kernel_rfl
abbrev n_law01_DigitTexts : Nat := 7
theorem fn_law01_DigitTexts : P.funcs[7]? = some Try.f7 := Try.func7
theorem nt_law01_DigitTexts : Try.f7.ntmps = 116 := Try.ntmps7
theorem go_law01_DigitTexts : isGo P 7 = true := by kernel_rfl
abbrev n_law10_WireOne : Nat := 8
theorem fn_law10_WireOne : P.funcs[8]? = some Try.f8 := Try.func8
theorem nt_law10_WireOne : Try.f8.ntmps = 40 := Try.ntmps8
theorem go_law10_WireOne : isGo P 8 = true := by kernel_rfl
abbrev n_digit_Pen_Num : Nat := 9
theorem fn_digit_Pen_Num : P.funcs[9]? = some Try.f9 := Try.func9
theorem nt_digit_Pen_Num : Try.f9.ntmps = 37 := Try.ntmps9
theorem go_digit_Pen_Num : isGo P 9 = true := by kernel_rfl
abbrev n_law01_awake : Nat := 10
theorem fn_law01_awake : P.funcs[10]? = some Try.f10 := Try.func10
theorem nt_law01_awake : Try.f10.ntmps = 12 := Try.ntmps10
theorem go_law01_awake : isGo P 10 = true := by kernel_rfl
abbrev n_ref01_Num : Nat := 11
theorem fn_ref01_Num : P.funcs[11]? = some Try.f11 := Try.func11
theorem nt_ref01_Num : Try.f11.ntmps = 20 := Try.ntmps11
theorem go_ref01_Num : isGo P 11 = true := by kernel_rfl
abbrev n_digit_NewEye : Nat := 12
theorem fn_digit_NewEye : P.funcs[12]? = some Try.f12 := Try.func12
theorem nt_digit_NewEye : Try.f12.ntmps = 7 := Try.ntmps12
theorem go_digit_NewEye : isGo P 12 = true := by kernel_rfl
abbrev n_digit_Eye_Raw : Nat := 13
theorem fn_digit_Eye_Raw : P.funcs[13]? = some Try.f13 := Try.func13
theorem nt_digit_Eye_Raw : Try.f13.ntmps = 45 := Try.ntmps13
theorem go_digit_Eye_Raw : isGo P 13 = true := by kernel_rfl
abbrev n_digit_Eye_Fault : Nat := 14
theorem fn_digit_Eye_Fault : P.funcs[14]? = some Try.f14 := Try.func14
theorem nt_digit_Eye_Fault : Try.f14.ntmps = 9 := Try.ntmps14
theorem go_digit_Eye_Fault : isGo P 14 = true := by kernel_rfl
abbrev n_digit_Eye_Left : Nat := 15
theorem fn_digit_Eye_Left : P.funcs[15]? = some Try.f15 := Try.func15
theorem nt_digit_Eye_Left : Try.f15.ntmps = 10 := Try.ntmps15
theorem go_digit_Eye_Left : isGo P 15 = true := by kernel_rfl
abbrev n_law01_num : Nat := 16
theorem fn_law01_num : P.funcs[16]? = some Try.f16 := Try.func16
theorem nt_law01_num : Try.f16.ntmps = 7 := Try.ntmps16
theorem go_law01_num : isGo P 16 = true := by kernel_rfl
abbrev n_digit_Eye_Num : Nat := 17
theorem fn_digit_Eye_Num : P.funcs[17]? = some Try.f17 := Try.func17
theorem nt_digit_Eye_Num : Try.f17.ntmps = 71 := Try.ntmps17
theorem go_digit_Eye_Num : isGo P 17 = true := by kernel_rfl
abbrev n_digit_Eye_End : Nat := 18
theorem fn_digit_Eye_End : P.funcs[18]? = some Try.f18 := Try.func18
theorem nt_digit_Eye_End : Try.f18.ntmps = 13 := Try.ntmps18
theorem go_digit_Eye_End : isGo P 18 = true := by kernel_rfl
abbrev n_digit_Eye_Fail : Nat := 19
theorem fn_digit_Eye_Fail : P.funcs[19]? = some Try.f19 := Try.func19
theorem nt_digit_Eye_Fail : Try.f19.ntmps = 9 := Try.ntmps19
theorem go_digit_Eye_Fail : isGo P 19 = true := by kernel_rfl
abbrev n_digit_Eye_Text : Nat := 20
theorem fn_digit_Eye_Text : P.funcs[20]? = some Try.f20 := Try.func20
theorem nt_digit_Eye_Text : Try.f20.ntmps = 13 := Try.ntmps20
theorem go_digit_Eye_Text : isGo P 20 = true := by kernel_rfl
abbrev n_digit_Pen_Text : Nat := 21
theorem fn_digit_Pen_Text : P.funcs[21]? = some Try.f21 := Try.func21
theorem nt_digit_Pen_Text : Try.f21.ntmps = 19 := Try.ntmps21
theorem go_digit_Pen_Text : isGo P 21 = true := by kernel_rfl
abbrev n_ref01_Text : Nat := 22
theorem fn_ref01_Text : P.funcs[22]? = some Try.f22 := Try.func22
theorem nt_ref01_Text : Try.f22.ntmps = 8 := Try.ntmps22
theorem go_ref01_Text : isGo P 22 = true := by kernel_rfl
abbrev n_digit_Pen_Raw : Nat := 23
theorem fn_digit_Pen_Raw : P.funcs[23]? = some Try.f23 := Try.func23
theorem nt_digit_Pen_Raw : Try.f23.ntmps = 15 := Try.ntmps23
theorem go_digit_Pen_Raw : isGo P 23 = true := by kernel_rfl
abbrev n_wire_Encode : Nat := 24
theorem fn_wire_Encode : P.funcs[24]? = some Try.f24 := Try.func24
theorem nt_wire_Encode : Try.f24.ntmps = 66 := Try.ntmps24
theorem go_wire_Encode : isGo P 24 = true := by kernel_rfl
abbrev n_law10_awake : Nat := 25
theorem fn_law10_awake : P.funcs[25]? = some Try.f25 := Try.func25
theorem nt_law10_awake : Try.f25.ntmps = 14 := Try.ntmps25
theorem go_law10_awake : isGo P 25 = true := by kernel_rfl
abbrev n_digit_Eye_fail : Nat := 26
theorem fn_digit_Eye_fail : P.funcs[26]? = some Try.f26 := Try.func26
theorem nt_digit_Eye_fail : Try.f26.ntmps = 16 := Try.ntmps26
theorem go_digit_Eye_fail : isGo P 26 = true := by kernel_rfl
abbrev n_wire_Right : Nat := 27
theorem fn_wire_Right : P.funcs[27]? = some Try.f27 := Try.func27
theorem nt_wire_Right : Try.f27.ntmps = 70 := Try.ntmps27
theorem go_wire_Right : isGo P 27 = true := by kernel_rfl
abbrev n_chart_Rising : Nat := 28
theorem fn_chart_Rising : P.funcs[28]? = some Try.f28 := Try.func28
theorem nt_chart_Rising : Try.f28.ntmps = 22 := Try.ntmps28
theorem go_chart_Rising : isGo P 28 = true := by kernel_rfl
def u_int64 := Try.underlying2
abbrev t_int64 : Nat := 2
theorem sz_int64 : tsz P 2 = some (1, 8) := by kernel_rfl
theorem z_int64 : tzero P 2 = some (.int .i64 0) := by kernel_rfl
def u_int := Try.underlying3
abbrev t_int : Nat := 3
theorem sz_int : tsz P 3 = some (1, 8) := by kernel_rfl
theorem z_int : tzero P 3 = some (.int .i64 0) := by kernel_rfl
def u_bool := Try.underlying4
abbrev t_bool : Nat := 4
theorem sz_bool : tsz P 4 = some (1, 1) := by kernel_rfl
theorem z_bool : tzero P 4 = some (.bool false) := by kernel_rfl
def u_uint8 := Try.underlying5
abbrev t_uint8 : Nat := 5
theorem sz_uint8 : tsz P 5 = some (1, 1) := by kernel_rfl
theorem z_uint8 : tzero P 5 = some (.int .u8 0) := by kernel_rfl
def u_string := Try.underlying9
abbrev t_string : Nat := 9
theorem sz_string : tsz P 9 = some (1, 16) := by kernel_rfl
theorem z_string : tzero P 9 = some (.string ⟨#[]⟩) := by kernel_rfl
def u_uintptr := Try.underlying12
abbrev t_uintptr : Nat := 12
theorem sz_uintptr : tsz P 12 = some (1, 8) := by kernel_rfl
theorem z_uintptr : tzero P 12 = some (.int .u64 0) := by kernel_rfl
def u_st13 := Try.underlying13
abbrev t_st13 : Nat := 13
theorem sz_st13 : tsz P 13 = some (2, 24) := by kernel_rfl
theorem z_st13 : tzero P 13 = some (.agg #[.string ⟨#[]⟩, .int .u64 0]) := by kernel_rfl
def u_interface := Try.underlying20
abbrev t_interface : Nat := 20
theorem sz_interface : tsz P 20 = some (1, 16) := by kernel_rfl
theorem z_interface : tzero P 20 = some (.nilIface) := by kernel_rfl
def u_int32 := Try.underlying21
abbrev t_int32 : Nat := 21
theorem sz_int32 : tsz P 21 = some (1, 4) := by kernel_rfl
theorem z_int32 : tzero P 21 = some (.int .i32 0) := by kernel_rfl
def u_p_digit_Pen := Try.underlying22
abbrev t_p_digit_Pen : Nat := 22
theorem sz_p_digit_Pen : tsz P 22 = some (1, 8) := by kernel_rfl
theorem z_p_digit_Pen : tzero P 22 = some (.pointer none) := by kernel_rfl
def u_S_uint8 := Try.underlying23
abbrev t_S_uint8 : Nat := 23
theorem sz_S_uint8 : tsz P 23 = some (1, 24) := by kernel_rfl
theorem z_S_uint8 : tzero P 23 = some (.slice none 0 0) := by kernel_rfl
def u_st24 := Try.underlying24
abbrev t_st24 : Nat := 24
theorem sz_st24 : tsz P 24 = some (1, 24) := by kernel_rfl
theorem z_st24 : tzero P 24 = some (.agg #[.slice none 0 0]) := by kernel_rfl
def u_digit_Pen := Try.underlying25
abbrev t_digit_Pen : Nat := 25
theorem sz_digit_Pen : tsz P 25 = some (1, 24) := by kernel_rfl
theorem pl_digit_Pen : fplaces P 25 = some [(0, 1)] := by kernel_rfl
theorem z_digit_Pen : tzero P 25 = some (.agg #[.slice none 0 0]) := by kernel_rfl
def u_p_digit_Eye := Try.underlying30
abbrev t_p_digit_Eye : Nat := 30
theorem sz_p_digit_Eye : tsz P 30 = some (1, 8) := by kernel_rfl
theorem z_p_digit_Eye : tzero P 30 = some (.pointer none) := by kernel_rfl
def u_api_Errno := Try.underlying32
abbrev t_api_Errno : Nat := 32
theorem sz_api_Errno : tsz P 32 = some (1, 8) := by kernel_rfl
theorem z_api_Errno : tzero P 32 = some (.int .i64 0) := by kernel_rfl
def u_S_int := Try.underlying36
abbrev t_S_int : Nat := 36
theorem sz_S_int : tsz P 36 = some (1, 24) := by kernel_rfl
theorem z_S_int : tzero P 36 = some (.slice none 0 0) := by kernel_rfl
def u_int8 := Try.underlying39
abbrev t_int8 : Nat := 39
theorem sz_int8 : tsz P 39 = some (1, 1) := by kernel_rfl
theorem z_int8 : tzero P 39 = some (.int .i8 0) := by kernel_rfl
def u_S_string := Try.underlying43
abbrev t_S_string : Nat := 43
theorem sz_S_string : tsz P 43 = some (1, 24) := by kernel_rfl
theorem z_S_string : tzero P 43 = some (.slice none 0 0) := by kernel_rfl
def u_uint16 := Try.underlying48
abbrev t_uint16 : Nat := 48
theorem sz_uint16 : tsz P 48 = some (1, 2) := by kernel_rfl
theorem z_uint16 : tzero P 48 = some (.int .u16 0) := by kernel_rfl
def u_st51 := Try.underlying51
abbrev t_st51 : Nat := 51
theorem sz_st51 : tsz P 51 = some (10, 112) := by kernel_rfl
theorem z_st51 : tzero P 51 = some (.agg #[.int .i64 0, .int .u8 0, .int .i64 0, .int .i64 0, .string ⟨#[]⟩, .int .i64 0, .int .i64 0, .string ⟨#[]⟩, .string ⟨#[]⟩, .string ⟨#[]⟩]) := by kernel_rfl
def u_api_Elem := Try.underlying52
abbrev t_api_Elem : Nat := 52
theorem sz_api_Elem : tsz P 52 = some (10, 112) := by kernel_rfl
theorem pl_api_Elem : fplaces P 52 = some [(0, 1), (1, 1), (2, 1), (3, 1), (4, 1), (5, 1), (6, 1), (7, 1), (8, 1), (9, 1)] := by kernel_rfl
theorem z_api_Elem : tzero P 52 = some (.agg #[.int .i64 0, .int .u8 0, .int .i64 0, .int .i64 0, .string ⟨#[]⟩, .int .i64 0, .int .i64 0, .string ⟨#[]⟩, .string ⟨#[]⟩, .string ⟨#[]⟩]) := by kernel_rfl
def u_S_api_Elem := Try.underlying53
abbrev t_S_api_Elem : Nat := 53
theorem sz_S_api_Elem : tsz P 53 = some (1, 24) := by kernel_rfl
theorem z_S_api_Elem : tzero P 53 = some (.slice none 0 0) := by kernel_rfl
def u_api_Chart := Try.underlying54
abbrev t_api_Chart : Nat := 54
theorem sz_api_Chart : tsz P 54 = some (1, 24) := by kernel_rfl
theorem z_api_Chart : tzero P 54 = some (.slice none 0 0) := by kernel_rfl
def u_uint64 := Try.underlying56
abbrev t_uint64 : Nat := 56
theorem sz_uint64 : tsz P 56 = some (1, 8) := by kernel_rfl
theorem z_uint64 : tzero P 56 = some (.int .u64 0) := by kernel_rfl
def u_uint := Try.underlying57
abbrev t_uint : Nat := 57
theorem sz_uint : tsz P 57 = some (1, 8) := by kernel_rfl
theorem z_uint : tzero P 57 = some (.int .u64 0) := by kernel_rfl
def u_st58 := Try.underlying58
abbrev t_st58 : Nat := 58
theorem sz_st58 : tsz P 58 = some (2, 32) := by kernel_rfl
theorem z_st58 : tzero P 58 = some (.agg #[.slice none 0 0, .int .i64 0]) := by kernel_rfl
def u_digit_Eye := Try.underlying59
abbrev t_digit_Eye : Nat := 59
theorem sz_digit_Eye : tsz P 59 = some (2, 32) := by kernel_rfl
theorem pl_digit_Eye : fplaces P 59 = some [(0, 1), (1, 1)] := by kernel_rfl
theorem z_digit_Eye : tzero P 59 = some (.agg #[.slice none 0 0, .int .i64 0]) := by kernel_rfl
def u_uint32 := Try.underlying67
abbrev t_uint32 : Nat := 67
theorem sz_uint32 : tsz P 67 = some (1, 4) := by kernel_rfl
theorem z_uint32 : tzero P 67 = some (.int .u32 0) := by kernel_rfl
def u_p_uint8 := Try.underlying71
abbrev t_p_uint8 : Nat := 71
theorem sz_p_uint8 : tsz P 71 = some (1, 8) := by kernel_rfl
theorem z_p_uint8 : tzero P 71 = some (.pointer none) := by kernel_rfl
end Go.Proofs.K
