/- Facts on the functions and types of this cut, by stable names; each is checked by reckoning. -/
import Derived.Test.YtooijcnjfhgboaaDoorProg
import Derived.Test.YtooijcnjfhgboaaDoorSl
set_option linter.unusedVariables false
set_option linter.defProp false
namespace Go.Proofs.K
open Go.Sl
noncomputable abbrev P : Program := Tryd.prog
theorem mixed : P.follows .mixedOrders = true := by kernel_rfl
abbrev n_law02_StampOf : Nat := 3
theorem fn_law02_StampOf : P.funcs[3]? = some Tryd.f3 := Tryd.func3
theorem nt_law02_StampOf : Tryd.f3.ntmps = 16 := Tryd.ntmps3
theorem go_law02_StampOf : isGo P 3 = true := by kernel_rfl
abbrev n_law02_StampSizes : Nat := 4
theorem fn_law02_StampSizes : P.funcs[4]? = some Tryd.f4 := Tryd.func4
theorem nt_law02_StampSizes : Tryd.f4.ntmps = 15 := Tryd.ntmps4
theorem go_law02_StampSizes : isGo P 4 = true := by kernel_rfl
abbrev n_law02_StampLess : Nat := 5
theorem fn_law02_StampLess : P.funcs[5]? = some Tryd.f5 := Tryd.func5
theorem nt_law02_StampLess : Tryd.f5.ntmps = 68 := Tryd.ntmps5
theorem go_law02_StampLess : isGo P 5 = true := by kernel_rfl
abbrev n_law02_StampRows : Nat := 6
theorem fn_law02_StampRows : P.funcs[6]? = some Tryd.f6 := Tryd.func6
theorem nt_law02_StampRows : Tryd.f6.ntmps = 61 := Tryd.ntmps6
theorem go_law02_StampRows : isGo P 6 = true := by kernel_rfl
abbrev n_law02_StampTexts : Nat := 7
theorem fn_law02_StampTexts : P.funcs[7]? = some Tryd.f7 := Tryd.func7
theorem nt_law02_StampTexts : Tryd.f7.ntmps = 56 := Tryd.ntmps7
theorem go_law02_StampTexts : isGo P 7 = true := by kernel_rfl
abbrev n_law02_StampReads : Nat := 8
theorem fn_law02_StampReads : P.funcs[8]? = some Tryd.f8 := Tryd.func8
theorem nt_law02_StampReads : Tryd.f8.ntmps = 109 := Tryd.ntmps8
theorem go_law02_StampReads : isGo P 8 = true := by kernel_rfl
abbrev n_law02_awake : Nat := 9
theorem fn_law02_awake : P.funcs[9]? = some Tryd.f9 := Tryd.func9
theorem nt_law02_awake : Tryd.f9.ntmps = 13 := Tryd.ntmps9
theorem go_law02_awake : isGo P 9 = true := by kernel_rfl
abbrev n_stamp_Of : Nat := 10
theorem fn_stamp_Of : P.funcs[10]? = some Tryd.f10 := Tryd.func10
theorem nt_stamp_Of : Tryd.f10.ntmps = 81 := Tryd.ntmps10
theorem go_stamp_Of : isGo P 10 = true := by kernel_rfl
abbrev n_ref01_Stamp : Nat := 11
theorem fn_ref01_Stamp : P.funcs[11]? = some Tryd.f11 := Tryd.func11
theorem nt_ref01_Stamp : Tryd.f11.ntmps = 284 := Tryd.ntmps11
theorem go_ref01_Stamp : isGo P 11 = true := by kernel_rfl
abbrev n_stamp_Less : Nat := 12
theorem fn_stamp_Less : P.funcs[12]? = some Tryd.f12 := Tryd.func12
theorem nt_stamp_Less : Tryd.f12.ntmps = 10 := Tryd.ntmps12
theorem go_stamp_Less : isGo P 12 = true := by kernel_rfl
abbrev n_stamp_Text : Nat := 13
theorem fn_stamp_Text : P.funcs[13]? = some Tryd.f13 := Tryd.func13
theorem nt_stamp_Text : Tryd.f13.ntmps = 22 := Tryd.ntmps13
theorem go_stamp_Text : isGo P 13 = true := by kernel_rfl
abbrev n_stamp_Read : Nat := 14
theorem fn_stamp_Read : P.funcs[14]? = some Tryd.f14 := Tryd.func14
theorem nt_stamp_Read : Tryd.f14.ntmps = 41 := Tryd.ntmps14
theorem go_stamp_Read : isGo P 14 = true := by kernel_rfl
abbrev n_stamp_block : Nat := 15
theorem fn_stamp_block : P.funcs[15]? = some Tryd.f15 := Tryd.func15
theorem nt_stamp_block : Tryd.f15.ntmps = 199 := Tryd.ntmps15
theorem go_stamp_block : isGo P 15 = true := by kernel_rfl
abbrev n_ref01_turn : Nat := 16
theorem fn_ref01_turn : P.funcs[16]? = some Tryd.f16 := Tryd.func16
theorem nt_ref01_turn : Tryd.f16.ntmps = 13 := Tryd.ntmps16
theorem go_ref01_turn : isGo P 16 = true := by kernel_rfl
abbrev n_stamp_nibble : Nat := 17
theorem fn_stamp_nibble : P.funcs[17]? = some Tryd.f17 := Tryd.func17
theorem nt_stamp_nibble : Tryd.f17.ntmps = 22 := Tryd.ntmps17
theorem go_stamp_nibble : isGo P 17 = true := by kernel_rfl
abbrev n_math_bits_RotateLeft32 : Nat := 18
theorem fn_math_bits_RotateLeft32 : P.funcs[18]? = some Tryd.f18 := Tryd.func18
theorem nt_math_bits_RotateLeft32 : Tryd.f18.ntmps = 17 := Tryd.ntmps18
theorem go_math_bits_RotateLeft32 : isGo P 18 = true := by kernel_rfl
abbrev g_stamp_first : Nat := 0
abbrev g_stamp_parts : Nat := 1
def u_int64 := Tryd.underlying2
abbrev t_int64 : Nat := 2
theorem sz_int64 : tsz P 2 = some (1, 8) := by kernel_rfl
theorem z_int64 : tzero P 2 = some (.int .i64 0) := by kernel_rfl
def u_int := Tryd.underlying3
abbrev t_int : Nat := 3
theorem sz_int : tsz P 3 = some (1, 8) := by kernel_rfl
theorem z_int : tzero P 3 = some (.int .i64 0) := by kernel_rfl
def u_bool := Tryd.underlying4
abbrev t_bool : Nat := 4
theorem sz_bool : tsz P 4 = some (1, 1) := by kernel_rfl
theorem z_bool : tzero P 4 = some (.bool false) := by kernel_rfl
def u_uint8 := Tryd.underlying5
abbrev t_uint8 : Nat := 5
theorem sz_uint8 : tsz P 5 = some (1, 1) := by kernel_rfl
theorem z_uint8 : tzero P 5 = some (.int .u8 0) := by kernel_rfl
def u_string := Tryd.underlying9
abbrev t_string : Nat := 9
theorem sz_string : tsz P 9 = some (1, 16) := by kernel_rfl
theorem z_string : tzero P 9 = some (.string ⟨#[]⟩) := by kernel_rfl
def u_uintptr := Tryd.underlying12
abbrev t_uintptr : Nat := 12
theorem sz_uintptr : tsz P 12 = some (1, 8) := by kernel_rfl
theorem z_uintptr : tzero P 12 = some (.int .u64 0) := by kernel_rfl
def u_st13 := Tryd.underlying13
abbrev t_st13 : Nat := 13
theorem sz_st13 : tsz P 13 = some (2, 24) := by kernel_rfl
theorem z_st13 : tzero P 13 = some (.agg #[.string ⟨#[]⟩, .int .u64 0]) := by kernel_rfl
def u_interface := Tryd.underlying20
abbrev t_interface : Nat := 20
theorem sz_interface : tsz P 20 = some (1, 16) := by kernel_rfl
theorem z_interface : tzero P 20 = some (.nilIface) := by kernel_rfl
def u_int32 := Tryd.underlying21
abbrev t_int32 : Nat := 21
theorem sz_int32 : tsz P 21 = some (1, 4) := by kernel_rfl
theorem z_int32 : tzero P 21 = some (.int .i32 0) := by kernel_rfl
def u_S_uint8 := Tryd.underlying22
abbrev t_S_uint8 : Nat := 22
theorem sz_S_uint8 : tsz P 22 = some (1, 24) := by kernel_rfl
theorem z_S_uint8 : tzero P 22 = some (.slice none 0 0) := by kernel_rfl
def u_A32_uint8 := Tryd.underlying24
abbrev t_A32_uint8 : Nat := 24
theorem sz_A32_uint8 : tsz P 24 = some (32, 32) := by kernel_rfl
theorem z_A32_uint8 : tzero P 24 = some (.agg (Array.replicate 32 (.int .u8 0))) := by kernel_rfl
def u_api_Key := Tryd.underlying25
abbrev t_api_Key : Nat := 25
theorem sz_api_Key : tsz P 25 = some (32, 32) := by kernel_rfl
theorem z_api_Key : tzero P 25 = some (.agg (Array.replicate 32 (.int .u8 0))) := by kernel_rfl
def u_S_string := Tryd.underlying37
abbrev t_S_string : Nat := 37
theorem sz_S_string : tsz P 37 = some (1, 24) := by kernel_rfl
theorem z_S_string : tzero P 37 = some (.slice none 0 0) := by kernel_rfl
def u_uint64 := Tryd.underlying39
abbrev t_uint64 : Nat := 39
theorem sz_uint64 : tsz P 39 = some (1, 8) := by kernel_rfl
theorem z_uint64 : tzero P 39 = some (.int .u64 0) := by kernel_rfl
def u_uint32 := Tryd.underlying40
abbrev t_uint32 : Nat := 40
theorem sz_uint32 : tsz P 40 = some (1, 4) := by kernel_rfl
theorem z_uint32 : tzero P 40 = some (.int .u32 0) := by kernel_rfl
def u_A8_uint32 := Tryd.underlying41
abbrev t_A8_uint32 : Nat := 41
theorem sz_A8_uint32 : tsz P 41 = some (8, 32) := by kernel_rfl
theorem z_A8_uint32 : tzero P 41 = some (.agg (Array.replicate 8 (.int .u32 0))) := by kernel_rfl
def u_uint := Tryd.underlying43
abbrev t_uint : Nat := 43
theorem sz_uint : tsz P 43 = some (1, 8) := by kernel_rfl
theorem z_uint : tzero P 43 = some (.int .u64 0) := by kernel_rfl
def u_S_uint32 := Tryd.underlying44
abbrev t_S_uint32 : Nat := 44
theorem sz_S_uint32 : tsz P 44 = some (1, 24) := by kernel_rfl
theorem z_S_uint32 : tzero P 44 = some (.slice none 0 0) := by kernel_rfl
def u_A64_uint32 := Tryd.underlying47
abbrev t_A64_uint32 : Nat := 47
theorem sz_A64_uint32 : tsz P 47 = some (64, 256) := by kernel_rfl
theorem z_A64_uint32 : tzero P 47 = some (.agg (Array.replicate 64 (.int .u32 0))) := by kernel_rfl
def u_p_uint8 := Tryd.underlying58
abbrev t_p_uint8 : Nat := 58
theorem sz_p_uint8 : tsz P 58 = some (1, 8) := by kernel_rfl
theorem z_p_uint8 : tzero P 58 = some (.pointer none) := by kernel_rfl
end Go.Proofs.K
