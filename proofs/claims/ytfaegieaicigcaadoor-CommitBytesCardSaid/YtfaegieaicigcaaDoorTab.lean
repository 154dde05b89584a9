/- Facts on the functions and types of this cut, by stable names; each is checked by reckoning. -/
import Derived.Test.YtfaegieaicigcaaDoorProg
import Derived.Test.YtfaegieaicigcaaDoorSl
set_option linter.unusedVariables false
set_option linter.defProp false
namespace Go.Proofs.K
open Go.Sl
noncomputable abbrev P : Program := Tryd.prog
theorem mixed : P.follows .mixedOrders = true := by kernel_rfl
abbrev n_law17_CommitBytes : Nat := 3
theorem fn_law17_CommitBytes : P.funcs[3]? = some Tryd.f3 := Tryd.func3
theorem nt_law17_CommitBytes : Tryd.f3.ntmps = 105 := Tryd.ntmps3
theorem go_law17_CommitBytes : isGo P 3 = true := by kernel_rfl
abbrev n_law17_CommitEqual : Nat := 4
theorem fn_law17_CommitEqual : P.funcs[4]? = some Tryd.f4 := Tryd.func4
theorem nt_law17_CommitEqual : Tryd.f4.ntmps = 81 := Tryd.ntmps4
theorem go_law17_CommitEqual : isGo P 4 = true := by kernel_rfl
abbrev n_law17_awake : Nat := 5
theorem fn_law17_awake : P.funcs[5]? = some Tryd.f5 := Tryd.func5
theorem nt_law17_awake : Tryd.f5.ntmps = 34 := Tryd.ntmps5
theorem go_law17_awake : isGo P 5 = true := by kernel_rfl
abbrev n_law17_near : Nat := 6
theorem fn_law17_near : P.funcs[6]? = some Tryd.f6 := Tryd.func6
theorem nt_law17_near : Tryd.f6.ntmps = 39 := Tryd.ntmps6
theorem go_law17_near : isGo P 6 = true := by kernel_rfl
abbrev n_commit_Encode : Nat := 7
theorem fn_commit_Encode : P.funcs[7]? = some Tryd.f7 := Tryd.func7
theorem nt_commit_Encode : Tryd.f7.ntmps = 39 := Tryd.ntmps7
theorem go_commit_Encode : isGo P 7 = true := by kernel_rfl
abbrev n_commit_Right : Nat := 8
theorem fn_commit_Right : P.funcs[8]? = some Tryd.f8 := Tryd.func8
theorem nt_commit_Right : Tryd.f8.ntmps = 30 := Tryd.ntmps8
theorem go_commit_Right : isGo P 8 = true := by kernel_rfl
abbrev n_commit_Decode : Nat := 9
theorem fn_commit_Decode : P.funcs[9]? = some Tryd.f9 := Tryd.func9
theorem nt_commit_Decode : Tryd.f9.ntmps = 41 := Tryd.ntmps9
theorem go_commit_Decode : isGo P 9 = true := by kernel_rfl
abbrev n_ref15_Commit : Nat := 10
theorem fn_ref15_Commit : P.funcs[10]? = some Tryd.f10 := Tryd.func10
theorem nt_ref15_Commit : Tryd.f10.ntmps = 37 := Tryd.ntmps10
theorem go_ref15_Commit : isGo P 10 = true := by kernel_rfl
abbrev n_ref15_Same : Nat := 11
theorem fn_ref15_Same : P.funcs[11]? = some Tryd.f11 := Tryd.func11
theorem nt_ref15_Same : Tryd.f11.ntmps = 45 := Tryd.ntmps11
theorem go_ref15_Same : isGo P 11 = true := by kernel_rfl
abbrev n_commit_Key : Nat := 12
theorem fn_commit_Key : P.funcs[12]? = some Tryd.f12 := Tryd.func12
theorem nt_commit_Key : Tryd.f12.ntmps = 12 := Tryd.ntmps12
theorem go_commit_Key : isGo P 12 = true := by kernel_rfl
abbrev n_ref01_Stamp : Nat := 13
theorem fn_ref01_Stamp : P.funcs[13]? = some Tryd.f13 := Tryd.func13
theorem nt_ref01_Stamp : Tryd.f13.ntmps = 284 := Tryd.ntmps13
theorem go_ref01_Stamp : isGo P 13 = true := by kernel_rfl
abbrev n_commit_Equal : Nat := 14
theorem fn_commit_Equal : P.funcs[14]? = some Tryd.f14 := Tryd.func14
theorem nt_commit_Equal : Tryd.f14.ntmps = 44 := Tryd.ntmps14
theorem go_commit_Equal : isGo P 14 = true := by kernel_rfl
abbrev n_digit_Pen_Raw : Nat := 15
theorem fn_digit_Pen_Raw : P.funcs[15]? = some Tryd.f15 := Tryd.func15
theorem nt_digit_Pen_Raw : Tryd.f15.ntmps = 15 := Tryd.ntmps15
theorem go_digit_Pen_Raw : isGo P 15 = true := by kernel_rfl
abbrev n_digit_Pen_Num : Nat := 16
theorem fn_digit_Pen_Num : P.funcs[16]? = some Tryd.f16 := Tryd.func16
theorem nt_digit_Pen_Num : Tryd.f16.ntmps = 37 := Tryd.ntmps16
theorem go_digit_Pen_Num : isGo P 16 = true := by kernel_rfl
abbrev n_digit_Pen_Text : Nat := 17
theorem fn_digit_Pen_Text : P.funcs[17]? = some Tryd.f17 := Tryd.func17
theorem nt_digit_Pen_Text : Tryd.f17.ntmps = 19 := Tryd.ntmps17
theorem go_digit_Pen_Text : isGo P 17 = true := by kernel_rfl
abbrev n_digit_NewEye : Nat := 18
theorem fn_digit_NewEye : P.funcs[18]? = some Tryd.f18 := Tryd.func18
theorem nt_digit_NewEye : Tryd.f18.ntmps = 7 := Tryd.ntmps18
theorem go_digit_NewEye : isGo P 18 = true := by kernel_rfl
abbrev n_digit_Eye_Raw : Nat := 19
theorem fn_digit_Eye_Raw : P.funcs[19]? = some Tryd.f19 := Tryd.func19
theorem nt_digit_Eye_Raw : Tryd.f19.ntmps = 45 := Tryd.ntmps19
theorem go_digit_Eye_Raw : isGo P 19 = true := by kernel_rfl
abbrev n_commit_key : Nat := 20
theorem fn_commit_key : P.funcs[20]? = some Tryd.f20 := Tryd.func20
theorem nt_commit_key : Tryd.f20.ntmps = 9 := Tryd.ntmps20
theorem go_commit_key : isGo P 20 = true := by kernel_rfl
abbrev n_digit_Eye_Num : Nat := 21
theorem fn_digit_Eye_Num : P.funcs[21]? = some Tryd.f21 := Tryd.func21
theorem nt_digit_Eye_Num : Tryd.f21.ntmps = 71 := Tryd.ntmps21
theorem go_digit_Eye_Num : isGo P 21 = true := by kernel_rfl
abbrev n_digit_Eye_Text : Nat := 22
theorem fn_digit_Eye_Text : P.funcs[22]? = some Tryd.f22 := Tryd.func22
theorem nt_digit_Eye_Text : Tryd.f22.ntmps = 13 := Tryd.ntmps22
theorem go_digit_Eye_Text : isGo P 22 = true := by kernel_rfl
abbrev n_digit_Eye_End : Nat := 23
theorem fn_digit_Eye_End : P.funcs[23]? = some Tryd.f23 := Tryd.func23
theorem nt_digit_Eye_End : Tryd.f23.ntmps = 13 := Tryd.ntmps23
theorem go_digit_Eye_End : isGo P 23 = true := by kernel_rfl
abbrev n_ref01_Num : Nat := 24
theorem fn_ref01_Num : P.funcs[24]? = some Tryd.f24 := Tryd.func24
theorem nt_ref01_Num : Tryd.f24.ntmps = 20 := Tryd.ntmps24
theorem go_ref01_Num : isGo P 24 = true := by kernel_rfl
abbrev n_ref01_Text : Nat := 25
theorem fn_ref01_Text : P.funcs[25]? = some Tryd.f25 := Tryd.func25
theorem nt_ref01_Text : Tryd.f25.ntmps = 8 := Tryd.ntmps25
theorem go_ref01_Text : isGo P 25 = true := by kernel_rfl
abbrev n_stamp_Of : Nat := 26
theorem fn_stamp_Of : P.funcs[26]? = some Tryd.f26 := Tryd.func26
theorem nt_stamp_Of : Tryd.f26.ntmps = 81 := Tryd.ntmps26
theorem go_stamp_Of : isGo P 26 = true := by kernel_rfl
abbrev n_ref01_turn : Nat := 27
theorem fn_ref01_turn : P.funcs[27]? = some Tryd.f27 := Tryd.func27
theorem nt_ref01_turn : Tryd.f27.ntmps = 13 := Tryd.ntmps27
theorem go_ref01_turn : isGo P 27 = true := by kernel_rfl
abbrev n_digit_Eye_fail : Nat := 28
theorem fn_digit_Eye_fail : P.funcs[28]? = some Tryd.f28 := Tryd.func28
theorem nt_digit_Eye_fail : Tryd.f28.ntmps = 16 := Tryd.ntmps28
theorem go_digit_Eye_fail : isGo P 28 = true := by kernel_rfl
abbrev n_digit_Eye_Fault : Nat := 29
theorem fn_digit_Eye_Fault : P.funcs[29]? = some Tryd.f29 := Tryd.func29
theorem nt_digit_Eye_Fault : Tryd.f29.ntmps = 9 := Tryd.ntmps29
theorem go_digit_Eye_Fault : isGo P 29 = true := by kernel_rfl
abbrev n_digit_Eye_Left : Nat := 30
theorem fn_digit_Eye_Left : P.funcs[30]? = some Tryd.f30 := Tryd.func30
theorem nt_digit_Eye_Left : Tryd.f30.ntmps = 10 := Tryd.ntmps30
theorem go_digit_Eye_Left : isGo P 30 = true := by kernel_rfl
abbrev n_stamp_block : Nat := 31
theorem fn_stamp_block : P.funcs[31]? = some Tryd.f31 := Tryd.func31
theorem nt_stamp_block : Tryd.f31.ntmps = 199 := Tryd.ntmps31
theorem go_stamp_block : isGo P 31 = true := by kernel_rfl
abbrev n_math_bits_RotateLeft32 : Nat := 32
theorem fn_math_bits_RotateLeft32 : P.funcs[32]? = some Tryd.f32 := Tryd.func32
theorem nt_math_bits_RotateLeft32 : Tryd.f32.ntmps = 17 := Tryd.ntmps32
theorem go_math_bits_RotateLeft32 : isGo P 32 = true := by kernel_rfl
abbrev g_stamp_first : Nat := 0
abbrev g_stamp_parts : Nat := 1
def u_int64 := Tryd.underlying2
abbrev t_int64 : Nat := 2
theorem sz_int64 : tsz P 2 = some (1, 8) := by kernel_rfl
theorem z_int64 : tzero P 2 = some (.int .i64 0) := by kernel_rfl
def u_int := Tryd.underlying3
abbrev t_int : Nat := 3
theorem sz_int : tsz P 3 = some (1, 8) := by kernel_rfl
theorem z_int : tzero P 3 = some (.int .i64 0) := by kernel_rfl
def u_bool := Tryd.underlying4
abbrev t_bool : Nat := 4
theorem sz_bool : tsz P 4 = some (1, 1) := by kernel_rfl
theorem z_bool : tzero P 4 = some (.bool false) := by kernel_rfl
def u_uint8 := Tryd.underlying5
abbrev t_uint8 : Nat := 5
theorem sz_uint8 : tsz P 5 = some (1, 1) := by kernel_rfl
theorem z_uint8 : tzero P 5 = some (.int .u8 0) := by kernel_rfl
def u_string := Tryd.underlying9
abbrev t_string : Nat := 9
theorem sz_string : tsz P 9 = some (1, 16) := by kernel_rfl
theorem z_string : tzero P 9 = some (.string ⟨#[]⟩) := by kernel_rfl
def u_uintptr := Tryd.underlying12
abbrev t_uintptr : Nat := 12
theorem sz_uintptr : tsz P 12 = some (1, 8) := by kernel_rfl
theorem z_uintptr : tzero P 12 = some (.int .u64 0) := by kernel_rfl
def u_st13 := Tryd.underlying13
abbrev t_st13 : Nat := 13
theorem sz_st13 : tsz P 13 = some (2, 24) := by kernel_rfl
theorem z_st13 : tzero P 13 = some (.agg #[.string ⟨#[]⟩, .int .u64 0]) := by kernel_rfl
def u_interface := Tryd.underlying20
abbrev t_interface : Nat := 20
theorem sz_interface : tsz P 20 = some (1, 16) := by kernel_rfl
theorem z_interface : tzero P 20 = some (.nilIface) := by kernel_rfl
def u_int32 := Tryd.underlying21
abbrev t_int32 : Nat := 21
theorem sz_int32 : tsz P 21 = some (1, 4) := by kernel_rfl
theorem z_int32 : tzero P 21 = some (.int .i32 0) := by kernel_rfl
def u_A32_uint8 := Tryd.underlying22
abbrev t_A32_uint8 : Nat := 22
theorem sz_A32_uint8 : tsz P 22 = some (32, 32) := by kernel_rfl
theorem z_A32_uint8 : tzero P 22 = some (.agg (Array.replicate 32 (.int .u8 0))) := by kernel_rfl
def u_api_Key := Tryd.underlying23
abbrev t_api_Key : Nat := 23
theorem sz_api_Key : tsz P 23 = some (32, 32) := by kernel_rfl
theorem z_api_Key : tzero P 23 = some (.agg (Array.replicate 32 (.int .u8 0))) := by kernel_rfl
def u_S_api_Key := Tryd.underlying24
abbrev t_S_api_Key : Nat := 24
theorem sz_S_api_Key : tsz P 24 = some (1, 24) := by kernel_rfl
theorem z_S_api_Key : tzero P 24 = some (.slice none 0 0) := by kernel_rfl
def u_st25 := Tryd.underlying25
abbrev t_st25 : Nat := 25
theorem sz_st25 : tsz P 25 = some (34, 72) := by kernel_rfl
theorem z_st25 : tzero P 25 = some (.agg #[.int .u8 0, .int .u8 0, .int .u8 0, .int .u8 0, .int .u8 0, .int .u8 0, .int .u8 0, .int .u8 0, .int .u8 0, .int .u8 0, .int .u8 0, .int .u8 0, .int .u8 0, .int .u8 0, .int .u8 0, .int .u8 0, .int .u8 0, .int .u8 0, .int .u8 0, .int .u8 0, .int .u8 0, .int .u8 0, .int .u8 0, .int .u8 0, .int .u8 0, .int .u8 0, .int .u8 0, .int .u8 0, .int .u8 0, .int .u8 0, .int .u8 0, .int .u8 0, .slice none 0 0, .string ⟨#[]⟩]) := by kernel_rfl
def u_api_Commit := Tryd.underlying26
abbrev t_api_Commit : Nat := 26
theorem sz_api_Commit : tsz P 26 = some (34, 72) := by kernel_rfl
theorem pl_api_Commit : fplaces P 26 = some [(0, 32), (32, 1), (33, 1)] := by kernel_rfl
theorem z_api_Commit : tzero P 26 = some (.agg #[.int .u8 0, .int .u8 0, .int .u8 0, .int .u8 0, .int .u8 0, .int .u8 0, .int .u8 0, .int .u8 0, .int .u8 0, .int .u8 0, .int .u8 0, .int .u8 0, .int .u8 0, .int .u8 0, .int .u8 0, .int .u8 0, .int .u8 0, .int .u8 0, .int .u8 0, .int .u8 0, .int .u8 0, .int .u8 0, .int .u8 0, .int .u8 0, .int .u8 0, .int .u8 0, .int .u8 0, .int .u8 0, .int .u8 0, .int .u8 0, .int .u8 0, .int .u8 0, .slice none 0 0, .string ⟨#[]⟩]) := by kernel_rfl
def u_S_uint8 := Tryd.underlying29
abbrev t_S_uint8 : Nat := 29
theorem sz_S_uint8 : tsz P 29 = some (1, 24) := by kernel_rfl
theorem z_S_uint8 : tzero P 29 = some (.slice none 0 0) := by kernel_rfl
def u_api_Errno := Tryd.underlying30
abbrev t_api_Errno : Nat := 30
theorem sz_api_Errno : tsz P 30 = some (1, 8) := by kernel_rfl
theorem z_api_Errno : tzero P 30 = some (.int .i64 0) := by kernel_rfl
def u_p_digit_Pen := Tryd.underlying42
abbrev t_p_digit_Pen : Nat := 42
theorem sz_p_digit_Pen : tsz P 42 = some (1, 8) := by kernel_rfl
theorem z_p_digit_Pen : tzero P 42 = some (.pointer none) := by kernel_rfl
def u_st43 := Tryd.underlying43
abbrev t_st43 : Nat := 43
theorem sz_st43 : tsz P 43 = some (1, 24) := by kernel_rfl
theorem z_st43 : tzero P 43 = some (.agg #[.slice none 0 0]) := by kernel_rfl
def u_digit_Pen := Tryd.underlying44
abbrev t_digit_Pen : Nat := 44
theorem sz_digit_Pen : tsz P 44 = some (1, 24) := by kernel_rfl
theorem pl_digit_Pen : fplaces P 44 = some [(0, 1)] := by kernel_rfl
theorem z_digit_Pen : tzero P 44 = some (.agg #[.slice none 0 0]) := by kernel_rfl
def u_p_digit_Eye := Tryd.underlying48
abbrev t_p_digit_Eye : Nat := 48
theorem sz_p_digit_Eye : tsz P 48 = some (1, 8) := by kernel_rfl
theorem z_p_digit_Eye : tzero P 48 = some (.pointer none) := by kernel_rfl
def u_uint32 := Tryd.underlying57
abbrev t_uint32 : Nat := 57
theorem sz_uint32 : tsz P 57 = some (1, 4) := by kernel_rfl
theorem z_uint32 : tzero P 57 = some (.int .u32 0) := by kernel_rfl
def u_S_uint32 := Tryd.underlying58
abbrev t_S_uint32 : Nat := 58
theorem sz_S_uint32 : tsz P 58 = some (1, 24) := by kernel_rfl
theorem z_S_uint32 : tzero P 58 = some (.slice none 0 0) := by kernel_rfl
def u_uint64 := Tryd.underlying59
abbrev t_uint64 : Nat := 59
theorem sz_uint64 : tsz P 59 = some (1, 8) := by kernel_rfl
theorem z_uint64 : tzero P 59 = some (.int .u64 0) := by kernel_rfl
def u_uint := Tryd.underlying61
abbrev t_uint : Nat := 61
theorem sz_uint : tsz P 61 = some (1, 8) := by kernel_rfl
theorem z_uint : tzero P 61 = some (.int .u64 0) := by kernel_rfl
def u_st62 := Tryd.underlying62
abbrev t_st62 : Nat := 62
theorem sz_st62 : tsz P 62 = some (2, 32) := by kernel_rfl
theorem z_st62 : tzero P 62 = some (.agg #[.slice none 0 0, .int .i64 0]) := by kernel_rfl
def u_digit_Eye := Tryd.underlying63
abbrev t_digit_Eye : Nat := 63
theorem sz_digit_Eye : tsz P 63 = some (2, 32) := by kernel_rfl
theorem pl_digit_Eye : fplaces P 63 = some [(0, 1), (1, 1)] := by kernel_rfl
theorem z_digit_Eye : tzero P 63 = some (.agg #[.slice none 0 0, .int .i64 0]) := by kernel_rfl
def u_A8_uint32 := Tryd.underlying66
abbrev t_A8_uint32 : Nat := 66
theorem sz_A8_uint32 : tsz P 66 = some (8, 32) := by kernel_rfl
theorem z_A8_uint32 : tzero P 66 = some (.agg (Array.replicate 8 (.int .u32 0))) := by kernel_rfl
def u_A64_uint32 := Tryd.underlying68
abbrev t_A64_uint32 : Nat := 68
theorem sz_A64_uint32 : tsz P 68 = some (64, 256) := by kernel_rfl
theorem z_A64_uint32 : tzero P 68 = some (.agg (Array.replicate 64 (.int .u32 0))) := by kernel_rfl
def u_p_uint8 := Tryd.underlying78
abbrev t_p_uint8 : Nat := 78
theorem sz_p_uint8 : tsz P 78 = some (1, 8) := by kernel_rfl
theorem z_p_uint8 : tzero P 78 = some (.pointer none) := by kernel_rfl
end Go.Proofs.K
