/- Facts on the functions and types of this cut, by stable names; each is checked by reckoning. -/
import Derived.Test.YtfaegieaicigcaaProg
import Derived.Test.YtfaegieaicigcaaSl
set_option linter.unusedVariables false
set_option linter.defProp false
namespace Go.Proofs.K
open Go.Sl
noncomputable abbrev P : Program := Try.prog
theorem mixed : P.follows .mixedOrders = true := by kernel_rfl
abbrev n_law17_CommitReads : Nat := 3
theorem fn_law17_CommitReads : P.funcs[3]? = some Try.f3 := Try.func3
theorem nt_law17_CommitReads : Try.f3.ntmps = 104 := Try.ntmps3
theorem go_law17_CommitReads : isGo P 3 = true := by kernel_rfl
abbrev n_law17_CommitBounds : Nat := 4
theorem fn_law17_CommitBounds : P.funcs[4]? = some Try.f4 := Try.func4
theorem nt_law17_CommitBounds : Try.f4.ntmps = 70 := Try.ntmps4
theorem go_law17_CommitBounds : isGo P 4 = true := by kernel_rfl
abbrev n_law17_CommitApart : Nat := 5
theorem fn_law17_CommitApart : P.funcs[5]? = some Try.f5 := Try.func5
theorem nt_law17_CommitApart : Try.f5.ntmps = 73 := Try.ntmps5
theorem go_law17_CommitApart : isGo P 5 = true := by kernel_rfl
abbrev n_law15_DeltaMakes : Nat := 6
theorem fn_law15_DeltaMakes : P.funcs[6]? = some Try.f6 := Try.func6
theorem nt_law15_DeltaMakes : Try.f6.ntmps = 86 := Try.ntmps6
theorem go_law15_DeltaMakes : isGo P 6 = true := by kernel_rfl
abbrev n_law15_DeltaReads : Nat := 7
theorem fn_law15_DeltaReads : P.funcs[7]? = some Try.f7 := Try.func7
theorem nt_law15_DeltaReads : Try.f7.ntmps = 90 := Try.ntmps7
theorem go_law15_DeltaReads : isGo P 7 = true := by kernel_rfl
abbrev n_law15_DeltaLong : Nat := 8
theorem fn_law15_DeltaLong : P.funcs[8]? = some Try.f8 := Try.func8
theorem nt_law15_DeltaLong : Try.f8.ntmps = 75 := Try.ntmps8
theorem go_law15_DeltaLong : isGo P 8 = true := by kernel_rfl
abbrev n_law15_DeltaAlone : Nat := 9
theorem fn_law15_DeltaAlone : P.funcs[9]? = some Try.f9 := Try.func9
theorem nt_law15_DeltaAlone : Try.f9.ntmps = 69 := Try.ntmps9
theorem go_law15_DeltaAlone : isGo P 9 = true := by kernel_rfl
abbrev n_law15_DeltaPieces : Nat := 10
theorem fn_law15_DeltaPieces : P.funcs[10]? = some Try.f10 := Try.func10
theorem nt_law15_DeltaPieces : Try.f10.ntmps = 97 := Try.ntmps10
theorem go_law15_DeltaPieces : isGo P 10 = true := by kernel_rfl
abbrev n_law17_awake : Nat := 11
theorem fn_law17_awake : P.funcs[11]? = some Try.f11 := Try.func11
theorem nt_law17_awake : Try.f11.ntmps = 34 := Try.ntmps11
theorem go_law17_awake : isGo P 11 = true := by kernel_rfl
abbrev n_ref15_Commit : Nat := 12
theorem fn_ref15_Commit : P.funcs[12]? = some Try.f12 := Try.func12
theorem nt_ref15_Commit : Try.f12.ntmps = 37 := Try.ntmps12
theorem go_ref15_Commit : isGo P 12 = true := by kernel_rfl
abbrev n_law17_near : Nat := 13
theorem fn_law17_near : P.funcs[13]? = some Try.f13 := Try.func13
theorem nt_law17_near : Try.f13.ntmps = 39 := Try.ntmps13
theorem go_law17_near : isGo P 13 = true := by kernel_rfl
abbrev n_commit_Decode : Nat := 14
theorem fn_commit_Decode : P.funcs[14]? = some Try.f14 := Try.func14
theorem nt_commit_Decode : Try.f14.ntmps = 41 := Try.ntmps14
theorem go_commit_Decode : isGo P 14 = true := by kernel_rfl
abbrev n_ref15_Same : Nat := 15
theorem fn_ref15_Same : P.funcs[15]? = some Try.f15 := Try.func15
theorem nt_ref15_Same : Try.f15.ntmps = 45 := Try.ntmps15
theorem go_ref15_Same : isGo P 15 = true := by kernel_rfl
abbrev n_commit_Encode : Nat := 16
theorem fn_commit_Encode : P.funcs[16]? = some Try.f16 := Try.func16
theorem nt_commit_Encode : Try.f16.ntmps = 39 := Try.ntmps16
theorem go_commit_Encode : isGo P 16 = true := by kernel_rfl
abbrev n_commit_Right : Nat := 17
theorem fn_commit_Right : P.funcs[17]? = some Try.f17 := Try.func17
theorem nt_commit_Right : Try.f17.ntmps = 30 := Try.ntmps17
theorem go_commit_Right : isGo P 17 = true := by kernel_rfl
abbrev n_commit_Equal : Nat := 18
theorem fn_commit_Equal : P.funcs[18]? = some Try.f18 := Try.func18
theorem nt_commit_Equal : Try.f18.ntmps = 44 := Try.ntmps18
theorem go_commit_Equal : isGo P 18 = true := by kernel_rfl
abbrev n_law15_awake : Nat := 19
theorem fn_law15_awake : P.funcs[19]? = some Try.f19 := Try.func19
theorem nt_law15_awake : Try.f19.ntmps = 10 := Try.ntmps19
theorem go_law15_awake : isGo P 19 = true := by kernel_rfl
abbrev n_delta_Make : Nat := 20
theorem fn_delta_Make : P.funcs[20]? = some Try.f20 := Try.func20
theorem nt_delta_Make : Try.f20.ntmps = 56 := Try.ntmps20
theorem go_delta_Make : isGo P 20 = true := by kernel_rfl
abbrev n_delta_Apply : Nat := 21
theorem fn_delta_Apply : P.funcs[21]? = some Try.f21 := Try.func21
theorem nt_delta_Apply : Try.f21.ntmps = 73 := Try.ntmps21
theorem go_delta_Apply : isGo P 21 = true := by kernel_rfl
abbrev n_ref15_Delta : Nat := 22
theorem fn_ref15_Delta : P.funcs[22]? = some Try.f22 := Try.func22
theorem nt_ref15_Delta : Try.f22.ntmps = 67 := Try.ntmps22
theorem go_ref15_Delta : isGo P 22 = true := by kernel_rfl
abbrev n_ref01_Num : Nat := 23
theorem fn_ref01_Num : P.funcs[23]? = some Try.f23 := Try.func23
theorem nt_ref01_Num : Try.f23.ntmps = 20 := Try.ntmps23
theorem go_ref01_Num : isGo P 23 = true := by kernel_rfl
abbrev n_ref01_Text : Nat := 24
theorem fn_ref01_Text : P.funcs[24]? = some Try.f24 := Try.func24
theorem nt_ref01_Text : Try.f24.ntmps = 8 := Try.ntmps24
theorem go_ref01_Text : isGo P 24 = true := by kernel_rfl
abbrev n_digit_NewEye : Nat := 25
theorem fn_digit_NewEye : P.funcs[25]? = some Try.f25 := Try.func25
theorem nt_digit_NewEye : Try.f25.ntmps = 7 := Try.ntmps25
theorem go_digit_NewEye : isGo P 25 = true := by kernel_rfl
abbrev n_digit_Eye_Raw : Nat := 26
theorem fn_digit_Eye_Raw : P.funcs[26]? = some Try.f26 := Try.func26
theorem nt_digit_Eye_Raw : Try.f26.ntmps = 45 := Try.ntmps26
theorem go_digit_Eye_Raw : isGo P 26 = true := by kernel_rfl
abbrev n_commit_key : Nat := 27
theorem fn_commit_key : P.funcs[27]? = some Try.f27 := Try.func27
theorem nt_commit_key : Try.f27.ntmps = 9 := Try.ntmps27
theorem go_commit_key : isGo P 27 = true := by kernel_rfl
abbrev n_digit_Eye_Num : Nat := 28
theorem fn_digit_Eye_Num : P.funcs[28]? = some Try.f28 := Try.func28
theorem nt_digit_Eye_Num : Try.f28.ntmps = 71 := Try.ntmps28
theorem go_digit_Eye_Num : isGo P 28 = true := by kernel_rfl
abbrev n_digit_Eye_Text : Nat := 29
theorem fn_digit_Eye_Text : P.funcs[29]? = some Try.f29 := Try.func29
theorem nt_digit_Eye_Text : Try.f29.ntmps = 13 := Try.ntmps29
theorem go_digit_Eye_Text : isGo P 29 = true := by kernel_rfl
abbrev n_digit_Eye_End : Nat := 30
theorem fn_digit_Eye_End : P.funcs[30]? = some Try.f30 := Try.func30
theorem nt_digit_Eye_End : Try.f30.ntmps = 13 := Try.ntmps30
theorem go_digit_Eye_End : isGo P 30 = true := by kernel_rfl
abbrev n_digit_Pen_Raw : Nat := 31
theorem fn_digit_Pen_Raw : P.funcs[31]? = some Try.f31 := Try.func31
theorem nt_digit_Pen_Raw : Try.f31.ntmps = 15 := Try.ntmps31
theorem go_digit_Pen_Raw : isGo P 31 = true := by kernel_rfl
abbrev n_digit_Pen_Num : Nat := 32
theorem fn_digit_Pen_Num : P.funcs[32]? = some Try.f32 := Try.func32
theorem nt_digit_Pen_Num : Try.f32.ntmps = 37 := Try.ntmps32
theorem go_digit_Pen_Num : isGo P 32 = true := by kernel_rfl
abbrev n_digit_Pen_Text : Nat := 33
theorem fn_digit_Pen_Text : P.funcs[33]? = some Try.f33 := Try.func33
theorem nt_digit_Pen_Text : Try.f33.ntmps = 19 := Try.ntmps33
theorem go_digit_Pen_Text : isGo P 33 = true := by kernel_rfl
abbrev n_delta_longest : Nat := 34
theorem fn_delta_longest : P.funcs[34]? = some Try.f34 := Try.func34
theorem nt_delta_longest : Try.f34.ntmps = 50 := Try.ntmps34
theorem go_delta_longest : isGo P 34 = true := by kernel_rfl
abbrev n_delta_maker_tell : Nat := 35
theorem fn_delta_maker_tell : P.funcs[35]? = some Try.f35 := Try.func35
theorem nt_delta_maker_tell : Try.f35.ntmps = 26 := Try.ntmps35
theorem go_delta_maker_tell : isGo P 35 = true := by kernel_rfl
abbrev n_digit_Eye_Left : Nat := 36
theorem fn_digit_Eye_Left : P.funcs[36]? = some Try.f36 := Try.func36
theorem nt_digit_Eye_Left : Try.f36.ntmps = 10 := Try.ntmps36
theorem go_digit_Eye_Left : isGo P 36 = true := by kernel_rfl
abbrev n_digit_Eye_Fault : Nat := 37
theorem fn_digit_Eye_Fault : P.funcs[37]? = some Try.f37 := Try.func37
theorem nt_digit_Eye_Fault : Try.f37.ntmps = 9 := Try.ntmps37
theorem go_digit_Eye_Fault : isGo P 37 = true := by kernel_rfl
abbrev n_bytes_Equal : Nat := 38
theorem fn_bytes_Equal : P.funcs[38]? = some Try.f38 := Try.func38
theorem nt_bytes_Equal : Try.f38.ntmps = 10 := Try.ntmps38
theorem go_bytes_Equal : isGo P 38 = true := by kernel_rfl
abbrev n_ref15_piece : Nat := 39
theorem fn_ref15_piece : P.funcs[39]? = some Try.f39 := Try.func39
theorem nt_ref15_piece : Try.f39.ntmps = 36 := Try.ntmps39
theorem go_ref15_piece : isGo P 39 = true := by kernel_rfl
abbrev n_digit_Eye_fail : Nat := 40
theorem fn_digit_Eye_fail : P.funcs[40]? = some Try.f40 := Try.func40
theorem nt_digit_Eye_fail : Try.f40.ntmps = 16 := Try.ntmps40
theorem go_digit_Eye_fail : isGo P 40 = true := by kernel_rfl
def u_int64 := Try.underlying2
abbrev t_int64 : Nat := 2
theorem sz_int64 : tsz P 2 = some (1, 8) := by kernel_rfl
theorem z_int64 : tzero P 2 = some (.int .i64 0) := by kernel_rfl
def u_int := Try.underlying3
abbrev t_int : Nat := 3
theorem sz_int : tsz P 3 = some (1, 8) := by kernel_rfl
theorem z_int : tzero P 3 = some (.int .i64 0) := by kernel_rfl
def u_bool := Try.underlying4
abbrev t_bool : Nat := 4
theorem sz_bool : tsz P 4 = some (1, 1) := by kernel_rfl
theorem z_bool : tzero P 4 = some (.bool false) := by kernel_rfl
def u_uint8 := Try.underlying5
abbrev t_uint8 : Nat := 5
theorem sz_uint8 : tsz P 5 = some (1, 1) := by kernel_rfl
theorem z_uint8 : tzero P 5 = some (.int .u8 0) := by kernel_rfl
def u_string := Try.underlying9
abbrev t_string : Nat := 9
theorem sz_string : tsz P 9 = some (1, 16) := by kernel_rfl
theorem z_string : tzero P 9 = some (.string ⟨#[]⟩) := by kernel_rfl
def u_uintptr := Try.underlying12
abbrev t_uintptr : Nat := 12
theorem sz_uintptr : tsz P 12 = some (1, 8) := by kernel_rfl
theorem z_uintptr : tzero P 12 = some (.int .u64 0) := by kernel_rfl
def u_st13 := Try.underlying13
abbrev t_st13 : Nat := 13
theorem sz_st13 : tsz P 13 = some (2, 24) := by kernel_rfl
theorem z_st13 : tzero P 13 = some (.agg #[.string ⟨#[]⟩, .int .u64 0]) := by kernel_rfl
def u_interface := Try.underlying20
abbrev t_interface : Nat := 20
theorem sz_interface : tsz P 20 = some (1, 16) := by kernel_rfl
theorem z_interface : tzero P 20 = some (.nilIface) := by kernel_rfl
def u_int32 := Try.underlying21
abbrev t_int32 : Nat := 21
theorem sz_int32 : tsz P 21 = some (1, 4) := by kernel_rfl
theorem z_int32 : tzero P 21 = some (.int .i32 0) := by kernel_rfl
def u_S_uint8 := Try.underlying22
abbrev t_S_uint8 : Nat := 22
theorem sz_S_uint8 : tsz P 22 = some (1, 24) := by kernel_rfl
theorem z_S_uint8 : tzero P 22 = some (.slice none 0 0) := by kernel_rfl
def u_A32_uint8 := Try.underlying23
abbrev t_A32_uint8 : Nat := 23
theorem sz_A32_uint8 : tsz P 23 = some (32, 32) := by kernel_rfl
theorem z_A32_uint8 : tzero P 23 = some (.agg (Array.replicate 32 (.int .u8 0))) := by kernel_rfl
def u_api_Key := Try.underlying24
abbrev t_api_Key : Nat := 24
theorem sz_api_Key : tsz P 24 = some (32, 32) := by kernel_rfl
theorem z_api_Key : tzero P 24 = some (.agg (Array.replicate 32 (.int .u8 0))) := by kernel_rfl
def u_S_api_Key := Try.underlying25
abbrev t_S_api_Key : Nat := 25
theorem sz_S_api_Key : tsz P 25 = some (1, 24) := by kernel_rfl
theorem z_S_api_Key : tzero P 25 = some (.slice none 0 0) := by kernel_rfl
def u_st26 := Try.underlying26
abbrev t_st26 : Nat := 26
theorem sz_st26 : tsz P 26 = some (34, 72) := by kernel_rfl
theorem z_st26 : tzero P 26 = some (.agg #[.int .u8 0, .int .u8 0, .int .u8 0, .int .u8 0, .int .u8 0, .int .u8 0, .int .u8 0, .int .u8 0, .int .u8 0, .int .u8 0, .int .u8 0, .int .u8 0, .int .u8 0, .int .u8 0, .int .u8 0, .int .u8 0, .int .u8 0, .int .u8 0, .int .u8 0, .int .u8 0, .int .u8 0, .int .u8 0, .int .u8 0, .int .u8 0, .int .u8 0, .int .u8 0, .int .u8 0, .int .u8 0, .int .u8 0, .int .u8 0, .int .u8 0, .int .u8 0, .slice none 0 0, .string ⟨#[]⟩]) := by kernel_rfl
def u_api_Commit := Try.underlying27
abbrev t_api_Commit : Nat := 27
theorem sz_api_Commit : tsz P 27 = some (34, 72) := by kernel_rfl
theorem pl_api_Commit : fplaces P 27 = some [(0, 32), (32, 1), (33, 1)] := by kernel_rfl
theorem z_api_Commit : tzero P 27 = some (.agg #[.int .u8 0, .int .u8 0, .int .u8 0, .int .u8 0, .int .u8 0, .int .u8 0, .int .u8 0, .int .u8 0, .int .u8 0, .int .u8 0, .int .u8 0, .int .u8 0, .int .u8 0, .int .u8 0, .int .u8 0, .int .u8 0, .int .u8 0, .int .u8 0, .int .u8 0, .int .u8 0, .int .u8 0, .int .u8 0, .int .u8 0, .int .u8 0, .int .u8 0, .int .u8 0, .int .u8 0, .int .u8 0, .int .u8 0, .int .u8 0, .int .u8 0, .int .u8 0, .slice none 0 0, .string ⟨#[]⟩]) := by kernel_rfl
def u_S_S_uint8 := Try.underlying31
abbrev t_S_S_uint8 : Nat := 31
theorem sz_S_S_uint8 : tsz P 31 = some (1, 24) := by kernel_rfl
theorem z_S_S_uint8 : tzero P 31 = some (.slice none 0 0) := by kernel_rfl
def u_api_Errno := Try.underlying32
abbrev t_api_Errno : Nat := 32
theorem sz_api_Errno : tsz P 32 = some (1, 8) := by kernel_rfl
theorem z_api_Errno : tzero P 32 = some (.int .i64 0) := by kernel_rfl
def u_uint16 := Try.underlying46
abbrev t_uint16 : Nat := 46
theorem sz_uint16 : tsz P 46 = some (1, 2) := by kernel_rfl
theorem z_uint16 : tzero P 46 = some (.int .u16 0) := by kernel_rfl
def u_p_digit_Eye := Try.underlying52
abbrev t_p_digit_Eye : Nat := 52
theorem sz_p_digit_Eye : tsz P 52 = some (1, 8) := by kernel_rfl
theorem z_p_digit_Eye : tzero P 52 = some (.pointer none) := by kernel_rfl
def u_p_digit_Pen := Try.underlying58
abbrev t_p_digit_Pen : Nat := 58
theorem sz_p_digit_Pen : tsz P 58 = some (1, 8) := by kernel_rfl
theorem z_p_digit_Pen : tzero P 58 = some (.pointer none) := by kernel_rfl
def u_st59 := Try.underlying59
abbrev t_st59 : Nat := 59
theorem sz_st59 : tsz P 59 = some (1, 24) := by kernel_rfl
theorem z_st59 : tzero P 59 = some (.agg #[.slice none 0 0]) := by kernel_rfl
def u_digit_Pen := Try.underlying60
abbrev t_digit_Pen : Nat := 60
theorem sz_digit_Pen : tsz P 60 = some (1, 24) := by kernel_rfl
theorem pl_digit_Pen : fplaces P 60 = some [(0, 1)] := by kernel_rfl
theorem z_digit_Pen : tzero P 60 = some (.agg #[.slice none 0 0]) := by kernel_rfl
def u_p_delta_maker := Try.underlying64
abbrev t_p_delta_maker : Nat := 64
theorem sz_p_delta_maker : tsz P 64 = some (1, 8) := by kernel_rfl
theorem z_p_delta_maker : tzero P 64 = some (.pointer none) := by kernel_rfl
def u_st65 := Try.underlying65
abbrev t_st65 : Nat := 65
theorem sz_st65 : tsz P 65 = some (2, 48) := by kernel_rfl
theorem z_st65 : tzero P 65 = some (.agg #[.slice none 0 0, .slice none 0 0]) := by kernel_rfl
def u_delta_maker := Try.underlying66
abbrev t_delta_maker : Nat := 66
theorem sz_delta_maker : tsz P 66 = some (2, 48) := by kernel_rfl
theorem pl_delta_maker : fplaces P 66 = some [(0, 1), (1, 1)] := by kernel_rfl
theorem z_delta_maker : tzero P 66 = some (.agg #[.slice none 0 0, .slice none 0 0]) := by kernel_rfl
def u_st71 := Try.underlying71
abbrev t_st71 : Nat := 71
theorem sz_st71 : tsz P 71 = some (2, 32) := by kernel_rfl
theorem z_st71 : tzero P 71 = some (.agg #[.slice none 0 0, .int .i64 0]) := by kernel_rfl
def u_digit_Eye := Try.underlying72
abbrev t_digit_Eye : Nat := 72
theorem sz_digit_Eye : tsz P 72 = some (2, 32) := by kernel_rfl
theorem pl_digit_Eye : fplaces P 72 = some [(0, 1), (1, 1)] := by kernel_rfl
theorem z_digit_Eye : tzero P 72 = some (.agg #[.slice none 0 0, .int .i64 0]) := by kernel_rfl
def u_uint64 := Try.underlying74
abbrev t_uint64 : Nat := 74
theorem sz_uint64 : tsz P 74 = some (1, 8) := by kernel_rfl
theorem z_uint64 : tzero P 74 = some (.int .u64 0) := by kernel_rfl
def u_uint := Try.underlying75
abbrev t_uint : Nat := 75
theorem sz_uint : tsz P 75 = some (1, 8) := by kernel_rfl
theorem z_uint : tzero P 75 = some (.int .u64 0) := by kernel_rfl
def u_uint32 := Try.underlying82
abbrev t_uint32 : Nat := 82
theorem sz_uint32 : tsz P 82 = some (1, 4) := by kernel_rfl
theorem z_uint32 : tzero P 82 = some (.int .u32 0) := by kernel_rfl
def u_p_uint8 := Try.underlying86
abbrev t_p_uint8 : Nat := 86
theorem sz_p_uint8 : tsz P 86 = some (1, 8) := by kernel_rfl
theorem z_p_uint8 : tzero P 86 = some (.pointer none) := by kernel_rfl
end Go.Proofs.K
