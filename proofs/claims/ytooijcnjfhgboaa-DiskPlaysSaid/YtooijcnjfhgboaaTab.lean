/- Facts on the functions and types of this cut, by stable names; each is checked by reckoning. -/
import Derived.Test.YtooijcnjfhgboaaProg
import Derived.Test.YtooijcnjfhgboaaSl
set_option linter.unusedVariables false
set_option linter.defProp false
namespace Go.Proofs.K
open Go.Sl
noncomputable abbrev P : Program := Try.prog
theorem mixed : P.follows .mixedOrders = true := by kernel_rfl
abbrev n_law04_DiskTwins : Nat := 3
theorem fn_law04_DiskTwins : P.funcs[3]? = some Try.f3 := Try.func3
theorem nt_law04_DiskTwins : Try.f3.ntmps = 97 := Try.ntmps3
theorem go_law04_DiskTwins : isGo P 3 = true := by kernel_rfl
abbrev n_law04_DiskMasks : Nat := 4
theorem fn_law04_DiskMasks : P.funcs[4]? = some Try.f4 := Try.func4
theorem nt_law04_DiskMasks : Try.f4.ntmps = 84 := Try.ntmps4
theorem go_law04_DiskMasks : isGo P 4 = true := by kernel_rfl
abbrev n_law04_DiskSafe : Nat := 5
theorem fn_law04_DiskSafe : P.funcs[5]? = some Try.f5 := Try.func5
theorem nt_law04_DiskSafe : Try.f5.ntmps = 74 := Try.ntmps5
theorem go_law04_DiskSafe : isGo P 5 = true := by kernel_rfl
abbrev n_law04_DiskArms : Nat := 6
theorem fn_law04_DiskArms : P.funcs[6]? = some Try.f6 := Try.func6
theorem nt_law04_DiskArms : Try.f6.ntmps = 72 := Try.ntmps6
theorem go_law04_DiskArms : isGo P 6 = true := by kernel_rfl
abbrev n_law04_DiskPlays : Nat := 7
theorem fn_law04_DiskPlays : P.funcs[7]? = some Try.f7 := Try.func7
theorem nt_law04_DiskPlays : Try.f7.ntmps = 305 := Try.ntmps7
theorem go_law04_DiskPlays : isGo P 7 = true := by kernel_rfl
abbrev n_law04_DiskNil : Nat := 8
theorem fn_law04_DiskNil : P.funcs[8]? = some Try.f8 := Try.func8
theorem nt_law04_DiskNil : Try.f8.ntmps = 77 := Try.ntmps8
theorem go_law04_DiskNil : isGo P 8 = true := by kernel_rfl
abbrev n_law04_awake : Nat := 9
theorem fn_law04_awake : P.funcs[9]? = some Try.f9 := Try.func9
theorem nt_law04_awake : Try.f9.ntmps = 52 := Try.ntmps9
theorem go_law04_awake : isGo P 9 = true := by kernel_rfl
abbrev n_disk_New : Nat := 10
theorem fn_disk_New : P.funcs[10]? = some Try.f10 := Try.func10
theorem nt_disk_New : Try.f10.ntmps = 9 := Try.ntmps10
theorem go_disk_New : isGo P 10 = true := by kernel_rfl
abbrev n_disk_Disk_Write : Nat := 11
theorem fn_disk_Disk_Write : P.funcs[11]? = some Try.f11 := Try.func11
theorem nt_disk_Disk_Write : Try.f11.ntmps = 49 := Try.ntmps11
theorem go_disk_Disk_Write : isGo P 11 = true := by kernel_rfl
abbrev n_disk_Disk_Twin : Nat := 12
theorem fn_disk_Disk_Twin : P.funcs[12]? = some Try.f12 := Try.func12
theorem nt_disk_Disk_Twin : Try.f12.ntmps = 21 := Try.ntmps12
theorem go_disk_Disk_Twin : isGo P 12 = true := by kernel_rfl
abbrev n_disk_Disk_Crash : Nat := 13
theorem fn_disk_Disk_Crash : P.funcs[13]? = some Try.f13 := Try.func13
theorem nt_disk_Disk_Crash : Try.f13.ntmps = 15 := Try.ntmps13
theorem go_disk_Disk_Crash : isGo P 13 = true := by kernel_rfl
abbrev n_disk_Disk_Read : Nat := 14
theorem fn_disk_Disk_Read : P.funcs[14]? = some Try.f14 := Try.func14
theorem nt_disk_Disk_Read : Try.f14.ntmps = 47 := Try.ntmps14
theorem go_disk_Disk_Read : isGo P 14 = true := by kernel_rfl
abbrev n_disk_Disk_Wet : Nat := 15
theorem fn_disk_Disk_Wet : P.funcs[15]? = some Try.f15 := Try.func15
theorem nt_disk_Disk_Wet : Try.f15.ntmps = 10 := Try.ntmps15
theorem go_disk_Disk_Wet : isGo P 15 = true := by kernel_rfl
abbrev n_disk_Disk_Flush : Nat := 16
theorem fn_disk_Disk_Flush : P.funcs[16]? = some Try.f16 := Try.func16
theorem nt_disk_Disk_Flush : Try.f16.ntmps = 12 := Try.ntmps16
theorem go_disk_Disk_Flush : isGo P 16 = true := by kernel_rfl
abbrev n_disk_Disk_Arm : Nat := 17
theorem fn_disk_Disk_Arm : P.funcs[17]? = some Try.f17 := Try.func17
theorem nt_disk_Disk_Arm : Try.f17.ntmps = 11 := Try.ntmps17
theorem go_disk_Disk_Arm : isGo P 17 = true := by kernel_rfl
abbrev n_disk_Disk_On : Nat := 18
theorem fn_disk_Disk_On : P.funcs[18]? = some Try.f18 := Try.func18
theorem nt_disk_Disk_On : Try.f18.ntmps = 12 := Try.ntmps18
theorem go_disk_Disk_On : isGo P 18 = true := by kernel_rfl
abbrev n_disk_Disk_Acts : Nat := 19
theorem fn_disk_Disk_Acts : P.funcs[19]? = some Try.f19 := Try.func19
theorem nt_disk_Disk_Acts : Try.f19.ntmps = 9 := Try.ntmps19
theorem go_disk_Disk_Acts : isGo P 19 = true := by kernel_rfl
abbrev n_disk_Disk_Sectors : Nat := 20
theorem fn_disk_Disk_Sectors : P.funcs[20]? = some Try.f20 := Try.func20
theorem nt_disk_Disk_Sectors : Try.f20.ntmps = 10 := Try.ntmps20
theorem go_disk_Disk_Sectors : isGo P 20 = true := by kernel_rfl
abbrev n_disk_Disk_act : Nat := 21
theorem fn_disk_Disk_act : P.funcs[21]? = some Try.f21 := Try.func21
theorem nt_disk_Disk_act : Try.f21.ntmps = 35 := Try.ntmps21
theorem go_disk_Disk_act : isGo P 21 = true := by kernel_rfl
abbrev n_disk_Disk_keep : Nat := 22
theorem fn_disk_Disk_keep : P.funcs[22]? = some Try.f22 := Try.func22
theorem nt_disk_Disk_keep : Try.f22.ntmps = 32 := Try.ntmps22
theorem go_disk_Disk_keep : isGo P 22 = true := by kernel_rfl
abbrev n_disk_Disk_Crash_1 : Nat := 23
theorem fn_disk_Disk_Crash_1 : P.funcs[23]? = some Try.f23 := Try.func23
theorem nt_disk_Disk_Crash_1 : Try.f23.ntmps = 22 := Try.ntmps23
theorem go_disk_Disk_Crash_1 : isGo P 23 = true := by kernel_rfl
abbrev n_disk_Disk_Flush_1 : Nat := 24
theorem fn_disk_Disk_Flush_1 : P.funcs[24]? = some Try.f24 := Try.func24
theorem nt_disk_Disk_Flush_1 : Try.f24.ntmps = 3 := Try.ntmps24
theorem go_disk_Disk_Flush_1 : isGo P 24 = true := by kernel_rfl
def u_int64 := Try.underlying2
abbrev t_int64 : Nat := 2
theorem sz_int64 : tsz P 2 = some (1, 8) := by kernel_rfl
theorem z_int64 : tzero P 2 = some (.int .i64 0) := by kernel_rfl
def u_int := Try.underlying3
abbrev t_int : Nat := 3
theorem sz_int : tsz P 3 = some (1, 8) := by kernel_rfl
theorem z_int : tzero P 3 = some (.int .i64 0) := by kernel_rfl
def u_bool := Try.underlying4
abbrev t_bool : Nat := 4
theorem sz_bool : tsz P 4 = some (1, 1) := by kernel_rfl
theorem z_bool : tzero P 4 = some (.bool false) := by kernel_rfl
def u_uint8 := Try.underlying5
abbrev t_uint8 : Nat := 5
theorem sz_uint8 : tsz P 5 = some (1, 1) := by kernel_rfl
theorem z_uint8 : tzero P 5 = some (.int .u8 0) := by kernel_rfl
def u_string := Try.underlying9
abbrev t_string : Nat := 9
theorem sz_string : tsz P 9 = some (1, 16) := by kernel_rfl
theorem z_string : tzero P 9 = some (.string ⟨#[]⟩) := by kernel_rfl
def u_uintptr := Try.underlying12
abbrev t_uintptr : Nat := 12
theorem sz_uintptr : tsz P 12 = some (1, 8) := by kernel_rfl
theorem z_uintptr : tzero P 12 = some (.int .u64 0) := by kernel_rfl
def u_st13 := Try.underlying13
abbrev t_st13 : Nat := 13
theorem sz_st13 : tsz P 13 = some (2, 24) := by kernel_rfl
theorem z_st13 : tzero P 13 = some (.agg #[.string ⟨#[]⟩, .int .u64 0]) := by kernel_rfl
def u_interface := Try.underlying20
abbrev t_interface : Nat := 20
theorem sz_interface : tsz P 20 = some (1, 16) := by kernel_rfl
theorem z_interface : tzero P 20 = some (.nilIface) := by kernel_rfl
def u_int32 := Try.underlying21
abbrev t_int32 : Nat := 21
theorem sz_int32 : tsz P 21 = some (1, 4) := by kernel_rfl
theorem z_int32 : tzero P 21 = some (.int .i32 0) := by kernel_rfl
def u_S_uint8 := Try.underlying22
abbrev t_S_uint8 : Nat := 22
theorem sz_S_uint8 : tsz P 22 = some (1, 24) := by kernel_rfl
theorem z_S_uint8 : tzero P 22 = some (.slice none 0 0) := by kernel_rfl
def u_p_disk_Disk := Try.underlying24
abbrev t_p_disk_Disk : Nat := 24
theorem sz_p_disk_Disk : tsz P 24 = some (1, 8) := by kernel_rfl
theorem z_p_disk_Disk : tzero P 24 = some (.pointer none) := by kernel_rfl
def u_api_Errno := Try.underlying26
abbrev t_api_Errno : Nat := 26
theorem sz_api_Errno : tsz P 26 = some (1, 8) := by kernel_rfl
theorem z_api_Errno : tzero P 26 = some (.int .i64 0) := by kernel_rfl
def u_S_interleaflaw04_Act := Try.underlying39
abbrev t_S_interleaflaw04_Act : Nat := 39
theorem sz_S_interleaflaw04_Act : tsz P 39 = some (1, 24) := by kernel_rfl
theorem z_S_interleaflaw04_Act : tzero P 39 = some (.slice none 0 0) := by kernel_rfl
def u_S_S_uint8 := Try.underlying40
abbrev t_S_S_uint8 : Nat := 40
theorem sz_S_S_uint8 : tsz P 40 = some (1, 24) := by kernel_rfl
theorem z_S_S_uint8 : tzero P 40 = some (.slice none 0 0) := by kernel_rfl
def u_S_int := Try.underlying41
abbrev t_S_int : Nat := 41
theorem sz_S_int : tsz P 41 = some (1, 24) := by kernel_rfl
theorem z_S_int : tzero P 41 = some (.slice none 0 0) := by kernel_rfl
def u_st42 := Try.underlying42
abbrev t_st42 : Nat := 42
theorem sz_st42 : tsz P 42 = some (3, 40) := by kernel_rfl
theorem z_st42 : tzero P 42 = some (.agg #[.int .u8 0, .int .i64 0, .slice none 0 0]) := by kernel_rfl
def u_interleaflaw04_Act := Try.underlying43
abbrev t_interleaflaw04_Act : Nat := 43
theorem sz_interleaflaw04_Act : tsz P 43 = some (3, 40) := by kernel_rfl
theorem pl_interleaflaw04_Act : fplaces P 43 = some [(0, 1), (1, 1), (2, 1)] := by kernel_rfl
theorem z_interleaflaw04_Act : tzero P 43 = some (.agg #[.int .u8 0, .int .i64 0, .slice none 0 0]) := by kernel_rfl
def u_S_A64_uint8 := Try.underlying46
abbrev t_S_A64_uint8 : Nat := 46
theorem sz_S_A64_uint8 : tsz P 46 = some (1, 24) := by kernel_rfl
theorem z_S_A64_uint8 : tzero P 46 = some (.slice none 0 0) := by kernel_rfl
def u_S_disk_write := Try.underlying47
abbrev t_S_disk_write : Nat := 47
theorem sz_S_disk_write : tsz P 47 = some (1, 24) := by kernel_rfl
theorem z_S_disk_write : tzero P 47 = some (.slice none 0 0) := by kernel_rfl
def u_st48 := Try.underlying48
abbrev t_st48 : Nat := 48
theorem sz_st48 : tsz P 48 = some (5, 72) := by kernel_rfl
theorem z_st48 : tzero P 48 = some (.agg #[.slice none 0 0, .slice none 0 0, .int .i64 0, .bool false, .int .i64 0]) := by kernel_rfl
def u_disk_Disk := Try.underlying49
abbrev t_disk_Disk : Nat := 49
theorem sz_disk_Disk : tsz P 49 = some (5, 72) := by kernel_rfl
theorem pl_disk_Disk : fplaces P 49 = some [(0, 1), (1, 1), (2, 1), (3, 1), (4, 1)] := by kernel_rfl
theorem z_disk_Disk : tzero P 49 = some (.agg #[.slice none 0 0, .slice none 0 0, .int .i64 0, .bool false, .int .i64 0]) := by kernel_rfl
def u_A64_uint8 := Try.underlying50
abbrev t_A64_uint8 : Nat := 50
theorem sz_A64_uint8 : tsz P 50 = some (64, 64) := by kernel_rfl
theorem z_A64_uint8 : tzero P 50 = some (.agg (Array.replicate 64 (.int .u8 0))) := by kernel_rfl
def u_st51 := Try.underlying51
abbrev t_st51 : Nat := 51
theorem sz_st51 : tsz P 51 = some (65, 72) := by kernel_rfl
theorem z_st51 : tzero P 51 = some (.agg #[.int .i64 0, .int .u8 0, .int .u8 0, .int .u8 0, .int .u8 0, .int .u8 0, .int .u8 0, .int .u8 0, .int .u8 0, .int .u8 0, .int .u8 0, .int .u8 0, .int .u8 0, .int .u8 0, .int .u8 0, .int .u8 0, .int .u8 0, .int .u8 0, .int .u8 0, .int .u8 0, .int .u8 0, .int .u8 0, .int .u8 0, .int .u8 0, .int .u8 0, .int .u8 0, .int .u8 0, .int .u8 0, .int .u8 0, .int .u8 0, .int .u8 0, .int .u8 0, .int .u8 0, .int .u8 0, .int .u8 0, .int .u8 0, .int .u8 0, .int .u8 0, .int .u8 0, .int .u8 0, .int .u8 0, .int .u8 0, .int .u8 0, .int .u8 0, .int .u8 0, .int .u8 0, .int .u8 0, .int .u8 0, .int .u8 0, .int .u8 0, .int .u8 0, .int .u8 0, .int .u8 0, .int .u8 0, .int .u8 0, .int .u8 0, .int .u8 0, .int .u8 0, .int .u8 0, .int .u8 0, .int .u8 0, .int .u8 0, .int .u8 0, .int .u8 0, .int .u8 0]) := by kernel_rfl
def u_disk_write := Try.underlying52
abbrev t_disk_write : Nat := 52
theorem sz_disk_write : tsz P 52 = some (65, 72) := by kernel_rfl
theorem pl_disk_write : fplaces P 52 = some [(0, 1), (1, 64)] := by kernel_rfl
theorem z_disk_write : tzero P 52 = some (.agg #[.int .i64 0, .int .u8 0, .int .u8 0, .int .u8 0, .int .u8 0, .int .u8 0, .int .u8 0, .int .u8 0, .int .u8 0, .int .u8 0, .int .u8 0, .int .u8 0, .int .u8 0, .int .u8 0, .int .u8 0, .int .u8 0, .int .u8 0, .int .u8 0, .int .u8 0, .int .u8 0, .int .u8 0, .int .u8 0, .int .u8 0, .int .u8 0, .int .u8 0, .int .u8 0, .int .u8 0, .int .u8 0, .int .u8 0, .int .u8 0, .int .u8 0, .int .u8 0, .int .u8 0, .int .u8 0, .int .u8 0, .int .u8 0, .int .u8 0, .int .u8 0, .int .u8 0, .int .u8 0, .int .u8 0, .int .u8 0, .int .u8 0, .int .u8 0, .int .u8 0, .int .u8 0, .int .u8 0, .int .u8 0, .int .u8 0, .int .u8 0, .int .u8 0, .int .u8 0, .int .u8 0, .int .u8 0, .int .u8 0, .int .u8 0, .int .u8 0, .int .u8 0, .int .u8 0, .int .u8 0, .int .u8 0, .int .u8 0, .int .u8 0, .int .u8 0, .int .u8 0]) := by kernel_rfl
def u_uint32 := Try.underlying61
abbrev t_uint32 : Nat := 61
theorem sz_uint32 : tsz P 61 = some (1, 4) := by kernel_rfl
theorem z_uint32 : tzero P 61 = some (.int .u32 0) := by kernel_rfl
def u_p_uint8 := Try.underlying65
abbrev t_p_uint8 : Nat := 65
theorem sz_p_uint8 : tsz P 65 = some (1, 8) := by kernel_rfl
theorem z_p_uint8 : tzero P 65 = some (.pointer none) := by kernel_rfl
end Go.Proofs.K
