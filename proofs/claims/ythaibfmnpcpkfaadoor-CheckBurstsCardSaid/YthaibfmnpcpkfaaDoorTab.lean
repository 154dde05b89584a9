/- Facts on the functions and types of this cut, by stable names; each is checked by reckoning. -/
import Derived.Test.YthaibfmnpcpkfaaDoorProg
import Derived.Test.YthaibfmnpcpkfaaDoorSl
set_option linter.unusedVariables false
set_option linter.defProp false
namespace Go.Proofs.K
open Go.Sl
noncomputable abbrev P : Program := Tryd.prog
theorem mixed : P.follows .mixedOrders = true := by kernel_rfl
abbrev n_law03_CheckOf : Nat := 3
theorem fn_law03_CheckOf : P.funcs[3]? = some Tryd.f3 := Tryd.func3
theorem nt_law03_CheckOf : Tryd.f3.ntmps = 16 := Tryd.ntmps3
theorem go_law03_CheckOf : isGo P 3 = true := by kernel_rfl
abbrev n_law03_CheckLines : Nat := 4
theorem fn_law03_CheckLines : P.funcs[4]? = some Tryd.f4 := Tryd.func4
theorem nt_law03_CheckLines : Tryd.f4.ntmps = 68 := Tryd.ntmps4
theorem go_law03_CheckLines : isGo P 4 = true := by kernel_rfl
abbrev n_law03_CheckNumbers : Nat := 5
theorem fn_law03_CheckNumbers : P.funcs[5]? = some Tryd.f5 := Tryd.func5
theorem nt_law03_CheckNumbers : Tryd.f5.ntmps = 58 := Tryd.ntmps5
theorem go_law03_CheckNumbers : isGo P 5 = true := by kernel_rfl
abbrev n_law03_CheckSeals : Nat := 6
theorem fn_law03_CheckSeals : P.funcs[6]? = some Tryd.f6 := Tryd.func6
theorem nt_law03_CheckSeals : Tryd.f6.ntmps = 40 := Tryd.ntmps6
theorem go_law03_CheckSeals : isGo P 6 = true := by kernel_rfl
abbrev n_law03_CheckOpens : Nat := 7
theorem fn_law03_CheckOpens : P.funcs[7]? = some Tryd.f7 := Tryd.func7
theorem nt_law03_CheckOpens : Tryd.f7.ntmps = 92 := Tryd.ntmps7
theorem go_law03_CheckOpens : isGo P 7 = true := by kernel_rfl
abbrev n_law03_CheckBursts : Nat := 8
theorem fn_law03_CheckBursts : P.funcs[8]? = some Tryd.f8 := Tryd.func8
theorem nt_law03_CheckBursts : Tryd.f8.ntmps = 69 := Tryd.ntmps8
theorem go_law03_CheckBursts : isGo P 8 = true := by kernel_rfl
abbrev n_law03_awake : Nat := 9
theorem fn_law03_awake : P.funcs[9]? = some Tryd.f9 := Tryd.func9
theorem nt_law03_awake : Tryd.f9.ntmps = 7 := Tryd.ntmps9
theorem go_law03_awake : isGo P 9 = true := by kernel_rfl
abbrev n_check_Of : Nat := 10
theorem fn_check_Of : P.funcs[10]? = some Tryd.f10 := Tryd.func10
theorem nt_check_Of : Tryd.f10.ntmps = 36 := Tryd.ntmps10
theorem go_check_Of : isGo P 10 = true := by kernel_rfl
abbrev n_ref01_Sum : Nat := 11
theorem fn_ref01_Sum : P.funcs[11]? = some Tryd.f11 := Tryd.func11
theorem nt_ref01_Sum : Tryd.f11.ntmps = 34 := Tryd.ntmps11
theorem go_ref01_Sum : isGo P 11 = true := by kernel_rfl
abbrev n_check_Four : Nat := 12
theorem fn_check_Four : P.funcs[12]? = some Tryd.f12 := Tryd.func12
theorem nt_check_Four : Tryd.f12.ntmps = 15 := Tryd.ntmps12
theorem go_check_Four : isGo P 12 = true := by kernel_rfl
abbrev n_ref01_Four : Nat := 13
theorem fn_ref01_Four : P.funcs[13]? = some Tryd.f13 := Tryd.func13
theorem nt_ref01_Four : Tryd.f13.ntmps = 15 := Tryd.ntmps13
theorem go_ref01_Four : isGo P 13 = true := by kernel_rfl
abbrev n_check_Number : Nat := 14
theorem fn_check_Number : P.funcs[14]? = some Tryd.f14 := Tryd.func14
theorem nt_check_Number : Tryd.f14.ntmps = 24 := Tryd.ntmps14
theorem go_check_Number : isGo P 14 = true := by kernel_rfl
abbrev n_check_Seal : Nat := 15
theorem fn_check_Seal : P.funcs[15]? = some Tryd.f15 := Tryd.func15
theorem nt_check_Seal : Tryd.f15.ntmps = 25 := Tryd.ntmps15
theorem go_check_Seal : isGo P 15 = true := by kernel_rfl
abbrev n_check_Open : Nat := 16
theorem fn_check_Open : P.funcs[16]? = some Tryd.f16 := Tryd.func16
theorem nt_check_Open : Tryd.f16.ntmps = 18 := Tryd.ntmps16
theorem go_check_Open : isGo P 16 = true := by kernel_rfl
abbrev n_ref01_Seal : Nat := 17
theorem fn_ref01_Seal : P.funcs[17]? = some Tryd.f17 := Tryd.func17
theorem nt_ref01_Seal : Tryd.f17.ntmps = 28 := Tryd.ntmps17
theorem go_ref01_Seal : isGo P 17 = true := by kernel_rfl
abbrev g_check_lines : Nat := 0
def u_int64 := Tryd.underlying2
abbrev t_int64 : Nat := 2
theorem sz_int64 : tsz P 2 = some (1, 8) := by kernel_rfl
theorem z_int64 : tzero P 2 = some (.int .i64 0) := by kernel_rfl
def u_int := Tryd.underlying3
abbrev t_int : Nat := 3
theorem sz_int : tsz P 3 = some (1, 8) := by kernel_rfl
theorem z_int : tzero P 3 = some (.int .i64 0) := by kernel_rfl
def u_bool := Tryd.underlying4
abbrev t_bool : Nat := 4
theorem sz_bool : tsz P 4 = some (1, 1) := by kernel_rfl
theorem z_bool : tzero P 4 = some (.bool false) := by kernel_rfl
def u_uint8 := Tryd.underlying5
abbrev t_uint8 : Nat := 5
theorem sz_uint8 : tsz P 5 = some (1, 1) := by kernel_rfl
theorem z_uint8 : tzero P 5 = some (.int .u8 0) := by kernel_rfl
def u_string := Tryd.underlying9
abbrev t_string : Nat := 9
theorem sz_string : tsz P 9 = some (1, 16) := by kernel_rfl
theorem z_string : tzero P 9 = some (.string ⟨#[]⟩) := by kernel_rfl
def u_uintptr := Tryd.underlying12
abbrev t_uintptr : Nat := 12
theorem sz_uintptr : tsz P 12 = some (1, 8) := by kernel_rfl
theorem z_uintptr : tzero P 12 = some (.int .u64 0) := by kernel_rfl
def u_st13 := Tryd.underlying13
abbrev t_st13 : Nat := 13
theorem sz_st13 : tsz P 13 = some (2, 24) := by kernel_rfl
theorem z_st13 : tzero P 13 = some (.agg #[.string ⟨#[]⟩, .int .u64 0]) := by kernel_rfl
def u_interface := Tryd.underlying20
abbrev t_interface : Nat := 20
theorem sz_interface : tsz P 20 = some (1, 16) := by kernel_rfl
theorem z_interface : tzero P 20 = some (.nilIface) := by kernel_rfl
def u_int32 := Tryd.underlying21
abbrev t_int32 : Nat := 21
theorem sz_int32 : tsz P 21 = some (1, 4) := by kernel_rfl
theorem z_int32 : tzero P 21 = some (.int .i32 0) := by kernel_rfl
def u_S_uint8 := Tryd.underlying22
abbrev t_S_uint8 : Nat := 22
theorem sz_S_uint8 : tsz P 22 = some (1, 24) := by kernel_rfl
theorem z_S_uint8 : tzero P 22 = some (.slice none 0 0) := by kernel_rfl
def u_uint32 := Tryd.underlying24
abbrev t_uint32 : Nat := 24
theorem sz_uint32 : tsz P 24 = some (1, 4) := by kernel_rfl
theorem z_uint32 : tzero P 24 = some (.int .u32 0) := by kernel_rfl
def u_S_S_uint8 := Tryd.underlying35
abbrev t_S_S_uint8 : Nat := 35
theorem sz_S_S_uint8 : tsz P 35 = some (1, 24) := by kernel_rfl
theorem z_S_S_uint8 : tzero P 35 = some (.slice none 0 0) := by kernel_rfl
def u_uint16 := Tryd.underlying37
abbrev t_uint16 : Nat := 37
theorem sz_uint16 : tsz P 37 = some (1, 2) := by kernel_rfl
theorem z_uint16 : tzero P 37 = some (.int .u16 0) := by kernel_rfl
def u_A16_uint32 := Tryd.underlying39
abbrev t_A16_uint32 : Nat := 39
theorem sz_A16_uint32 : tsz P 39 = some (16, 64) := by kernel_rfl
theorem z_A16_uint32 : tzero P 39 = some (.agg (Array.replicate 16 (.int .u32 0))) := by kernel_rfl
def u_uint := Tryd.underlying40
abbrev t_uint : Nat := 40
theorem sz_uint : tsz P 40 = some (1, 8) := by kernel_rfl
theorem z_uint : tzero P 40 = some (.int .u64 0) := by kernel_rfl
def u_p_uint8 := Tryd.underlying51
abbrev t_p_uint8 : Nat := 51
theorem sz_p_uint8 : tsz P 51 = some (1, 8) := by kernel_rfl
theorem z_p_uint8 : tzero P 51 = some (.pointer none) := by kernel_rfl
end Go.Proofs.K
