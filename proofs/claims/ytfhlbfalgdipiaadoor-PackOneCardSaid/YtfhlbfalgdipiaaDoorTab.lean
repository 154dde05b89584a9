/- Facts on the functions and types of this cut, by stable names; each is checked by reckoning. -/
import Derived.Test.YtfhlbfalgdipiaaDoorProg
import Derived.Test.YtfhlbfalgdipiaaDoorSl
set_option linter.unusedVariables false
set_option linter.defProp false
namespace Go.Proofs.K
open Go.Sl
noncomputable abbrev P : Program := Tryd.prog
theorem mixed : P.follows .mixedOrders = true := by kernel_rfl
abbrev n_law16_PackObjects : Nat := 3
theorem fn_law16_PackObjects : P.funcs[3]? = some Tryd.f3 := Tryd.func3
theorem nt_law16_PackObjects : Tryd.f3.ntmps = 111 := Tryd.ntmps3
theorem go_law16_PackObjects : isGo P 3 = true := by kernel_rfl
abbrev n_law16_PackReads : Nat := 4
theorem fn_law16_PackReads : P.funcs[4]? = some Tryd.f4 := Tryd.func4
theorem nt_law16_PackReads : Tryd.f4.ntmps = 134 := Tryd.ntmps4
theorem go_law16_PackReads : isGo P 4 = true := by kernel_rfl
abbrev n_law16_PackErrs : Nat := 5
theorem fn_law16_PackErrs : P.funcs[5]? = some Tryd.f5 := Tryd.func5
theorem nt_law16_PackErrs : Tryd.f5.ntmps = 120 := Tryd.ntmps5
theorem go_law16_PackErrs : isGo P 5 = true := by kernel_rfl
abbrev n_law16_PackOne : Nat := 6
theorem fn_law16_PackOne : P.funcs[6]? = some Tryd.f6 := Tryd.func6
theorem nt_law16_PackOne : Tryd.f6.ntmps = 48 := Tryd.ntmps6
theorem go_law16_PackOne : isGo P 6 = true := by kernel_rfl
abbrev n_law16_awake : Nat := 7
theorem fn_law16_awake : P.funcs[7]? = some Tryd.f7 := Tryd.func7
theorem nt_law16_awake : Tryd.f7.ntmps = 40 := Tryd.ntmps7
theorem go_law16_awake : isGo P 7 = true := by kernel_rfl
abbrev n_pack_Encode : Nat := 8
theorem fn_pack_Encode : P.funcs[8]? = some Tryd.f8 := Tryd.func8
theorem nt_pack_Encode : Tryd.f8.ntmps = 92 := Tryd.ntmps8
theorem go_pack_Encode : isGo P 8 = true := by kernel_rfl
abbrev n_pack_Decode : Nat := 9
theorem fn_pack_Decode : P.funcs[9]? = some Tryd.f9 := Tryd.func9
theorem nt_pack_Decode : Tryd.f9.ntmps = 60 := Tryd.ntmps9
theorem go_pack_Decode : isGo P 9 = true := by kernel_rfl
abbrev n_ref15_Sorted : Nat := 10
theorem fn_ref15_Sorted : P.funcs[10]? = some Tryd.f10 := Tryd.func10
theorem nt_ref15_Sorted : Tryd.f10.ntmps = 74 := Tryd.ntmps10
theorem go_ref15_Sorted : isGo P 10 = true := by kernel_rfl
abbrev n_ref15_Pack : Nat := 11
theorem fn_ref15_Pack : P.funcs[11]? = some Tryd.f11 := Tryd.func11
theorem nt_ref15_Pack : Tryd.f11.ntmps = 76 := Tryd.ntmps11
theorem go_ref15_Pack : isGo P 11 = true := by kernel_rfl
abbrev n_ref01_Four : Nat := 12
theorem fn_ref01_Four : P.funcs[12]? = some Tryd.f12 := Tryd.func12
theorem nt_ref01_Four : Tryd.f12.ntmps = 15 := Tryd.ntmps12
theorem go_ref01_Four : isGo P 12 = true := by kernel_rfl
abbrev n_ref01_Sum : Nat := 13
theorem fn_ref01_Sum : P.funcs[13]? = some Tryd.f13 := Tryd.func13
theorem nt_ref01_Sum : Tryd.f13.ntmps = 34 := Tryd.ntmps13
theorem go_ref01_Sum : isGo P 13 = true := by kernel_rfl
abbrev n_ref01_Num : Nat := 14
theorem fn_ref01_Num : P.funcs[14]? = some Tryd.f14 := Tryd.func14
theorem nt_ref01_Num : Tryd.f14.ntmps = 20 := Tryd.ntmps14
theorem go_ref01_Num : isGo P 14 = true := by kernel_rfl
abbrev n_pack_sorted : Nat := 15
theorem fn_pack_sorted : P.funcs[15]? = some Tryd.f15 := Tryd.func15
theorem nt_pack_sorted : Tryd.f15.ntmps = 24 := Tryd.ntmps15
theorem go_pack_sorted : isGo P 15 = true := by kernel_rfl
abbrev n_digit_Pen_Raw : Nat := 16
theorem fn_digit_Pen_Raw : P.funcs[16]? = some Tryd.f16 := Tryd.func16
theorem nt_digit_Pen_Raw : Tryd.f16.ntmps = 15 := Tryd.ntmps16
theorem go_digit_Pen_Raw : isGo P 16 = true := by kernel_rfl
abbrev n_digit_Pen_Num : Nat := 17
theorem fn_digit_Pen_Num : P.funcs[17]? = some Tryd.f17 := Tryd.func17
theorem nt_digit_Pen_Num : Tryd.f17.ntmps = 37 := Tryd.ntmps17
theorem go_digit_Pen_Num : isGo P 17 = true := by kernel_rfl
abbrev n_delta_Make : Nat := 18
theorem fn_delta_Make : P.funcs[18]? = some Tryd.f18 := Tryd.func18
theorem nt_delta_Make : Tryd.f18.ntmps = 56 := Tryd.ntmps18
theorem go_delta_Make : isGo P 18 = true := by kernel_rfl
abbrev n_check_Four : Nat := 19
theorem fn_check_Four : P.funcs[19]? = some Tryd.f19 := Tryd.func19
theorem nt_check_Four : Tryd.f19.ntmps = 15 := Tryd.ntmps19
theorem go_check_Four : isGo P 19 = true := by kernel_rfl
abbrev n_check_Of : Nat := 20
theorem fn_check_Of : P.funcs[20]? = some Tryd.f20 := Tryd.func20
theorem nt_check_Of : Tryd.f20.ntmps = 36 := Tryd.ntmps20
theorem go_check_Of : isGo P 20 = true := by kernel_rfl
abbrev n_digit_NewEye : Nat := 21
theorem fn_digit_NewEye : P.funcs[21]? = some Tryd.f21 := Tryd.func21
theorem nt_digit_NewEye : Tryd.f21.ntmps = 7 := Tryd.ntmps21
theorem go_digit_NewEye : isGo P 21 = true := by kernel_rfl
abbrev n_digit_Eye_Raw : Nat := 22
theorem fn_digit_Eye_Raw : P.funcs[22]? = some Tryd.f22 := Tryd.func22
theorem nt_digit_Eye_Raw : Tryd.f22.ntmps = 45 := Tryd.ntmps22
theorem go_digit_Eye_Raw : isGo P 22 = true := by kernel_rfl
abbrev n_pack_read : Nat := 23
theorem fn_pack_read : P.funcs[23]? = some Tryd.f23 := Tryd.func23
theorem nt_pack_read : Tryd.f23.ntmps = 54 := Tryd.ntmps23
theorem go_pack_read : isGo P 23 = true := by kernel_rfl
abbrev n_ref01_Stamp : Nat := 24
theorem fn_ref01_Stamp : P.funcs[24]? = some Tryd.f24 := Tryd.func24
theorem nt_ref01_Stamp : Tryd.f24.ntmps = 284 := Tryd.ntmps24
theorem go_ref01_Stamp : isGo P 24 = true := by kernel_rfl
abbrev n_ref15_Delta : Nat := 25
theorem fn_ref15_Delta : P.funcs[25]? = some Tryd.f25 := Tryd.func25
theorem nt_ref15_Delta : Tryd.f25.ntmps = 67 := Tryd.ntmps25
theorem go_ref15_Delta : isGo P 25 = true := by kernel_rfl
abbrev n_stamp_Of : Nat := 26
theorem fn_stamp_Of : P.funcs[26]? = some Tryd.f26 := Tryd.func26
theorem nt_stamp_Of : Tryd.f26.ntmps = 81 := Tryd.ntmps26
theorem go_stamp_Of : isGo P 26 = true := by kernel_rfl
abbrev n_slices_SortStableFunc_pack_item_pack_item : Nat := 27
theorem fn_slices_SortStableFunc_pack_item_pack_item : P.funcs[27]? = some Tryd.f27 := Tryd.func27
theorem nt_slices_SortStableFunc_pack_item_pack_item : Tryd.f27.ntmps = 9 := Tryd.ntmps27
theorem go_slices_SortStableFunc_pack_item_pack_item : isGo P 27 = true := by kernel_rfl
abbrev n_pack_sorted_1 : Nat := 28
theorem fn_pack_sorted_1 : P.funcs[28]? = some Tryd.f28 := Tryd.func28
theorem nt_pack_sorted_1 : Tryd.f28.ntmps = 10 := Tryd.ntmps28
theorem go_pack_sorted_1 : isGo P 28 = true := by kernel_rfl
abbrev n_slices_Compare_byte_byte : Nat := 29
theorem fn_slices_Compare_byte_byte : P.funcs[29]? = some Tryd.f29 := Tryd.func29
theorem nt_slices_Compare_byte_byte : Tryd.f29.ntmps = 36 := Tryd.ntmps29
theorem go_slices_Compare_byte_byte : isGo P 29 = true := by kernel_rfl
abbrev n_slices_CompactFunc_pack_item_pack_item : Nat := 30
theorem fn_slices_CompactFunc_pack_item_pack_item : P.funcs[30]? = some Tryd.f30 := Tryd.func30
theorem nt_slices_CompactFunc_pack_item_pack_item : Tryd.f30.ntmps = 66 := Tryd.ntmps30
theorem go_slices_CompactFunc_pack_item_pack_item : isGo P 30 = true := by kernel_rfl
abbrev n_pack_sorted_2 : Nat := 31
theorem fn_pack_sorted_2 : P.funcs[31]? = some Tryd.f31 := Tryd.func31
theorem nt_pack_sorted_2 : Tryd.f31.ntmps = 10 := Tryd.ntmps31
theorem go_pack_sorted_2 : isGo P 31 = true := by kernel_rfl
abbrev n_delta_longest : Nat := 32
theorem fn_delta_longest : P.funcs[32]? = some Tryd.f32 := Tryd.func32
theorem nt_delta_longest : Tryd.f32.ntmps = 50 := Tryd.ntmps32
theorem go_delta_longest : isGo P 32 = true := by kernel_rfl
abbrev n_delta_maker_tell : Nat := 33
theorem fn_delta_maker_tell : P.funcs[33]? = some Tryd.f33 := Tryd.func33
theorem nt_delta_maker_tell : Tryd.f33.ntmps = 26 := Tryd.ntmps33
theorem go_delta_maker_tell : isGo P 33 = true := by kernel_rfl
abbrev n_digit_Eye_fail : Nat := 34
theorem fn_digit_Eye_fail : P.funcs[34]? = some Tryd.f34 := Tryd.func34
theorem nt_digit_Eye_fail : Tryd.f34.ntmps = 16 := Tryd.ntmps34
theorem go_digit_Eye_fail : isGo P 34 = true := by kernel_rfl
abbrev n_digit_Eye_Num : Nat := 35
theorem fn_digit_Eye_Num : P.funcs[35]? = some Tryd.f35 := Tryd.func35
theorem nt_digit_Eye_Num : Tryd.f35.ntmps = 71 := Tryd.ntmps35
theorem go_digit_Eye_Num : isGo P 35 = true := by kernel_rfl
abbrev n_delta_Apply : Nat := 36
theorem fn_delta_Apply : P.funcs[36]? = some Tryd.f36 := Tryd.func36
theorem nt_delta_Apply : Tryd.f36.ntmps = 73 := Tryd.ntmps36
theorem go_delta_Apply : isGo P 36 = true := by kernel_rfl
abbrev n_digit_Eye_Fault : Nat := 37
theorem fn_digit_Eye_Fault : P.funcs[37]? = some Tryd.f37 := Tryd.func37
theorem nt_digit_Eye_Fault : Tryd.f37.ntmps = 9 := Tryd.ntmps37
theorem go_digit_Eye_Fault : isGo P 37 = true := by kernel_rfl
abbrev n_digit_Eye_End : Nat := 38
theorem fn_digit_Eye_End : P.funcs[38]? = some Tryd.f38 := Tryd.func38
theorem nt_digit_Eye_End : Tryd.f38.ntmps = 13 := Tryd.ntmps38
theorem go_digit_Eye_End : isGo P 38 = true := by kernel_rfl
abbrev n_ref01_turn : Nat := 39
theorem fn_ref01_turn : P.funcs[39]? = some Tryd.f39 := Tryd.func39
theorem nt_ref01_turn : Tryd.f39.ntmps = 13 := Tryd.ntmps39
theorem go_ref01_turn : isGo P 39 = true := by kernel_rfl
abbrev n_ref15_piece : Nat := 40
theorem fn_ref15_piece : P.funcs[40]? = some Tryd.f40 := Tryd.func40
theorem nt_ref15_piece : Tryd.f40.ntmps = 36 := Tryd.ntmps40
theorem go_ref15_piece : isGo P 40 = true := by kernel_rfl
abbrev n_stamp_block : Nat := 41
theorem fn_stamp_block : P.funcs[41]? = some Tryd.f41 := Tryd.func41
theorem nt_stamp_block : Tryd.f41.ntmps = 199 := Tryd.ntmps41
theorem go_stamp_block : isGo P 41 = true := by kernel_rfl
abbrev n_slices_stableCmpFunc_pack_item : Nat := 42
theorem fn_slices_stableCmpFunc_pack_item : P.funcs[42]? = some Tryd.f42 := Tryd.func42
theorem nt_slices_stableCmpFunc_pack_item : Tryd.f42.ntmps = 63 := Tryd.ntmps42
theorem go_slices_stableCmpFunc_pack_item : isGo P 42 = true := by kernel_rfl
abbrev n_cmp_Compare_byte : Nat := 43
theorem fn_cmp_Compare_byte : P.funcs[43]? = some Tryd.f43 := Tryd.func43
theorem nt_cmp_Compare_byte : Tryd.f43.ntmps = 20 := Tryd.ntmps43
theorem go_cmp_Compare_byte : isGo P 43 = true := by kernel_rfl
abbrev n_digit_Eye_Left : Nat := 44
theorem fn_digit_Eye_Left : P.funcs[44]? = some Tryd.f44 := Tryd.func44
theorem nt_digit_Eye_Left : Tryd.f44.ntmps = 10 := Tryd.ntmps44
theorem go_digit_Eye_Left : isGo P 44 = true := by kernel_rfl
abbrev n_bytes_Equal : Nat := 45
theorem fn_bytes_Equal : P.funcs[45]? = some Tryd.f45 := Tryd.func45
theorem nt_bytes_Equal : Tryd.f45.ntmps = 10 := Tryd.ntmps45
theorem go_bytes_Equal : isGo P 45 = true := by kernel_rfl
abbrev n_math_bits_RotateLeft32 : Nat := 46
theorem fn_math_bits_RotateLeft32 : P.funcs[46]? = some Tryd.f46 := Tryd.func46
theorem nt_math_bits_RotateLeft32 : Tryd.f46.ntmps = 17 := Tryd.ntmps46
theorem go_math_bits_RotateLeft32 : isGo P 46 = true := by kernel_rfl
abbrev n_slices_insertionSortCmpFunc_pack_item : Nat := 47
theorem fn_slices_insertionSortCmpFunc_pack_item : P.funcs[47]? = some Tryd.f47 := Tryd.func47
theorem nt_slices_insertionSortCmpFunc_pack_item : Tryd.f47.ntmps = 53 := Tryd.ntmps47
theorem go_slices_insertionSortCmpFunc_pack_item : isGo P 47 = true := by kernel_rfl
abbrev n_slices_symMergeCmpFunc_pack_item : Nat := 48
theorem fn_slices_symMergeCmpFunc_pack_item : P.funcs[48]? = some Tryd.f48 := Tryd.func48
theorem nt_slices_symMergeCmpFunc_pack_item : Tryd.f48.ntmps = 220 := Tryd.ntmps48
theorem go_slices_symMergeCmpFunc_pack_item : isGo P 48 = true := by kernel_rfl
abbrev n_cmp_isNaN_byte : Nat := 49
theorem fn_cmp_isNaN_byte : P.funcs[49]? = some Tryd.f49 := Tryd.func49
theorem nt_cmp_isNaN_byte : Tryd.f49.ntmps = 6 := Tryd.ntmps49
theorem go_cmp_isNaN_byte : isGo P 49 = true := by kernel_rfl
abbrev n_slices_rotateCmpFunc_pack_item : Nat := 50
theorem fn_slices_rotateCmpFunc_pack_item : P.funcs[50]? = some Tryd.f50 := Tryd.func50
theorem nt_slices_rotateCmpFunc_pack_item : Tryd.f50.ntmps = 58 := Tryd.ntmps50
theorem go_slices_rotateCmpFunc_pack_item : isGo P 50 = true := by kernel_rfl
abbrev n_slices_swapRangeCmpFunc_pack_item : Nat := 51
theorem fn_slices_swapRangeCmpFunc_pack_item : P.funcs[51]? = some Tryd.f51 := Tryd.func51
theorem nt_slices_swapRangeCmpFunc_pack_item : Tryd.f51.ntmps = 38 := Tryd.ntmps51
theorem go_slices_swapRangeCmpFunc_pack_item : isGo P 51 = true := by kernel_rfl
abbrev g_check_lines : Nat := 0
abbrev g_stamp_first : Nat := 1
abbrev g_stamp_parts : Nat := 2
def u_int64 := Tryd.underlying2
abbrev t_int64 : Nat := 2
theorem sz_int64 : tsz P 2 = some (1, 8) := by kernel_rfl
theorem z_int64 : tzero P 2 = some (.int .i64 0) := by kernel_rfl
def u_int := Tryd.underlying3
abbrev t_int : Nat := 3
theorem sz_int : tsz P 3 = some (1, 8) := by kernel_rfl
theorem z_int : tzero P 3 = some (.int .i64 0) := by kernel_rfl
def u_bool := Tryd.underlying4
abbrev t_bool : Nat := 4
theorem sz_bool : tsz P 4 = some (1, 1) := by kernel_rfl
theorem z_bool : tzero P 4 = some (.bool false) := by kernel_rfl
def u_uint8 := Tryd.underlying5
abbrev t_uint8 : Nat := 5
theorem sz_uint8 : tsz P 5 = some (1, 1) := by kernel_rfl
theorem z_uint8 : tzero P 5 = some (.int .u8 0) := by kernel_rfl
def u_string := Tryd.underlying9
abbrev t_string : Nat := 9
theorem sz_string : tsz P 9 = some (1, 16) := by kernel_rfl
theorem z_string : tzero P 9 = some (.string ⟨#[]⟩) := by kernel_rfl
def u_uintptr := Tryd.underlying12
abbrev t_uintptr : Nat := 12
theorem sz_uintptr : tsz P 12 = some (1, 8) := by kernel_rfl
theorem z_uintptr : tzero P 12 = some (.int .u64 0) := by kernel_rfl
def u_st13 := Tryd.underlying13
abbrev t_st13 : Nat := 13
theorem sz_st13 : tsz P 13 = some (2, 24) := by kernel_rfl
theorem z_st13 : tzero P 13 = some (.agg #[.string ⟨#[]⟩, .int .u64 0]) := by kernel_rfl
def u_interface := Tryd.underlying20
abbrev t_interface : Nat := 20
theorem sz_interface : tsz P 20 = some (1, 16) := by kernel_rfl
theorem z_interface : tzero P 20 = some (.nilIface) := by kernel_rfl
def u_int32 := Tryd.underlying21
abbrev t_int32 : Nat := 21
theorem sz_int32 : tsz P 21 = some (1, 4) := by kernel_rfl
theorem z_int32 : tzero P 21 = some (.int .i32 0) := by kernel_rfl
def u_S_S_uint8 := Tryd.underlying22
abbrev t_S_S_uint8 : Nat := 22
theorem sz_S_S_uint8 : tsz P 22 = some (1, 24) := by kernel_rfl
theorem z_S_S_uint8 : tzero P 22 = some (.slice none 0 0) := by kernel_rfl
def u_S_uint8 := Tryd.underlying24
abbrev t_S_uint8 : Nat := 24
theorem sz_S_uint8 : tsz P 24 = some (1, 24) := by kernel_rfl
theorem z_S_uint8 : tzero P 24 = some (.slice none 0 0) := by kernel_rfl
def u_api_Errno := Tryd.underlying25
abbrev t_api_Errno : Nat := 25
theorem sz_api_Errno : tsz P 25 = some (1, 8) := by kernel_rfl
theorem z_api_Errno : tzero P 25 = some (.int .i64 0) := by kernel_rfl
def u_uint16 := Tryd.underlying33
abbrev t_uint16 : Nat := 33
theorem sz_uint16 : tsz P 33 = some (1, 2) := by kernel_rfl
theorem z_uint16 : tzero P 33 = some (.int .u16 0) := by kernel_rfl
def u_uint32 := Tryd.underlying35
abbrev t_uint32 : Nat := 35
theorem sz_uint32 : tsz P 35 = some (1, 4) := by kernel_rfl
theorem z_uint32 : tzero P 35 = some (.int .u32 0) := by kernel_rfl
def u_S_pack_item := Tryd.underlying41
abbrev t_S_pack_item : Nat := 41
theorem sz_S_pack_item : tsz P 41 = some (1, 24) := by kernel_rfl
theorem z_S_pack_item : tzero P 41 = some (.slice none 0 0) := by kernel_rfl
def u_p_digit_Pen := Tryd.underlying43
abbrev t_p_digit_Pen : Nat := 43
theorem sz_p_digit_Pen : tsz P 43 = some (1, 8) := by kernel_rfl
theorem z_p_digit_Pen : tzero P 43 = some (.pointer none) := by kernel_rfl
def u_st44 := Tryd.underlying44
abbrev t_st44 : Nat := 44
theorem sz_st44 : tsz P 44 = some (1, 24) := by kernel_rfl
theorem z_st44 : tzero P 44 = some (.agg #[.slice none 0 0]) := by kernel_rfl
def u_digit_Pen := Tryd.underlying45
abbrev t_digit_Pen : Nat := 45
theorem sz_digit_Pen : tsz P 45 = some (1, 24) := by kernel_rfl
theorem pl_digit_Pen : fplaces P 45 = some [(0, 1)] := by kernel_rfl
theorem z_digit_Pen : tzero P 45 = some (.agg #[.slice none 0 0]) := by kernel_rfl
def u_A32_uint8 := Tryd.underlying48
abbrev t_A32_uint8 : Nat := 48
theorem sz_A32_uint8 : tsz P 48 = some (32, 32) := by kernel_rfl
theorem z_A32_uint8 : tzero P 48 = some (.agg (Array.replicate 32 (.int .u8 0))) := by kernel_rfl
def u_api_Key := Tryd.underlying49
abbrev t_api_Key : Nat := 49
theorem sz_api_Key : tsz P 49 = some (32, 32) := by kernel_rfl
theorem z_api_Key : tzero P 49 = some (.agg (Array.replicate 32 (.int .u8 0))) := by kernel_rfl
def u_st50 := Tryd.underlying50
abbrev t_st50 : Nat := 50
theorem sz_st50 : tsz P 50 = some (33, 56) := by kernel_rfl
theorem z_st50 : tzero P 50 = some (.agg #[.int .u8 0, .int .u8 0, .int .u8 0, .int .u8 0, .int .u8 0, .int .u8 0, .int .u8 0, .int .u8 0, .int .u8 0, .int .u8 0, .int .u8 0, .int .u8 0, .int .u8 0, .int .u8 0, .int .u8 0, .int .u8 0, .int .u8 0, .int .u8 0, .int .u8 0, .int .u8 0, .int .u8 0, .int .u8 0, .int .u8 0, .int .u8 0, .int .u8 0, .int .u8 0, .int .u8 0, .int .u8 0, .int .u8 0, .int .u8 0, .int .u8 0, .int .u8 0, .slice none 0 0]) := by kernel_rfl
def u_pack_item := Tryd.underlying51
abbrev t_pack_item : Nat := 51
theorem sz_pack_item : tsz P 51 = some (33, 56) := by kernel_rfl
theorem pl_pack_item : fplaces P 51 = some [(0, 32), (32, 1)] := by kernel_rfl
theorem z_pack_item : tzero P 51 = some (.agg #[.int .u8 0, .int .u8 0, .int .u8 0, .int .u8 0, .int .u8 0, .int .u8 0, .int .u8 0, .int .u8 0, .int .u8 0, .int .u8 0, .int .u8 0, .int .u8 0, .int .u8 0, .int .u8 0, .int .u8 0, .int .u8 0, .int .u8 0, .int .u8 0, .int .u8 0, .int .u8 0, .int .u8 0, .int .u8 0, .int .u8 0, .int .u8 0, .int .u8 0, .int .u8 0, .int .u8 0, .int .u8 0, .int .u8 0, .int .u8 0, .int .u8 0, .int .u8 0, .slice none 0 0]) := by kernel_rfl
def u_p_digit_Eye := Tryd.underlying53
abbrev t_p_digit_Eye : Nat := 53
theorem sz_p_digit_Eye : tsz P 53 = some (1, 8) := by kernel_rfl
theorem z_p_digit_Eye : tzero P 53 = some (.pointer none) := by kernel_rfl
def u_uint64 := Tryd.underlying63
abbrev t_uint64 : Nat := 63
theorem sz_uint64 : tsz P 63 = some (1, 8) := by kernel_rfl
theorem z_uint64 : tzero P 63 = some (.int .u64 0) := by kernel_rfl
def u_uint := Tryd.underlying64
abbrev t_uint : Nat := 64
theorem sz_uint : tsz P 64 = some (1, 8) := by kernel_rfl
theorem z_uint : tzero P 64 = some (.int .u64 0) := by kernel_rfl
def u_p_delta_maker := Tryd.underlying65
abbrev t_p_delta_maker : Nat := 65
theorem sz_p_delta_maker : tsz P 65 = some (1, 8) := by kernel_rfl
theorem z_p_delta_maker : tzero P 65 = some (.pointer none) := by kernel_rfl
def u_st66 := Tryd.underlying66
abbrev t_st66 : Nat := 66
theorem sz_st66 : tsz P 66 = some (2, 48) := by kernel_rfl
theorem z_st66 : tzero P 66 = some (.agg #[.slice none 0 0, .slice none 0 0]) := by kernel_rfl
def u_delta_maker := Tryd.underlying67
abbrev t_delta_maker : Nat := 67
theorem sz_delta_maker : tsz P 67 = some (2, 48) := by kernel_rfl
theorem pl_delta_maker : fplaces P 67 = some [(0, 1), (1, 1)] := by kernel_rfl
theorem z_delta_maker : tzero P 67 = some (.agg #[.slice none 0 0, .slice none 0 0]) := by kernel_rfl
def u_A16_uint32 := Tryd.underlying70
abbrev t_A16_uint32 : Nat := 70
theorem sz_A16_uint32 : tsz P 70 = some (16, 64) := by kernel_rfl
theorem z_A16_uint32 : tzero P 70 = some (.agg (Array.replicate 16 (.int .u32 0))) := by kernel_rfl
def u_st71 := Tryd.underlying71
abbrev t_st71 : Nat := 71
theorem sz_st71 : tsz P 71 = some (2, 32) := by kernel_rfl
theorem z_st71 : tzero P 71 = some (.agg #[.slice none 0 0, .int .i64 0]) := by kernel_rfl
def u_digit_Eye := Tryd.underlying72
abbrev t_digit_Eye : Nat := 72
theorem sz_digit_Eye : tsz P 72 = some (2, 32) := by kernel_rfl
theorem pl_digit_Eye : fplaces P 72 = some [(0, 1), (1, 1)] := by kernel_rfl
theorem z_digit_Eye : tzero P 72 = some (.agg #[.slice none 0 0, .int .i64 0]) := by kernel_rfl
def u_S_uint32 := Tryd.underlying77
abbrev t_S_uint32 : Nat := 77
theorem sz_S_uint32 : tsz P 77 = some (1, 24) := by kernel_rfl
theorem z_S_uint32 : tzero P 77 = some (.slice none 0 0) := by kernel_rfl
def u_A8_uint32 := Tryd.underlying79
abbrev t_A8_uint32 : Nat := 79
theorem sz_A8_uint32 : tsz P 79 = some (8, 32) := by kernel_rfl
theorem z_A8_uint32 : tzero P 79 = some (.agg (Array.replicate 8 (.int .u32 0))) := by kernel_rfl
def u_A64_uint32 := Tryd.underlying85
abbrev t_A64_uint32 : Nat := 85
theorem sz_A64_uint32 : tsz P 85 = some (64, 256) := by kernel_rfl
theorem z_A64_uint32 : tzero P 85 = some (.agg (Array.replicate 64 (.int .u32 0))) := by kernel_rfl
def u_p_uint8 := Tryd.underlying98
abbrev t_p_uint8 : Nat := 98
theorem sz_p_uint8 : tsz P 98 = some (1, 8) := by kernel_rfl
theorem z_p_uint8 : tzero P 98 = some (.pointer none) := by kernel_rfl
end Go.Proofs.K
