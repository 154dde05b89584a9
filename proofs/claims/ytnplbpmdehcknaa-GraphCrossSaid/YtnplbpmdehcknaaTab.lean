/- Facts on the functions and types of this cut, by stable names; each is checked by reckoning. -/
import Derived.Test.YtnplbpmdehcknaaProg
import Derived.Test.YtnplbpmdehcknaaSl
set_option linter.unusedVariables false
set_option linter.defProp false
namespace Go.Proofs.K
open Go.Sl
noncomputable abbrev P : Program := Try.prog
theorem mixed : P.follows .mixedOrders = true := by kernel_rfl
abbrev n_law18_GraphAll : Nat := 3
theorem fn_law18_GraphAll : P.funcs[3]? = some Try.f3 := Try.func3
theorem nt_law18_GraphAll : Try.f3.ntmps = 85 := Try.ntmps3
theorem go_law18_GraphAll : isGo P 3 = true := by kernel_rfl
abbrev n_law18_GraphBases : Nat := 4
theorem fn_law18_GraphBases : P.funcs[4]? = some Try.f4 := Try.func4
theorem nt_law18_GraphBases : Try.f4.ntmps = 140 := Try.ntmps4
theorem go_law18_GraphBases : isGo P 4 = true := by kernel_rfl
abbrev n_law18_GraphLost : Nat := 5
theorem fn_law18_GraphLost : P.funcs[5]? = some Try.f5 := Try.func5
theorem nt_law18_GraphLost : Try.f5.ntmps = 188 := Try.ntmps5
theorem go_law18_GraphLost : isGo P 5 = true := by kernel_rfl
abbrev n_law18_GraphRow : Nat := 6
theorem fn_law18_GraphRow : P.funcs[6]? = some Try.f6 := Try.func6
theorem nt_law18_GraphRow : Try.f6.ntmps = 155 := Try.ntmps6
theorem go_law18_GraphRow : isGo P 6 = true := by kernel_rfl
abbrev n_law18_GraphCross : Nat := 7
theorem fn_law18_GraphCross : P.funcs[7]? = some Try.f7 := Try.func7
theorem nt_law18_GraphCross : Try.f7.ntmps = 107 := Try.ntmps7
theorem go_law18_GraphCross : isGo P 7 = true := by kernel_rfl
abbrev n_law05_JournalMany : Nat := 8
theorem fn_law05_JournalMany : P.funcs[8]? = some Try.f8 := Try.func8
theorem nt_law05_JournalMany : Try.f8.ntmps = 120 := Try.ntmps8
theorem go_law05_JournalMany : isGo P 8 = true := by kernel_rfl
abbrev n_law05_JournalTwice : Nat := 9
theorem fn_law05_JournalTwice : P.funcs[9]? = some Try.f9 := Try.func9
theorem nt_law05_JournalTwice : Try.f9.ntmps = 111 := Try.ntmps9
theorem go_law05_JournalTwice : isGo P 9 = true := by kernel_rfl
abbrev n_law05_JournalErrs : Nat := 10
theorem fn_law05_JournalErrs : P.funcs[10]? = some Try.f10 := Try.func10
theorem nt_law05_JournalErrs : Try.f10.ntmps = 180 := Try.ntmps10
theorem go_law05_JournalErrs : isGo P 10 = true := by kernel_rfl
abbrev n_law05_JournalPlays : Nat := 11
theorem fn_law05_JournalPlays : P.funcs[11]? = some Try.f11 := Try.func11
theorem nt_law05_JournalPlays : Try.f11.ntmps = 130 := Try.ntmps11
theorem go_law05_JournalPlays : isGo P 11 = true := by kernel_rfl
abbrev n_law05_JournalStops : Nat := 12
theorem fn_law05_JournalStops : P.funcs[12]? = some Try.f12 := Try.func12
theorem nt_law05_JournalStops : Try.f12.ntmps = 107 := Try.ntmps12
theorem go_law05_JournalStops : isGo P 12 = true := by kernel_rfl
abbrev n_law18_awake : Nat := 13
theorem fn_law18_awake : P.funcs[13]? = some Try.f13 := Try.func13
theorem nt_law18_awake : Try.f13.ntmps = 36 := Try.ntmps13
theorem go_law18_awake : isGo P 13 = true := by kernel_rfl
abbrev n_law18_tree : Nat := 14
theorem fn_law18_tree : P.funcs[14]? = some Try.f14 := Try.func14
theorem nt_law18_tree : Try.f14.ntmps = 124 := Try.ntmps14
theorem go_law18_tree : isGo P 14 = true := by kernel_rfl
abbrev n_graph_All : Nat := 15
theorem fn_graph_All : P.funcs[15]? = some Try.f15 := Try.func15
theorem nt_graph_All : Try.f15.ntmps = 24 := Try.ntmps15
theorem go_graph_All : isGo P 15 = true := by kernel_rfl
abbrev n_ref18_Book_All : Nat := 16
theorem fn_ref18_Book_All : P.funcs[16]? = some Try.f16 := Try.func16
theorem nt_ref18_Book_All : Try.f16.ntmps = 69 := Try.ntmps16
theorem go_ref18_Book_All : isGo P 16 = true := by kernel_rfl
abbrev n_graph_Base : Nat := 17
theorem fn_graph_Base : P.funcs[17]? = some Try.f17 := Try.func17
theorem nt_graph_Base : Try.f17.ntmps = 76 := Try.ntmps17
theorem go_graph_Base : isGo P 17 = true := by kernel_rfl
abbrev n_ref18_Book_Base : Nat := 18
theorem fn_ref18_Book_Base : P.funcs[18]? = some Try.f18 := Try.func18
theorem nt_ref18_Book_Base : Try.f18.ntmps = 94 := Try.ntmps18
theorem go_ref18_Book_Base : isGo P 18 = true := by kernel_rfl
abbrev n_graph_Ahead : Nat := 19
theorem fn_graph_Ahead : P.funcs[19]? = some Try.f19 := Try.func19
theorem nt_graph_Ahead : Try.f19.ntmps = 21 := Try.ntmps19
theorem go_graph_Ahead : isGo P 19 = true := by kernel_rfl
abbrev n_ref18_Book_Node : Nat := 20
theorem fn_ref18_Book_Node : P.funcs[20]? = some Try.f20 := Try.func20
theorem nt_ref18_Book_Node : Try.f20.ntmps = 26 := Try.ntmps20
theorem go_ref18_Book_Node : isGo P 20 = true := by kernel_rfl
abbrev n_law05_awake : Nat := 21
theorem fn_law05_awake : P.funcs[21]? = some Try.f21 := Try.func21
theorem nt_law05_awake : Try.f21.ntmps = 63 := Try.ntmps21
theorem go_law05_awake : isGo P 21 = true := by kernel_rfl
abbrev n_disk_New : Nat := 22
theorem fn_disk_New : P.funcs[22]? = some Try.f22 := Try.func22
theorem nt_disk_New : Try.f22.ntmps = 9 := Try.ntmps22
theorem go_disk_New : isGo P 22 = true := by kernel_rfl
abbrev n_journal_Open : Nat := 23
theorem fn_journal_Open : P.funcs[23]? = some Try.f23 := Try.func23
theorem nt_journal_Open : Try.f23.ntmps = 32 := Try.ntmps23
theorem go_journal_Open : isGo P 23 = true := by kernel_rfl
abbrev n_journal_Journal_Write : Nat := 24
theorem fn_journal_Journal_Write : P.funcs[24]? = some Try.f24 := Try.func24
theorem nt_journal_Journal_Write : Try.f24.ntmps = 57 := Try.ntmps24
theorem go_journal_Journal_Write : isGo P 24 = true := by kernel_rfl
abbrev n_disk_Disk_Crash : Nat := 25
theorem fn_disk_Disk_Crash : P.funcs[25]? = some Try.f25 := Try.func25
theorem nt_disk_Disk_Crash : Try.f25.ntmps = 15 := Try.ntmps25
theorem go_disk_Disk_Crash : isGo P 25 = true := by kernel_rfl
abbrev n_journal_Journal_Read : Nat := 26
theorem fn_journal_Journal_Read : P.funcs[26]? = some Try.f26 := Try.func26
theorem nt_journal_Journal_Read : Try.f26.ntmps = 23 := Try.ntmps26
theorem go_journal_Journal_Read : isGo P 26 = true := by kernel_rfl
abbrev n_journal_Journal_Sectors : Nat := 27
theorem fn_journal_Journal_Sectors : P.funcs[27]? = some Try.f27 := Try.func27
theorem nt_journal_Journal_Sectors : Try.f27.ntmps = 11 := Try.ntmps27
theorem go_journal_Journal_Sectors : isGo P 27 = true := by kernel_rfl
abbrev n_journal_Journal_On : Nat := 28
theorem fn_journal_Journal_On : P.funcs[28]? = some Try.f28 := Try.func28
theorem nt_journal_Journal_On : Try.f28.ntmps = 12 := Try.ntmps28
theorem go_journal_Journal_On : isGo P 28 = true := by kernel_rfl
abbrev n_law05_pages : Nat := 29
theorem fn_law05_pages : P.funcs[29]? = some Try.f29 := Try.func29
theorem nt_law05_pages : Try.f29.ntmps = 43 := Try.ntmps29
theorem go_law05_pages : isGo P 29 = true := by kernel_rfl
abbrev n_disk_Disk_Arm : Nat := 30
theorem fn_disk_Disk_Arm : P.funcs[30]? = some Try.f30 := Try.func30
theorem nt_disk_Disk_Arm : Try.f30.ntmps = 11 := Try.ntmps30
theorem go_disk_Disk_Arm : isGo P 30 = true := by kernel_rfl
abbrev n_law05_put : Nat := 31
theorem fn_law05_put : P.funcs[31]? = some Try.f31 := Try.func31
theorem nt_law05_put : Try.f31.ntmps = 37 := Try.ntmps31
theorem go_law05_put : isGo P 31 = true := by kernel_rfl
abbrev n_law05_same : Nat := 32
theorem fn_law05_same : P.funcs[32]? = some Try.f32 := Try.func32
theorem nt_law05_same : Try.f32.ntmps = 37 := Try.ntmps32
theorem go_law05_same : isGo P 32 = true := by kernel_rfl
abbrev n_graph_walk : Nat := 33
theorem fn_graph_walk : P.funcs[33]? = some Try.f33 := Try.func33
theorem nt_graph_walk : Try.f33.ntmps = 6 := Try.ntmps33
theorem go_graph_walk : isGo P 33 = true := by kernel_rfl
abbrev n_slices_DeleteFunc_api_Key_api_Key : Nat := 34
theorem fn_slices_DeleteFunc_api_Key_api_Key : P.funcs[34]? = some Try.f34 := Try.func34
theorem nt_slices_DeleteFunc_api_Key_api_Key : Try.f34.ntmps = 42 := Try.ntmps34
theorem go_slices_DeleteFunc_api_Key_api_Key : isGo P 34 = true := by kernel_rfl
abbrev n_graph_Base_1 : Nat := 35
theorem fn_graph_Base_1 : P.funcs[35]? = some Try.f35 := Try.func35
theorem nt_graph_Base_1 : Try.f35.ntmps = 8 := Try.ntmps35
theorem go_graph_Base_1 : isGo P 35 = true := by kernel_rfl
abbrev n_slices_Contains_api_Key_api_Key : Nat := 36
theorem fn_slices_Contains_api_Key_api_Key : P.funcs[36]? = some Try.f36 := Try.func36
theorem nt_slices_Contains_api_Key_api_Key : Try.f36.ntmps = 9 := Try.ntmps36
theorem go_slices_Contains_api_Key_api_Key : isGo P 36 = true := by kernel_rfl
abbrev n_graph_isTop : Nat := 37
theorem fn_graph_isTop : P.funcs[37]? = some Try.f37 := Try.func37
theorem nt_graph_isTop : Try.f37.ntmps = 35 := Try.ntmps37
theorem go_graph_isTop : isGo P 37 = true := by kernel_rfl
abbrev n_stamp_Less : Nat := 38
theorem fn_stamp_Less : P.funcs[38]? = some Try.f38 := Try.func38
theorem nt_stamp_Less : Try.f38.ntmps = 10 := Try.ntmps38
theorem go_stamp_Less : isGo P 38 = true := by kernel_rfl
abbrev n_ref18_has : Nat := 39
theorem fn_ref18_has : P.funcs[39]? = some Try.f39 := Try.func39
theorem nt_ref18_has : Try.f39.ntmps = 18 := Try.ntmps39
theorem go_ref18_has : isGo P 39 = true := by kernel_rfl
abbrev n_disk_Disk_Sectors : Nat := 40
theorem fn_disk_Disk_Sectors : P.funcs[40]? = some Try.f40 := Try.func40
theorem nt_disk_Disk_Sectors : Try.f40.ntmps = 10 := Try.ntmps40
theorem go_disk_Disk_Sectors : isGo P 40 = true := by kernel_rfl
abbrev n_journal_Journal_read : Nat := 41
theorem fn_journal_Journal_read : P.funcs[41]? = some Try.f41 := Try.func41
theorem nt_journal_Journal_read : Try.f41.ntmps = 103 := Try.ntmps41
theorem go_journal_Journal_read : isGo P 41 = true := by kernel_rfl
abbrev n_journal_Journal_apply : Nat := 42
theorem fn_journal_Journal_apply : P.funcs[42]? = some Try.f42 := Try.func42
theorem nt_journal_Journal_apply : Try.f42.ntmps = 33 := Try.ntmps42
theorem go_journal_Journal_apply : isGo P 42 = true := by kernel_rfl
abbrev n_journal_Journal_lay : Nat := 43
theorem fn_journal_Journal_lay : P.funcs[43]? = some Try.f43 := Try.func43
theorem nt_journal_Journal_lay : Try.f43.ntmps = 83 := Try.ntmps43
theorem go_journal_Journal_lay : isGo P 43 = true := by kernel_rfl
abbrev n_disk_Disk_keep : Nat := 44
theorem fn_disk_Disk_keep : P.funcs[44]? = some Try.f44 := Try.func44
theorem nt_disk_Disk_keep : Try.f44.ntmps = 32 := Try.ntmps44
theorem go_disk_Disk_keep : isGo P 44 = true := by kernel_rfl
abbrev n_disk_Disk_Crash_1 : Nat := 45
theorem fn_disk_Disk_Crash_1 : P.funcs[45]? = some Try.f45 := Try.func45
theorem nt_disk_Disk_Crash_1 : Try.f45.ntmps = 22 := Try.ntmps45
theorem go_disk_Disk_Crash_1 : isGo P 45 = true := by kernel_rfl
abbrev n_disk_Disk_Read : Nat := 46
theorem fn_disk_Disk_Read : P.funcs[46]? = some Try.f46 := Try.func46
theorem nt_disk_Disk_Read : Try.f46.ntmps = 47 := Try.ntmps46
theorem go_disk_Disk_Read : isGo P 46 = true := by kernel_rfl
abbrev n_disk_Disk_On : Nat := 47
theorem fn_disk_Disk_On : P.funcs[47]? = some Try.f47 := Try.func47
theorem nt_disk_Disk_On : Try.f47.ntmps = 12 := Try.ntmps47
theorem go_disk_Disk_On : isGo P 47 = true := by kernel_rfl
abbrev n_graph_walk_1 : Nat := 48
theorem fn_graph_walk_1 : P.funcs[48]? = some Try.f48 := Try.func48
theorem nt_graph_walk_1 : Try.f48.ntmps = 62 := Try.ntmps48
theorem go_graph_walk_1 : isGo P 48 = true := by kernel_rfl
abbrev n_graph_queue_api_Key_put : Nat := 49
theorem fn_graph_queue_api_Key_put : P.funcs[49]? = some Try.f49 := Try.func49
theorem nt_graph_queue_api_Key_put : Try.f49.ntmps = 14 := Try.ntmps49
theorem go_graph_queue_api_Key_put : isGo P 49 = true := by kernel_rfl
abbrev n_graph_queue_api_Key_each : Nat := 50
theorem fn_graph_queue_api_Key_each : P.funcs[50]? = some Try.f50 := Try.func50
theorem nt_graph_queue_api_Key_each : Try.f50.ntmps = 4 := Try.ntmps50
theorem go_graph_queue_api_Key_each : isGo P 50 = true := by kernel_rfl
abbrev n_slices_IndexFunc_api_Key_api_Key : Nat := 51
theorem fn_slices_IndexFunc_api_Key_api_Key : P.funcs[51]? = some Try.f51 := Try.func51
theorem nt_slices_IndexFunc_api_Key_api_Key : Try.f51.ntmps = 19 := Try.ntmps51
theorem go_slices_IndexFunc_api_Key_api_Key : isGo P 51 = true := by kernel_rfl
abbrev n_slices_Index_api_Key_api_Key : Nat := 52
theorem fn_slices_Index_api_Key_api_Key : P.funcs[52]? = some Try.f52 := Try.func52
theorem nt_slices_Index_api_Key_api_Key : Try.f52.ntmps = 19 := Try.ntmps52
theorem go_slices_Index_api_Key_api_Key : isGo P 52 = true := by kernel_rfl
abbrev n_check_Number : Nat := 53
theorem fn_check_Number : P.funcs[53]? = some Try.f53 := Try.func53
theorem nt_check_Number : Try.f53.ntmps = 24 := Try.ntmps53
theorem go_check_Number : isGo P 53 = true := by kernel_rfl
abbrev n_disk_Disk_Write : Nat := 54
theorem fn_disk_Disk_Write : P.funcs[54]? = some Try.f54 := Try.func54
theorem nt_disk_Disk_Write : Try.f54.ntmps = 49 := Try.ntmps54
theorem go_disk_Disk_Write : isGo P 54 = true := by kernel_rfl
abbrev n_disk_Disk_Flush : Nat := 55
theorem fn_disk_Disk_Flush : P.funcs[55]? = some Try.f55 := Try.func55
theorem nt_disk_Disk_Flush : Try.f55.ntmps = 12 := Try.ntmps55
theorem go_disk_Disk_Flush : isGo P 55 = true := by kernel_rfl
abbrev n_check_Four : Nat := 56
theorem fn_check_Four : P.funcs[56]? = some Try.f56 := Try.func56
theorem nt_check_Four : Try.f56.ntmps = 15 := Try.ntmps56
theorem go_check_Four : isGo P 56 = true := by kernel_rfl
abbrev n_graph_queue_api_Key_each_1 : Nat := 57
theorem fn_graph_queue_api_Key_each_1 : P.funcs[57]? = some Try.f57 := Try.func57
theorem nt_graph_queue_api_Key_each_1 : Try.f57.ntmps = 28 := Try.ntmps57
theorem go_graph_queue_api_Key_each_1 : isGo P 57 = true := by kernel_rfl
abbrev n_disk_Disk_act : Nat := 58
theorem fn_disk_Disk_act : P.funcs[58]? = some Try.f58 := Try.func58
theorem nt_disk_Disk_act : Try.f58.ntmps = 35 := Try.ntmps58
theorem go_disk_Disk_act : isGo P 58 = true := by kernel_rfl
abbrev n_disk_Disk_Flush_1 : Nat := 59
theorem fn_disk_Disk_Flush_1 : P.funcs[59]? = some Try.f59 := Try.func59
theorem nt_disk_Disk_Flush_1 : Try.f59.ntmps = 3 := Try.ntmps59
theorem go_disk_Disk_Flush_1 : isGo P 59 = true := by kernel_rfl
abbrev n_ref18_Book_Commit : Nat := 75
theorem fn_ref18_Book_Commit : P.funcs[75]? = some Try.f75 := Try.func75
theorem nt_ref18_Book_Commit : Try.f75.ntmps = 21 := Try.ntmps75
theorem go_ref18_Book_Commit : isGo P 75 = true := by kernel_rfl
abbrev n_ref18_Book_Ref : Nat := 76
theorem fn_ref18_Book_Ref : P.funcs[76]? = some Try.f76 := Try.func76
theorem nt_ref18_Book_Ref : Try.f76.ntmps = 2 := Try.ntmps76
abbrev n_disk_Disk_Acts : Nat := 77
theorem fn_disk_Disk_Acts : P.funcs[77]? = some Try.f77 := Try.func77
theorem nt_disk_Disk_Acts : Try.f77.ntmps = 1 := Try.ntmps77
def u_int64 := Try.underlying2
abbrev t_int64 : Nat := 2
theorem sz_int64 : tsz P 2 = some (1, 8) := by kernel_rfl
theorem z_int64 : tzero P 2 = some (.int .i64 0) := by kernel_rfl
def u_int := Try.underlying3
abbrev t_int : Nat := 3
theorem sz_int : tsz P 3 = some (1, 8) := by kernel_rfl
theorem z_int : tzero P 3 = some (.int .i64 0) := by kernel_rfl
def u_bool := Try.underlying4
abbrev t_bool : Nat := 4
theorem sz_bool : tsz P 4 = some (1, 1) := by kernel_rfl
theorem z_bool : tzero P 4 = some (.bool false) := by kernel_rfl
def u_uint8 := Try.underlying5
abbrev t_uint8 : Nat := 5
theorem sz_uint8 : tsz P 5 = some (1, 1) := by kernel_rfl
theorem z_uint8 : tzero P 5 = some (.int .u8 0) := by kernel_rfl
def u_string := Try.underlying9
abbrev t_string : Nat := 9
theorem sz_string : tsz P 9 = some (1, 16) := by kernel_rfl
theorem z_string : tzero P 9 = some (.string ⟨#[]⟩) := by kernel_rfl
def u_uintptr := Try.underlying12
abbrev t_uintptr : Nat := 12
theorem sz_uintptr : tsz P 12 = some (1, 8) := by kernel_rfl
theorem z_uintptr : tzero P 12 = some (.int .u64 0) := by kernel_rfl
def u_st13 := Try.underlying13
abbrev t_st13 : Nat := 13
theorem sz_st13 : tsz P 13 = some (2, 24) := by kernel_rfl
theorem z_st13 : tzero P 13 = some (.agg #[.string ⟨#[]⟩, .int .u64 0]) := by kernel_rfl
def u_interface := Try.underlying20
abbrev t_interface : Nat := 20
theorem sz_interface : tsz P 20 = some (1, 16) := by kernel_rfl
theorem z_interface : tzero P 20 = some (.nilIface) := by kernel_rfl
def u_int32 := Try.underlying21
abbrev t_int32 : Nat := 21
theorem sz_int32 : tsz P 21 = some (1, 4) := by kernel_rfl
theorem z_int32 : tzero P 21 = some (.int .i32 0) := by kernel_rfl
def u_S_uint8 := Try.underlying22
abbrev t_S_uint8 : Nat := 22
theorem sz_S_uint8 : tsz P 22 = some (1, 24) := by kernel_rfl
theorem z_S_uint8 : tzero P 22 = some (.slice none 0 0) := by kernel_rfl
def u_p_interleafref18_Book := Try.underlying24
abbrev t_p_interleafref18_Book : Nat := 24
theorem sz_p_interleafref18_Book : tsz P 24 = some (1, 8) := by kernel_rfl
theorem z_p_interleafref18_Book : tzero P 24 = some (.pointer none) := by kernel_rfl
def u_S_api_Key := Try.underlying25
abbrev t_S_api_Key : Nat := 25
theorem sz_S_api_Key : tsz P 25 = some (1, 24) := by kernel_rfl
theorem z_S_api_Key : tzero P 25 = some (.slice none 0 0) := by kernel_rfl
def u_A32_uint8 := Try.underlying28
abbrev t_A32_uint8 : Nat := 28
theorem sz_A32_uint8 : tsz P 28 = some (32, 32) := by kernel_rfl
theorem z_A32_uint8 : tzero P 28 = some (.agg (Array.replicate 32 (.int .u8 0))) := by kernel_rfl
def u_api_Key := Try.underlying29
abbrev t_api_Key : Nat := 29
theorem sz_api_Key : tsz P 29 = some (32, 32) := by kernel_rfl
theorem z_api_Key : tzero P 29 = some (.agg (Array.replicate 32 (.int .u8 0))) := by kernel_rfl
def u_api_Errno := Try.underlying30
abbrev t_api_Errno : Nat := 30
theorem sz_api_Errno : tsz P 30 = some (1, 8) := by kernel_rfl
theorem z_api_Errno : tzero P 30 = some (.int .i64 0) := by kernel_rfl
def u_S_interleafref18_Node := Try.underlying42
abbrev t_S_interleafref18_Node : Nat := 42
theorem sz_S_interleafref18_Node : tsz P 42 = some (1, 24) := by kernel_rfl
theorem z_S_interleafref18_Node : tzero P 42 = some (.slice none 0 0) := by kernel_rfl
def u_S_interleafref18_Ref := Try.underlying43
abbrev t_S_interleafref18_Ref : Nat := 43
theorem sz_S_interleafref18_Ref : tsz P 43 = some (1, 24) := by kernel_rfl
theorem z_S_interleafref18_Ref : tzero P 43 = some (.slice none 0 0) := by kernel_rfl
def u_S_S_uint8 := Try.underlying44
abbrev t_S_S_uint8 : Nat := 44
theorem sz_S_S_uint8 : tsz P 44 = some (1, 24) := by kernel_rfl
theorem z_S_S_uint8 : tzero P 44 = some (.slice none 0 0) := by kernel_rfl
def u_st45 := Try.underlying45
abbrev t_st45 : Nat := 45
theorem sz_st45 : tsz P 45 = some (5, 104) := by kernel_rfl
theorem z_st45 : tzero P 45 = some (.agg #[.slice none 0 0, .slice none 0 0, .slice none 0 0, .slice none 0 0, .bool false]) := by kernel_rfl
def u_interleafref18_Book := Try.underlying46
abbrev t_interleafref18_Book : Nat := 46
theorem sz_interleafref18_Book : tsz P 46 = some (5, 104) := by kernel_rfl
theorem pl_interleafref18_Book : fplaces P 46 = some [(0, 1), (1, 1), (2, 1), (3, 1), (4, 1)] := by kernel_rfl
theorem z_interleafref18_Book : tzero P 46 = some (.agg #[.slice none 0 0, .slice none 0 0, .slice none 0 0, .slice none 0 0, .bool false]) := by kernel_rfl
def u_uint16 := Try.underlying49
abbrev t_uint16 : Nat := 49
theorem sz_uint16 : tsz P 49 = some (1, 2) := by kernel_rfl
theorem z_uint16 : tzero P 49 = some (.int .u16 0) := by kernel_rfl
def u_st50 := Try.underlying50
abbrev t_st50 : Nat := 50
theorem sz_st50 : tsz P 50 = some (34, 72) := by kernel_rfl
theorem z_st50 : tzero P 50 = some (.agg #[.int .u8 0, .int .u8 0, .int .u8 0, .int .u8 0, .int .u8 0, .int .u8 0, .int .u8 0, .int .u8 0, .int .u8 0, .int .u8 0, .int .u8 0, .int .u8 0, .int .u8 0, .int .u8 0, .int .u8 0, .int .u8 0, .int .u8 0, .int .u8 0, .int .u8 0, .int .u8 0, .int .u8 0, .int .u8 0, .int .u8 0, .int .u8 0, .int .u8 0, .int .u8 0, .int .u8 0, .int .u8 0, .int .u8 0, .int .u8 0, .int .u8 0, .int .u8 0, .slice none 0 0, .string ⟨#[]⟩]) := by kernel_rfl
def u_api_Commit := Try.underlying51
abbrev t_api_Commit : Nat := 51
theorem sz_api_Commit : tsz P 51 = some (34, 72) := by kernel_rfl
theorem pl_api_Commit : fplaces P 51 = some [(0, 32), (32, 1), (33, 1)] := by kernel_rfl
theorem z_api_Commit : tzero P 51 = some (.agg #[.int .u8 0, .int .u8 0, .int .u8 0, .int .u8 0, .int .u8 0, .int .u8 0, .int .u8 0, .int .u8 0, .int .u8 0, .int .u8 0, .int .u8 0, .int .u8 0, .int .u8 0, .int .u8 0, .int .u8 0, .int .u8 0, .int .u8 0, .int .u8 0, .int .u8 0, .int .u8 0, .int .u8 0, .int .u8 0, .int .u8 0, .int .u8 0, .int .u8 0, .int .u8 0, .int .u8 0, .int .u8 0, .int .u8 0, .int .u8 0, .int .u8 0, .int .u8 0, .slice none 0 0, .string ⟨#[]⟩]) := by kernel_rfl
def u_S_api_Elem := Try.underlying52
abbrev t_S_api_Elem : Nat := 52
theorem sz_S_api_Elem : tsz P 52 = some (1, 24) := by kernel_rfl
theorem z_S_api_Elem : tzero P 52 = some (.slice none 0 0) := by kernel_rfl
def u_api_Chart := Try.underlying53
abbrev t_api_Chart : Nat := 53
theorem sz_api_Chart : tsz P 53 = some (1, 24) := by kernel_rfl
theorem z_api_Chart : tzero P 53 = some (.slice none 0 0) := by kernel_rfl
def u_st54 := Try.underlying54
abbrev t_st54 : Nat := 54
theorem sz_st54 : tsz P 54 = some (67, 128) := by kernel_rfl
theorem z_st54 : tzero P 54 = some (.agg #[.int .u8 0, .int .u8 0, .int .u8 0, .int .u8 0, .int .u8 0, .int .u8 0, .int .u8 0, .int .u8 0, .int .u8 0, .int .u8 0, .int .u8 0, .int .u8 0, .int .u8 0, .int .u8 0, .int .u8 0, .int .u8 0, .int .u8 0, .int .u8 0, .int .u8 0, .int .u8 0, .int .u8 0, .int .u8 0, .int .u8 0, .int .u8 0, .int .u8 0, .int .u8 0, .int .u8 0, .int .u8 0, .int .u8 0, .int .u8 0, .int .u8 0, .int .u8 0, .int .u8 0, .int .u8 0, .int .u8 0, .int .u8 0, .int .u8 0, .int .u8 0, .int .u8 0, .int .u8 0, .int .u8 0, .int .u8 0, .int .u8 0, .int .u8 0, .int .u8 0, .int .u8 0, .int .u8 0, .int .u8 0, .int .u8 0, .int .u8 0, .int .u8 0, .int .u8 0, .int .u8 0, .int .u8 0, .int .u8 0, .int .u8 0, .int .u8 0, .int .u8 0, .int .u8 0, .int .u8 0, .int .u8 0, .int .u8 0, .int .u8 0, .int .u8 0, .slice none 0 0, .string ⟨#[]⟩, .slice none 0 0]) := by kernel_rfl
def u_interleafref18_Node := Try.underlying55
abbrev t_interleafref18_Node : Nat := 55
theorem sz_interleafref18_Node : tsz P 55 = some (67, 128) := by kernel_rfl
theorem pl_interleafref18_Node : fplaces P 55 = some [(0, 32), (32, 34), (66, 1)] := by kernel_rfl
theorem z_interleafref18_Node : tzero P 55 = some (.agg #[.int .u8 0, .int .u8 0, .int .u8 0, .int .u8 0, .int .u8 0, .int .u8 0, .int .u8 0, .int .u8 0, .int .u8 0, .int .u8 0, .int .u8 0, .int .u8 0, .int .u8 0, .int .u8 0, .int .u8 0, .int .u8 0, .int .u8 0, .int .u8 0, .int .u8 0, .int .u8 0, .int .u8 0, .int .u8 0, .int .u8 0, .int .u8 0, .int .u8 0, .int .u8 0, .int .u8 0, .int .u8 0, .int .u8 0, .int .u8 0, .int .u8 0, .int .u8 0, .int .u8 0, .int .u8 0, .int .u8 0, .int .u8 0, .int .u8 0, .int .u8 0, .int .u8 0, .int .u8 0, .int .u8 0, .int .u8 0, .int .u8 0, .int .u8 0, .int .u8 0, .int .u8 0, .int .u8 0, .int .u8 0, .int .u8 0, .int .u8 0, .int .u8 0, .int .u8 0, .int .u8 0, .int .u8 0, .int .u8 0, .int .u8 0, .int .u8 0, .int .u8 0, .int .u8 0, .int .u8 0, .int .u8 0, .int .u8 0, .int .u8 0, .int .u8 0, .slice none 0 0, .string ⟨#[]⟩, .slice none 0 0]) := by kernel_rfl
def u_p_disk_Disk := Try.underlying58
abbrev t_p_disk_Disk : Nat := 58
theorem sz_p_disk_Disk : tsz P 58 = some (1, 8) := by kernel_rfl
theorem z_p_disk_Disk : tzero P 58 = some (.pointer none) := by kernel_rfl
def u_p_journal_Journal := Try.underlying60
abbrev t_p_journal_Journal : Nat := 60
theorem sz_p_journal_Journal : tsz P 60 = some (1, 8) := by kernel_rfl
theorem z_p_journal_Journal : tzero P 60 = some (.pointer none) := by kernel_rfl
def u_A8_int := Try.underlying63
abbrev t_A8_int : Nat := 63
theorem sz_A8_int : tsz P 63 = some (8, 64) := by kernel_rfl
theorem z_A8_int : tzero P 63 = some (.agg (Array.replicate 8 (.int .i64 0))) := by kernel_rfl
def u_st65 := Try.underlying65
abbrev t_st65 : Nat := 65
theorem sz_st65 : tsz P 65 = some (2, 32) := by kernel_rfl
theorem z_st65 : tzero P 65 = some (.agg #[.int .i64 0, .slice none 0 0]) := by kernel_rfl
def u_journal_Page := Try.underlying66
abbrev t_journal_Page : Nat := 66
theorem sz_journal_Page : tsz P 66 = some (2, 32) := by kernel_rfl
theorem pl_journal_Page : fplaces P 66 = some [(0, 1), (1, 1)] := by kernel_rfl
theorem z_journal_Page : tzero P 66 = some (.agg #[.int .i64 0, .slice none 0 0]) := by kernel_rfl
def u_S_journal_Page := Try.underlying67
abbrev t_S_journal_Page : Nat := 67
theorem sz_S_journal_Page : tsz P 67 = some (1, 24) := by kernel_rfl
theorem z_S_journal_Page : tzero P 67 = some (.slice none 0 0) := by kernel_rfl
def u_S_interleaflaw05_Act := Try.underlying74
abbrev t_S_interleaflaw05_Act : Nat := 74
theorem sz_S_interleaflaw05_Act : tsz P 74 = some (1, 24) := by kernel_rfl
theorem z_S_interleaflaw05_Act : tzero P 74 = some (.slice none 0 0) := by kernel_rfl
def u_st75 := Try.underlying75
abbrev t_st75 : Nat := 75
theorem sz_st75 : tsz P 75 = some (4, 80) := by kernel_rfl
theorem z_st75 : tzero P 75 = some (.agg #[.slice none 0 0, .slice none 0 0, .int .u8 0, .slice none 0 0]) := by kernel_rfl
def u_interleaflaw05_Act := Try.underlying76
abbrev t_interleaflaw05_Act : Nat := 76
theorem sz_interleaflaw05_Act : tsz P 76 = some (4, 80) := by kernel_rfl
theorem pl_interleaflaw05_Act : fplaces P 76 = some [(0, 1), (1, 1), (2, 1), (3, 1)] := by kernel_rfl
theorem z_interleaflaw05_Act : tzero P 76 = some (.agg #[.slice none 0 0, .slice none 0 0, .int .u8 0, .slice none 0 0]) := by kernel_rfl
def u_interface_Commit_api_Key_api_Commit_api_Errno := Try.underlying83
abbrev t_interface_Commit_api_Key_api_Commit_api_Errno : Nat := 83
theorem sz_interface_Commit_api_Key_api_Commit_api_Errno : tsz P 83 = some (1, 16) := by kernel_rfl
theorem z_interface_Commit_api_Key_api_Commit_api_Errno : tzero P 83 = some (.nilIface) := by kernel_rfl
def u_graph_Source := Try.underlying84
abbrev t_graph_Source : Nat := 84
theorem sz_graph_Source : tsz P 84 = some (1, 16) := by kernel_rfl
theorem z_graph_Source : tzero P 84 = some (.nilIface) := by kernel_rfl
def u_iter_Seq2_api_Key_api_Errno := Try.underlying86
abbrev t_iter_Seq2_api_Key_api_Errno : Nat := 86
theorem sz_iter_Seq2_api_Key_api_Errno : tsz P 86 = some (1, 8) := by kernel_rfl
theorem z_iter_Seq2_api_Key_api_Errno : tzero P 86 = some (.nilFunc) := by kernel_rfl
def u_S_A64_uint8 := Try.underlying93
abbrev t_S_A64_uint8 : Nat := 93
theorem sz_S_A64_uint8 : tsz P 93 = some (1, 24) := by kernel_rfl
theorem z_S_A64_uint8 : tzero P 93 = some (.slice none 0 0) := by kernel_rfl
def u_S_disk_write := Try.underlying94
abbrev t_S_disk_write : Nat := 94
theorem sz_S_disk_write : tsz P 94 = some (1, 24) := by kernel_rfl
theorem z_S_disk_write : tzero P 94 = some (.slice none 0 0) := by kernel_rfl
def u_st95 := Try.underlying95
abbrev t_st95 : Nat := 95
theorem sz_st95 : tsz P 95 = some (5, 72) := by kernel_rfl
theorem z_st95 : tzero P 95 = some (.agg #[.slice none 0 0, .slice none 0 0, .int .i64 0, .bool false, .int .i64 0]) := by kernel_rfl
def u_disk_Disk := Try.underlying96
abbrev t_disk_Disk : Nat := 96
theorem sz_disk_Disk : tsz P 96 = some (5, 72) := by kernel_rfl
theorem pl_disk_Disk : fplaces P 96 = some [(0, 1), (1, 1), (2, 1), (3, 1), (4, 1)] := by kernel_rfl
theorem z_disk_Disk : tzero P 96 = some (.agg #[.slice none 0 0, .slice none 0 0, .int .i64 0, .bool false, .int .i64 0]) := by kernel_rfl
def u_st97 := Try.underlying97
abbrev t_st97 : Nat := 97
theorem sz_st97 : tsz P 97 = some (2, 16) := by kernel_rfl
theorem z_st97 : tzero P 97 = some (.agg #[.pointer none, .int .i64 0]) := by kernel_rfl
def u_journal_Journal := Try.underlying98
abbrev t_journal_Journal : Nat := 98
theorem sz_journal_Journal : tsz P 98 = some (2, 16) := by kernel_rfl
theorem pl_journal_Journal : fplaces P 98 = some [(0, 1), (1, 1)] := by kernel_rfl
theorem z_journal_Journal : tzero P 98 = some (.agg #[.pointer none, .int .i64 0]) := by kernel_rfl
def u_map_api_Key_bool := Try.underlying104
abbrev t_map_api_Key_bool : Nat := 104
theorem sz_map_api_Key_bool : tsz P 104 = some (1, 8) := by kernel_rfl
theorem z_map_api_Key_bool : tzero P 104 = some (.map none) := by kernel_rfl
def u_st105 := Try.underlying105
abbrev t_st105 : Nat := 105
theorem sz_st105 : tsz P 105 = some (1, 24) := by kernel_rfl
theorem z_st105 : tzero P 105 = some (.agg #[.slice none 0 0]) := by kernel_rfl
def u_graph_queue_api_Key := Try.underlying106
abbrev t_graph_queue_api_Key : Nat := 106
theorem sz_graph_queue_api_Key : tsz P 106 = some (1, 24) := by kernel_rfl
theorem pl_graph_queue_api_Key : fplaces P 106 = some [(0, 1)] := by kernel_rfl
theorem z_graph_queue_api_Key : tzero P 106 = some (.agg #[.slice none 0 0]) := by kernel_rfl
def u_iter_Seq_api_Key := Try.underlying109
abbrev t_iter_Seq_api_Key : Nat := 109
theorem sz_iter_Seq_api_Key : tsz P 109 = some (1, 8) := by kernel_rfl
theorem z_iter_Seq_api_Key : tzero P 109 = some (.nilFunc) := by kernel_rfl
def u_A2_S_uint8 := Try.underlying118
abbrev t_A2_S_uint8 : Nat := 118
theorem sz_A2_S_uint8 : tsz P 118 = some (2, 48) := by kernel_rfl
theorem z_A2_S_uint8 : tzero P 118 = some (.agg #[.slice none 0 0, .slice none 0 0]) := by kernel_rfl
def u_A64_uint8 := Try.underlying120
abbrev t_A64_uint8 : Nat := 120
theorem sz_A64_uint8 : tsz P 120 = some (64, 64) := by kernel_rfl
theorem z_A64_uint8 : tzero P 120 = some (.agg (Array.replicate 64 (.int .u8 0))) := by kernel_rfl
def u_st121 := Try.underlying121
abbrev t_st121 : Nat := 121
theorem sz_st121 : tsz P 121 = some (65, 72) := by kernel_rfl
theorem z_st121 : tzero P 121 = some (.agg #[.int .i64 0, .int .u8 0, .int .u8 0, .int .u8 0, .int .u8 0, .int .u8 0, .int .u8 0, .int .u8 0, .int .u8 0, .int .u8 0, .int .u8 0, .int .u8 0, .int .u8 0, .int .u8 0, .int .u8 0, .int .u8 0, .int .u8 0, .int .u8 0, .int .u8 0, .int .u8 0, .int .u8 0, .int .u8 0, .int .u8 0, .int .u8 0, .int .u8 0, .int .u8 0, .int .u8 0, .int .u8 0, .int .u8 0, .int .u8 0, .int .u8 0, .int .u8 0, .int .u8 0, .int .u8 0, .int .u8 0, .int .u8 0, .int .u8 0, .int .u8 0, .int .u8 0, .int .u8 0, .int .u8 0, .int .u8 0, .int .u8 0, .int .u8 0, .int .u8 0, .int .u8 0, .int .u8 0, .int .u8 0, .int .u8 0, .int .u8 0, .int .u8 0, .int .u8 0, .int .u8 0, .int .u8 0, .int .u8 0, .int .u8 0, .int .u8 0, .int .u8 0, .int .u8 0, .int .u8 0, .int .u8 0, .int .u8 0, .int .u8 0, .int .u8 0, .int .u8 0]) := by kernel_rfl
def u_disk_write := Try.underlying122
abbrev t_disk_write : Nat := 122
theorem sz_disk_write : tsz P 122 = some (65, 72) := by kernel_rfl
theorem pl_disk_write : fplaces P 122 = some [(0, 1), (1, 64)] := by kernel_rfl
theorem z_disk_write : tzero P 122 = some (.agg #[.int .i64 0, .int .u8 0, .int .u8 0, .int .u8 0, .int .u8 0, .int .u8 0, .int .u8 0, .int .u8 0, .int .u8 0, .int .u8 0, .int .u8 0, .int .u8 0, .int .u8 0, .int .u8 0, .int .u8 0, .int .u8 0, .int .u8 0, .int .u8 0, .int .u8 0, .int .u8 0, .int .u8 0, .int .u8 0, .int .u8 0, .int .u8 0, .int .u8 0, .int .u8 0, .int .u8 0, .int .u8 0, .int .u8 0, .int .u8 0, .int .u8 0, .int .u8 0, .int .u8 0, .int .u8 0, .int .u8 0, .int .u8 0, .int .u8 0, .int .u8 0, .int .u8 0, .int .u8 0, .int .u8 0, .int .u8 0, .int .u8 0, .int .u8 0, .int .u8 0, .int .u8 0, .int .u8 0, .int .u8 0, .int .u8 0, .int .u8 0, .int .u8 0, .int .u8 0, .int .u8 0, .int .u8 0, .int .u8 0, .int .u8 0, .int .u8 0, .int .u8 0, .int .u8 0, .int .u8 0, .int .u8 0, .int .u8 0, .int .u8 0, .int .u8 0, .int .u8 0]) := by kernel_rfl
def u_p_graph_queue_api_Key := Try.underlying123
abbrev t_p_graph_queue_api_Key : Nat := 123
theorem sz_p_graph_queue_api_Key : tsz P 123 = some (1, 8) := by kernel_rfl
theorem z_p_graph_queue_api_Key : tzero P 123 = some (.pointer none) := by kernel_rfl
def u_uint := Try.underlying124
abbrev t_uint : Nat := 124
theorem sz_uint : tsz P 124 = some (1, 8) := by kernel_rfl
theorem z_uint : tzero P 124 = some (.int .u64 0) := by kernel_rfl
def u_uint32 := Try.underlying131
abbrev t_uint32 : Nat := 131
theorem sz_uint32 : tsz P 131 = some (1, 4) := by kernel_rfl
theorem z_uint32 : tzero P 131 = some (.int .u32 0) := by kernel_rfl
def u_p_uint8 := Try.underlying135
abbrev t_p_uint8 : Nat := 135
theorem sz_p_uint8 : tsz P 135 = some (1, 8) := by kernel_rfl
theorem z_p_uint8 : tzero P 135 = some (.pointer none) := by kernel_rfl
def u_st141 := Try.underlying141
abbrev t_st141 : Nat := 141
theorem sz_st141 : tsz P 141 = some (34, 56) := by kernel_rfl
theorem z_st141 : tzero P 141 = some (.agg #[.string ⟨#[]⟩, .int .u8 0, .int .u8 0, .int .u8 0, .int .u8 0, .int .u8 0, .int .u8 0, .int .u8 0, .int .u8 0, .int .u8 0, .int .u8 0, .int .u8 0, .int .u8 0, .int .u8 0, .int .u8 0, .int .u8 0, .int .u8 0, .int .u8 0, .int .u8 0, .int .u8 0, .int .u8 0, .int .u8 0, .int .u8 0, .int .u8 0, .int .u8 0, .int .u8 0, .int .u8 0, .int .u8 0, .int .u8 0, .int .u8 0, .int .u8 0, .int .u8 0, .int .u8 0, .bool false]) := by kernel_rfl
def u_interleafref18_Ref := Try.underlying142
abbrev t_interleafref18_Ref : Nat := 142
theorem sz_interleafref18_Ref : tsz P 142 = some (34, 56) := by kernel_rfl
theorem pl_interleafref18_Ref : fplaces P 142 = some [(0, 1), (1, 32), (33, 1)] := by kernel_rfl
theorem z_interleafref18_Ref : tzero P 142 = some (.agg #[.string ⟨#[]⟩, .int .u8 0, .int .u8 0, .int .u8 0, .int .u8 0, .int .u8 0, .int .u8 0, .int .u8 0, .int .u8 0, .int .u8 0, .int .u8 0, .int .u8 0, .int .u8 0, .int .u8 0, .int .u8 0, .int .u8 0, .int .u8 0, .int .u8 0, .int .u8 0, .int .u8 0, .int .u8 0, .int .u8 0, .int .u8 0, .int .u8 0, .int .u8 0, .int .u8 0, .int .u8 0, .int .u8 0, .int .u8 0, .int .u8 0, .int .u8 0, .int .u8 0, .int .u8 0, .bool false]) := by kernel_rfl
def u_st143 := Try.underlying143
abbrev t_st143 : Nat := 143
theorem sz_st143 : tsz P 143 = some (10, 112) := by kernel_rfl
theorem z_st143 : tzero P 143 = some (.agg #[.int .i64 0, .int .u8 0, .int .i64 0, .int .i64 0, .string ⟨#[]⟩, .int .i64 0, .int .i64 0, .string ⟨#[]⟩, .string ⟨#[]⟩, .string ⟨#[]⟩]) := by kernel_rfl
def u_api_Elem := Try.underlying144
abbrev t_api_Elem : Nat := 144
theorem sz_api_Elem : tsz P 144 = some (10, 112) := by kernel_rfl
theorem pl_api_Elem : fplaces P 144 = some [(0, 1), (1, 1), (2, 1), (3, 1), (4, 1), (5, 1), (6, 1), (7, 1), (8, 1), (9, 1)] := by kernel_rfl
theorem z_api_Elem : tzero P 144 = some (.agg #[.int .i64 0, .int .u8 0, .int .i64 0, .int .i64 0, .string ⟨#[]⟩, .int .i64 0, .int .i64 0, .string ⟨#[]⟩, .string ⟨#[]⟩, .string ⟨#[]⟩]) := by kernel_rfl
end Go.Proofs.K
