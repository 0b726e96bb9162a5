/- Each function's code is what its data say: made by program. -/
import Derived.Test.YtfffnkeogijkkaaGreatTy
import Derived.Test.YtfffnkeogijkkaaGreatDt
namespace Den
open Go Go.Proofs
theorem c4 : cFunc DE 279 43 Tryz.f4 = some a_trencherlaw19o_DeedsRefuse := by kernel_rfl
theorem n4 : (Tryz.f4.name == "runtime.NumGoroutine") = false := by kernel_rfl
theorem c8 : cFunc DE 279 43 Tryz.f8 = some a_trencherref05o_May := by kernel_rfl
theorem n8 : (Tryz.f8.name == "runtime.NumGoroutine") = false := by kernel_rfl
theorem c12 : cFunc DE 279 43 Tryz.f12 = some a_env_Run_All := by kernel_rfl
theorem n12 : (Tryz.f12.name == "runtime.NumGoroutine") = false := by kernel_rfl
theorem c16 : cFunc DE 279 43 Tryz.f16 = some a_trencherref12o_Words := by kernel_rfl
theorem n16 : (Tryz.f16.name == "runtime.NumGoroutine") = false := by kernel_rfl
theorem c20 : cFunc DE 279 43 Tryz.f20 = some a_trencherref12o_Fresh := by kernel_rfl
theorem n20 : (Tryz.f20.name == "runtime.NumGoroutine") = false := by kernel_rfl
theorem c24 : cFunc DE 279 43 Tryz.f24 = some a_deeds_Deed := by kernel_rfl
theorem n24 : (Tryz.f24.name == "runtime.NumGoroutine") = false := by kernel_rfl
theorem c28 : cFunc DE 279 43 Tryz.f28 = some a_slices_Clone_uint64o_uint64 := by kernel_rfl
theorem n28 : (Tryz.f28.name == "runtime.NumGoroutine") = false := by kernel_rfl
theorem c32 : cFunc DE 279 43 Tryz.f32 = some a_heap_Newc1 := by kernel_rfl
theorem n32 : (Tryz.f32.name == "runtime.NumGoroutine") = false := by kernel_rfl
theorem c36 : cFunc DE 279 43 Tryz.f36 = some a_slices_Clone_api_Head_api_Head := by kernel_rfl
theorem n36 : (Tryz.f36.name == "runtime.NumGoroutine") = false := by kernel_rfl
theorem c40 : cFunc DE 279 43 Tryz.f40 = some a_locks_Table_Drop := by kernel_rfl
theorem n40 : (Tryz.f40.name == "runtime.NumGoroutine") = false := by kernel_rfl
theorem c44 : cFunc DE 279 43 Tryz.f44 = some a_trencherref07o_Read := by kernel_rfl
theorem n44 : (Tryz.f44.name == "runtime.NumGoroutine") = false := by kernel_rfl
theorem c48 : cFunc DE 279 43 Tryz.f48 = some a_trencherref13o_Reach := by kernel_rfl
theorem n48 : (Tryz.f48.name == "runtime.NumGoroutine") = false := by kernel_rfl
theorem c52 : cFunc DE 279 43 Tryz.f52 = some a_trencherref08o_Word := by kernel_rfl
theorem n52 : (Tryz.f52.name == "runtime.NumGoroutine") = false := by kernel_rfl
theorem c56 : cFunc DE 279 43 Tryz.f56 = some a_head_may := by kernel_rfl
theorem n56 : (Tryz.f56.name == "runtime.NumGoroutine") = false := by kernel_rfl
theorem c60 : cFunc DE 279 43 Tryz.f60 = some a_geom_within := by kernel_rfl
theorem n60 : (Tryz.f60.name == "runtime.NumGoroutine") = false := by kernel_rfl
theorem c64 : cFunc DE 279 43 Tryz.f64 = some a_addr_Whole := by kernel_rfl
theorem n64 : (Tryz.f64.name == "runtime.NumGoroutine") = false := by kernel_rfl
theorem c68 : cFunc DE 279 43 Tryz.f68 = some a_deeds_kinds := by kernel_rfl
theorem n68 : (Tryz.f68.name == "runtime.NumGoroutine") = false := by kernel_rfl
theorem c72 : cFunc DE 279 43 Tryz.f72 = some a_trencherref05o_Where := by kernel_rfl
theorem n72 : (Tryz.f72.name == "runtime.NumGoroutine") = false := by kernel_rfl
theorem c76 : cFunc DE 279 43 Tryz.f76 = some a_trencherref12o_Fits := by kernel_rfl
theorem n76 : (Tryz.f76.name == "runtime.NumGoroutine") = false := by kernel_rfl
theorem c80 : cFunc DE 279 43 Tryz.f80 = some a_head_rights := by kernel_rfl
theorem n80 : (Tryz.f80.name == "runtime.NumGoroutine") = false := by kernel_rfl
theorem c84 : cFunc DE 279 43 Tryz.f84 = some a_pack_Put := by kernel_rfl
theorem n84 : (Tryz.f84.name == "runtime.NumGoroutine") = false := by kernel_rfl
theorem c88 : cFunc DE 279 43 Tryz.f88 = some a_geom_areas := by kernel_rfl
theorem n88 : (Tryz.f88.name == "runtime.NumGoroutine") = false := by kernel_rfl
theorem c92 : cFunc DE 279 43 Tryz.f92 = some a_classes_Size := by kernel_rfl
theorem n92 : (Tryz.f92.name == "runtime.NumGoroutine") = false := by kernel_rfl
theorem c96 : cFunc DE 279 43 Tryz.f96 = some a_deeds_deed_get := by kernel_rfl
theorem n96 : (Tryz.f96.name == "runtime.NumGoroutine") = false := by kernel_rfl
theorem c100 : cFunc DE 279 43 Tryz.f100 = some a_deeds_deed_tx := by kernel_rfl
theorem n100 : (Tryz.f100.name == "runtime.NumGoroutine") = false := by kernel_rfl
theorem c104 : cFunc DE 279 43 Tryz.f104 = some a_trencherref01o_Has := by kernel_rfl
theorem n104 : (Tryz.f104.name == "runtime.NumGoroutine") = false := by kernel_rfl
theorem c108 : cFunc DE 279 43 Tryz.f108 = some a_trencherref01o_Bit := by kernel_rfl
theorem n108 : (Tryz.f108.name == "runtime.NumGoroutine") = false := by kernel_rfl
theorem c112 : cFunc DE 279 43 Tryz.f112 = some a_head_rightsc3 := by kernel_rfl
theorem n112 : (Tryz.f112.name == "runtime.NumGoroutine") = false := by kernel_rfl
theorem c116 : cFunc DE 279 43 Tryz.f116 = some a_addr_rightc1 := by kernel_rfl
theorem n116 : (Tryz.f116.name == "runtime.NumGoroutine") = false := by kernel_rfl
theorem c120 : cFunc DE 279 43 Tryz.f120 = some a_deeds_deed_large := by kernel_rfl
theorem n120 : (Tryz.f120.name == "runtime.NumGoroutine") = false := by kernel_rfl
theorem c124 : cFunc DE 279 43 Tryz.f124 = some a_deeds_deed_once := by kernel_rfl
theorem n124 : (Tryz.f124.name == "runtime.NumGoroutine") = false := by kernel_rfl
theorem c128 : cFunc DE 279 43 Tryz.f128 = some a_deeds_deed_place := by kernel_rfl
theorem n128 : (Tryz.f128.name == "runtime.NumGoroutine") = false := by kernel_rfl
theorem c132 : cFunc DE 279 43 Tryz.f132 = some a_deeds_deed_mapAt := by kernel_rfl
theorem n132 : (Tryz.f132.name == "runtime.NumGoroutine") = false := by kernel_rfl
theorem c136 : cFunc DE 279 43 Tryz.f136 = some a_deeds_deed_publish := by kernel_rfl
theorem n136 : (Tryz.f136.name == "runtime.NumGoroutine") = false := by kernel_rfl
theorem c140 : cFunc DE 279 43 Tryz.f140 = some a_deeds_deed_getc1 := by kernel_rfl
theorem n140 : (Tryz.f140.name == "runtime.NumGoroutine") = false := by kernel_rfl
theorem c144 : cFunc DE 279 43 Tryz.f144 = some a_deeds_deed_readc1 := by kernel_rfl
theorem n144 : (Tryz.f144.name == "runtime.NumGoroutine") = false := by kernel_rfl
theorem c148 : cFunc DE 279 43 Tryz.f148 = some a_env_Env_Flush := by kernel_rfl
theorem n148 : (Tryz.f148.name == "runtime.NumGoroutine") = false := by kernel_rfl
theorem c152 : cFunc DE 279 43 Tryz.f152 = some a_entry_Last := by kernel_rfl
theorem n152 : (Tryz.f152.name == "runtime.NumGoroutine") = false := by kernel_rfl
theorem c156 : cFunc DE 279 43 Tryz.f156 = some a_trencherref09o_May := by kernel_rfl
theorem n156 : (Tryz.f156.name == "runtime.NumGoroutine") = false := by kernel_rfl
theorem c160 : cFunc DE 279 43 Tryz.f160 = some a_classes_Spans := by kernel_rfl
theorem n160 : (Tryz.f160.name == "runtime.NumGoroutine") = false := by kernel_rfl
theorem c164 : cFunc DE 279 43 Tryz.f164 = some a_heap_Heap_Large := by kernel_rfl
theorem n164 : (Tryz.f164.name == "runtime.NumGoroutine") = false := by kernel_rfl
theorem c168 : cFunc DE 279 43 Tryz.f168 = some a_deeds_deed_take := by kernel_rfl
theorem n168 : (Tryz.f168.name == "runtime.NumGoroutine") = false := by kernel_rfl
theorem c172 : cFunc DE 279 43 Tryz.f172 = some a_deeds_deed_reservec2 := by kernel_rfl
theorem n172 : (Tryz.f172.name == "runtime.NumGoroutine") = false := by kernel_rfl
theorem c176 : cFunc DE 279 43 Tryz.f176 = some a_block_Word := by kernel_rfl
theorem n176 : (Tryz.f176.name == "runtime.NumGoroutine") = false := by kernel_rfl
theorem c180 : cFunc DE 279 43 Tryz.f180 = some a_heap_Heap_cache := by kernel_rfl
theorem n180 : (Tryz.f180.name == "runtime.NumGoroutine") = false := by kernel_rfl
theorem c184 : cFunc DE 279 43 Tryz.f184 = some a_pmem_Region_Load := by kernel_rfl
theorem n184 : (Tryz.f184.name == "runtime.NumGoroutine") = false := by kernel_rfl
theorem c188 : cFunc DE 279 43 Tryz.f188 = some a_pack_Split := by kernel_rfl
theorem n188 : (Tryz.f188.name == "runtime.NumGoroutine") = false := by kernel_rfl
theorem c192 : cFunc DE 279 43 Tryz.f192 = some a_deeds_deed_backc1c1 := by kernel_rfl
theorem n192 : (Tryz.f192.name == "runtime.NumGoroutine") = false := by kernel_rfl
theorem c196 : cFunc DE 279 43 Tryz.f196 = some a_deeds_deed_backc3c1 := by kernel_rfl
theorem n196 : (Tryz.f196.name == "runtime.NumGoroutine") = false := by kernel_rfl
theorem c200 : cFunc DE 279 43 Tryz.f200 = some a_heap_Heap_Release := by kernel_rfl
theorem n200 : (Tryz.f200.name == "runtime.NumGoroutine") = false := by kernel_rfl
theorem c204 : cFunc DE 279 43 Tryz.f204 = some a_deeds_deed_atDatumc1 := by kernel_rfl
theorem n204 : (Tryz.f204.name == "runtime.NumGoroutine") = false := by kernel_rfl
theorem c208 : cFunc DE 279 43 Tryz.f208 = some a_lane_lines := by kernel_rfl
theorem n208 : (Tryz.f208.name == "runtime.NumGoroutine") = false := by kernel_rfl
theorem c212 : cFunc DE 279 43 Tryz.f212 = some a_env_Env_Fencec1 := by kernel_rfl
theorem n212 : (Tryz.f212.name == "runtime.NumGoroutine") = false := by kernel_rfl
theorem c216 : cFunc DE 279 43 Tryz.f216 = some a_trencherref11o_May := by kernel_rfl
theorem n216 : (Tryz.f216.name == "runtime.NumGoroutine") = false := by kernel_rfl
theorem c220 : cFunc DE 279 43 Tryz.f220 = some a_locks_Table_Leave := by kernel_rfl
theorem n220 : (Tryz.f220.name == "runtime.NumGoroutine") = false := by kernel_rfl
theorem c224 : cFunc DE 279 43 Tryz.f224 = some a_heap_Heap_Take := by kernel_rfl
theorem n224 : (Tryz.f224.name == "runtime.NumGoroutine") = false := by kernel_rfl
theorem c228 : cFunc DE 279 43 Tryz.f228 = some a_heap_class := by kernel_rfl
theorem n228 : (Tryz.f228.name == "runtime.NumGoroutine") = false := by kernel_rfl
theorem c232 : cFunc DE 279 43 Tryz.f232 = some a_block_widths := by kernel_rfl
theorem n232 : (Tryz.f232.name == "runtime.NumGoroutine") = false := by kernel_rfl
theorem c236 : cFunc DE 279 43 Tryz.f236 = some a_pack_Splitc1 := by kernel_rfl
theorem n236 : (Tryz.f236.name == "runtime.NumGoroutine") = false := by kernel_rfl
theorem c240 : cFunc DE 279 43 Tryz.f240 = some a_lane_kept := by kernel_rfl
theorem n240 : (Tryz.f240.name == "runtime.NumGoroutine") = false := by kernel_rfl
theorem c244 : cFunc DE 279 43 Tryz.f244 = some a_heap_copied := by kernel_rfl
theorem n244 : (Tryz.f244.name == "runtime.NumGoroutine") = false := by kernel_rfl
theorem c248 : cFunc DE 279 43 Tryz.f248 = some a_heap_Heap_Releasec1 := by kernel_rfl
theorem n248 : (Tryz.f248.name == "runtime.NumGoroutine") = false := by kernel_rfl
theorem c252 : cFunc DE 279 43 Tryz.f252 = some a_slices_Sort_int_int := by kernel_rfl
theorem n252 : (Tryz.f252.name == "runtime.NumGoroutine") = false := by kernel_rfl
theorem c256 : cFunc DE 279 43 Tryz.f256 = some a_pmem_line := by kernel_rfl
theorem n256 : (Tryz.f256.name == "runtime.NumGoroutine") = false := by kernel_rfl
theorem c260 : cFunc DE 279 43 Tryz.f260 = some a_locks_Table_at := by kernel_rfl
theorem n260 : (Tryz.f260.name == "runtime.NumGoroutine") = false := by kernel_rfl
theorem c264 : cFunc DE 279 43 Tryz.f264 = some a_heap_Heap_freec1 := by kernel_rfl
theorem n264 : (Tryz.f264.name == "runtime.NumGoroutine") = false := by kernel_rfl
theorem c268 : cFunc DE 279 43 Tryz.f268 = some a_entry_widths := by kernel_rfl
theorem n268 : (Tryz.f268.name == "runtime.NumGoroutine") = false := by kernel_rfl
theorem c272 : cFunc DE 279 43 Tryz.f272 = some a_sum_Sealed := by kernel_rfl
theorem n272 : (Tryz.f272.name == "runtime.NumGoroutine") = false := by kernel_rfl
theorem c276 : cFunc DE 279 43 Tryz.f276 = some a_slices_Index_int_int := by kernel_rfl
theorem n276 : (Tryz.f276.name == "runtime.NumGoroutine") = false := by kernel_rfl
theorem c281 : cFunc DE 279 43 Tryz.f281 = some a_entry_mayc1 := by kernel_rfl
theorem n281 : (Tryz.f281.name == "runtime.NumGoroutine") = false := by kernel_rfl
theorem c285 : cFunc DE 279 43 Tryz.f285 = some a_slices_choosePivotOrdered_int := by kernel_rfl
theorem n285 : (Tryz.f285.name == "runtime.NumGoroutine") = false := by kernel_rfl
theorem c289 : cFunc DE 279 43 Tryz.f289 = some a_slices_partitionEqualOrdered_int := by kernel_rfl
theorem n289 : (Tryz.f289.name == "runtime.NumGoroutine") = false := by kernel_rfl
theorem c293 : cFunc DE 279 43 Tryz.f293 = some a_slices_siftDownOrdered_int := by kernel_rfl
theorem n293 : (Tryz.f293.name == "runtime.NumGoroutine") = false := by kernel_rfl
theorem c297 : cFunc DE 279 43 Tryz.f297 = some a_slices_medianOrdered_int := by kernel_rfl
theorem n297 : (Tryz.f297.name == "runtime.NumGoroutine") = false := by kernel_rfl
end Den
