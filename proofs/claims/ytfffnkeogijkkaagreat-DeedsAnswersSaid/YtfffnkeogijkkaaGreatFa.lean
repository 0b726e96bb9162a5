/- Each function's code is what its data say: made by program. -/
import Derived.Test.YtfffnkeogijkkaaGreatTy
import Derived.Test.YtfffnkeogijkkaaGreatDt
namespace Den
open Go Go.Proofs
theorem c3 : cFunc DE 279 43 Tryz.f3 = some a_trencherlaw19o_DeedsAnswers := by kernel_rfl
theorem n3 : (Tryz.f3.name == "runtime.NumGoroutine") = false := by kernel_rfl
theorem c7 : cFunc DE 279 43 Tryz.f7 = some a_deeds_Answer := by kernel_rfl
theorem n7 : (Tryz.f7.name == "runtime.NumGoroutine") = false := by kernel_rfl
theorem c11 : cFunc DE 279 43 Tryz.f11 = some a_trencherlaw19o_World_Run := by kernel_rfl
theorem n11 : (Tryz.f11.name == "runtime.NumGoroutine") = false := by kernel_rfl
theorem c15 : cFunc DE 279 43 Tryz.f15 = some a_env_Run_Answer := by kernel_rfl
theorem n15 : (Tryz.f15.name == "runtime.NumGoroutine") = false := by kernel_rfl
theorem c19 : cFunc DE 279 43 Tryz.f19 = some a_pmem_Of := by kernel_rfl
theorem n19 : (Tryz.f19.name == "runtime.NumGoroutine") = false := by kernel_rfl
theorem c23 : cFunc DE 279 43 Tryz.f23 = some a_env_New := by kernel_rfl
theorem n23 : (Tryz.f23.name == "runtime.NumGoroutine") = false := by kernel_rfl
theorem c27 : cFunc DE 279 43 Tryz.f27 = some a_trencherref14o_Marked := by kernel_rfl
theorem n27 : (Tryz.f27.name == "runtime.NumGoroutine") = false := by kernel_rfl
theorem c31 : cFunc DE 279 43 Tryz.f31 = some a_trencherref07o_Write := by kernel_rfl
theorem n31 : (Tryz.f31.name == "runtime.NumGoroutine") = false := by kernel_rfl
theorem c35 : cFunc DE 279 43 Tryz.f35 = some a_slices_ContainsFunc_api_Head_api_Head := by kernel_rfl
theorem n35 : (Tryz.f35.name == "runtime.NumGoroutine") = false := by kernel_rfl
theorem c39 : cFunc DE 279 43 Tryz.f39 = some a_bits_Has := by kernel_rfl
theorem n39 : (Tryz.f39.name == "runtime.NumGoroutine") = false := by kernel_rfl
theorem c43 : cFunc DE 279 43 Tryz.f43 = some a_env_Run_goesc1 := by kernel_rfl
theorem n43 : (Tryz.f43.name == "runtime.NumGoroutine") = false := by kernel_rfl
theorem c47 : cFunc DE 279 43 Tryz.f47 = some a_trencherref05o_Lane := by kernel_rfl
theorem n47 : (Tryz.f47.name == "runtime.NumGoroutine") = false := by kernel_rfl
theorem c51 : cFunc DE 279 43 Tryz.f51 = some a_trencherref13o_Maps := by kernel_rfl
theorem n51 : (Tryz.f51.name == "runtime.NumGoroutine") = false := by kernel_rfl
theorem c55 : cFunc DE 279 43 Tryz.f55 = some a_trencherref03o_Sealed := by kernel_rfl
theorem n55 : (Tryz.f55.name == "runtime.NumGoroutine") = false := by kernel_rfl
theorem c59 : cFunc DE 279 43 Tryz.f59 = some a_sum_Of := by kernel_rfl
theorem n59 : (Tryz.f59.name == "runtime.NumGoroutine") = false := by kernel_rfl
theorem c63 : cFunc DE 279 43 Tryz.f63 = some a_geom_Where := by kernel_rfl
theorem n63 : (Tryz.f63.name == "runtime.NumGoroutine") = false := by kernel_rfl
theorem c67 : cFunc DE 279 43 Tryz.f67 = some a_locks_Table_Len := by kernel_rfl
theorem n67 : (Tryz.f67.name == "runtime.NumGoroutine") = false := by kernel_rfl
theorem c71 : cFunc DE 279 43 Tryz.f71 = some a_trencherref10o_Read := by kernel_rfl
theorem n71 : (Tryz.f71.name == "runtime.NumGoroutine") = false := by kernel_rfl
theorem c75 : cFunc DE 279 43 Tryz.f75 = some a_trencherref13o_Object := by kernel_rfl
theorem n75 : (Tryz.f75.name == "runtime.NumGoroutine") = false := by kernel_rfl
theorem c79 : cFunc DE 279 43 Tryz.f79 = some a_trencherref03o_Of := by kernel_rfl
theorem n79 : (Tryz.f79.name == "runtime.NumGoroutine") = false := by kernel_rfl
theorem c83 : cFunc DE 279 43 Tryz.f83 = some a_pack_mask := by kernel_rfl
theorem n83 : (Tryz.f83.name == "runtime.NumGoroutine") = false := by kernel_rfl
theorem c87 : cFunc DE 279 43 Tryz.f87 = some a_geom_Span := by kernel_rfl
theorem n87 : (Tryz.f87.name == "runtime.NumGoroutine") = false := by kernel_rfl
theorem c91 : cFunc DE 279 43 Tryz.f91 = some a_classes_Blocks := by kernel_rfl
theorem n91 : (Tryz.f91.name == "runtime.NumGoroutine") = false := by kernel_rfl
theorem c95 : cFunc DE 279 43 Tryz.f95 = some a_deeds_deed_set := by kernel_rfl
theorem n95 : (Tryz.f95.name == "runtime.NumGoroutine") = false := by kernel_rfl
theorem c99 : cFunc DE 279 43 Tryz.f99 = some a_deeds_deed_persist := by kernel_rfl
theorem n99 : (Tryz.f99.name == "runtime.NumGoroutine") = false := by kernel_rfl
theorem c103 : cFunc DE 279 43 Tryz.f103 = some a_trencherref11o_All := by kernel_rfl
theorem n103 : (Tryz.f103.name == "runtime.NumGoroutine") = false := by kernel_rfl
theorem c107 : cFunc DE 279 43 Tryz.f107 = some a_trencherref08o_May := by kernel_rfl
theorem n107 : (Tryz.f107.name == "runtime.NumGoroutine") = false := by kernel_rfl
theorem c111 : cFunc DE 279 43 Tryz.f111 = some a_head_rightsc2 := by kernel_rfl
theorem n111 : (Tryz.f111.name == "runtime.NumGoroutine") = false := by kernel_rfl
theorem c115 : cFunc DE 279 43 Tryz.f115 = some a_pack_field := by kernel_rfl
theorem n115 : (Tryz.f115.name == "runtime.NumGoroutine") = false := by kernel_rfl
theorem c119 : cFunc DE 279 43 Tryz.f119 = some a_deeds_deed_under := by kernel_rfl
theorem n119 : (Tryz.f119.name == "runtime.NumGoroutine") = false := by kernel_rfl
theorem c123 : cFunc DE 279 43 Tryz.f123 = some a_deeds_deed_settle := by kernel_rfl
theorem n123 : (Tryz.f123.name == "runtime.NumGoroutine") = false := by kernel_rfl
theorem c127 : cFunc DE 279 43 Tryz.f127 = some a_deeds_deed_freec1 := by kernel_rfl
theorem n127 : (Tryz.f127.name == "runtime.NumGoroutine") = false := by kernel_rfl
theorem c131 : cFunc DE 279 43 Tryz.f131 = some a_block_Slot := by kernel_rfl
theorem n131 : (Tryz.f131.name == "runtime.NumGoroutine") = false := by kernel_rfl
theorem c135 : cFunc DE 279 43 Tryz.f135 = some a_geom_Head := by kernel_rfl
theorem n135 : (Tryz.f135.name == "runtime.NumGoroutine") = false := by kernel_rfl
theorem c139 : cFunc DE 279 43 Tryz.f139 = some a_deeds_plan_point := by kernel_rfl
theorem n139 : (Tryz.f139.name == "runtime.NumGoroutine") = false := by kernel_rfl
theorem c143 : cFunc DE 279 43 Tryz.f143 = some a_env_Env_Store := by kernel_rfl
theorem n143 : (Tryz.f143.name == "runtime.NumGoroutine") = false := by kernel_rfl
theorem c147 : cFunc DE 279 43 Tryz.f147 = some a_lane_Lines := by kernel_rfl
theorem n147 : (Tryz.f147.name == "runtime.NumGoroutine") = false := by kernel_rfl
theorem c151 : cFunc DE 279 43 Tryz.f151 = some a_deeds_plan_edit := by kernel_rfl
theorem n151 : (Tryz.f151.name == "runtime.NumGoroutine") = false := by kernel_rfl
theorem c155 : cFunc DE 279 43 Tryz.f155 = some a_trencherref05o_Span := by kernel_rfl
theorem n155 : (Tryz.f155.name == "runtime.NumGoroutine") = false := by kernel_rfl
theorem c159 : cFunc DE 279 43 Tryz.f159 = some a_env_Env_Unlock := by kernel_rfl
theorem n159 : (Tryz.f159.name == "runtime.NumGoroutine") = false := by kernel_rfl
theorem c163 : cFunc DE 279 43 Tryz.f163 = some a_heap_Heap_Room := by kernel_rfl
theorem n163 : (Tryz.f163.name == "runtime.NumGoroutine") = false := by kernel_rfl
theorem c167 : cFunc DE 279 43 Tryz.f167 = some a_heap_Heap_Loose := by kernel_rfl
theorem n167 : (Tryz.f167.name == "runtime.NumGoroutine") = false := by kernel_rfl
theorem c171 : cFunc DE 279 43 Tryz.f171 = some a_heap_Heap_Refill := by kernel_rfl
theorem n171 : (Tryz.f171.name == "runtime.NumGoroutine") = false := by kernel_rfl
theorem c175 : cFunc DE 279 43 Tryz.f175 = some a_deeds_deed_kept := by kernel_rfl
theorem n175 : (Tryz.f175.name == "runtime.NumGoroutine") = false := by kernel_rfl
theorem c179 : cFunc DE 279 43 Tryz.f179 = some a_deeds_deed_oncec1 := by kernel_rfl
theorem n179 : (Tryz.f179.name == "runtime.NumGoroutine") = false := by kernel_rfl
theorem c183 : cFunc DE 279 43 Tryz.f183 = some a_env_Env_Loadc1 := by kernel_rfl
theorem n183 : (Tryz.f183.name == "runtime.NumGoroutine") = false := by kernel_rfl
theorem c187 : cFunc DE 279 43 Tryz.f187 = some a_deeds_spotWidths := by kernel_rfl
theorem n187 : (Tryz.f187.name == "runtime.NumGoroutine") = false := by kernel_rfl
theorem c191 : cFunc DE 279 43 Tryz.f191 = some a_deeds_deed_backc1 := by kernel_rfl
theorem n191 : (Tryz.f191.name == "runtime.NumGoroutine") = false := by kernel_rfl
theorem c195 : cFunc DE 279 43 Tryz.f195 = some a_deeds_deed_backc3 := by kernel_rfl
theorem n195 : (Tryz.f195.name == "runtime.NumGoroutine") = false := by kernel_rfl
theorem c199 : cFunc DE 279 43 Tryz.f199 = some a_deeds_deed_backc3c2 := by kernel_rfl
theorem n199 : (Tryz.f199.name == "runtime.NumGoroutine") = false := by kernel_rfl
theorem c203 : cFunc DE 279 43 Tryz.f203 = some a_deeds_plan_put := by kernel_rfl
theorem n203 : (Tryz.f203.name == "runtime.NumGoroutine") = false := by kernel_rfl
theorem c207 : cFunc DE 279 43 Tryz.f207 = some a_block_Data := by kernel_rfl
theorem n207 : (Tryz.f207.name == "runtime.NumGoroutine") = false := by kernel_rfl
theorem c211 : cFunc DE 279 43 Tryz.f211 = some a_pmem_Region_Flush := by kernel_rfl
theorem n211 : (Tryz.f211.name == "runtime.NumGoroutine") = false := by kernel_rfl
theorem c215 : cFunc DE 279 43 Tryz.f215 = some a_slices_ContainsFunc_api_Entry_api_Entry := by kernel_rfl
theorem n215 : (Tryz.f215.name == "runtime.NumGoroutine") = false := by kernel_rfl
theorem c219 : cFunc DE 279 43 Tryz.f219 = some a_env_Env_Unlockc1 := by kernel_rfl
theorem n219 : (Tryz.f219.name == "runtime.NumGoroutine") = false := by kernel_rfl
theorem c223 : cFunc DE 279 43 Tryz.f223 = some a_deeds_deed_takec1 := by kernel_rfl
theorem n223 : (Tryz.f223.name == "runtime.NumGoroutine") = false := by kernel_rfl
theorem c227 : cFunc DE 279 43 Tryz.f227 = some a_heap_pop := by kernel_rfl
theorem n227 : (Tryz.f227.name == "runtime.NumGoroutine") = false := by kernel_rfl
theorem c231 : cFunc DE 279 43 Tryz.f231 = some a_block_may := by kernel_rfl
theorem n231 : (Tryz.f231.name == "runtime.NumGoroutine") = false := by kernel_rfl
theorem c235 : cFunc DE 279 43 Tryz.f235 = some a_pmem_Region_Loadc1 := by kernel_rfl
theorem n235 : (Tryz.f235.name == "runtime.NumGoroutine") = false := by kernel_rfl
theorem c239 : cFunc DE 279 43 Tryz.f239 = some a_lane_right := by kernel_rfl
theorem n239 : (Tryz.f239.name == "runtime.NumGoroutine") = false := by kernel_rfl
theorem c243 : cFunc DE 279 43 Tryz.f243 = some a_entry_Seal := by kernel_rfl
theorem n243 : (Tryz.f243.name == "runtime.NumGoroutine") = false := by kernel_rfl
theorem c247 : cFunc DE 279 43 Tryz.f247 = some a_slices_DeleteFunc_int_int := by kernel_rfl
theorem n247 : (Tryz.f247.name == "runtime.NumGoroutine") = false := by kernel_rfl
theorem c251 : cFunc DE 279 43 Tryz.f251 = some a_pmem_Region_Storec1 := by kernel_rfl
theorem n251 : (Tryz.f251.name == "runtime.NumGoroutine") = false := by kernel_rfl
theorem c255 : cFunc DE 279 43 Tryz.f255 = some a_pmem_Region_noted := by kernel_rfl
theorem n255 : (Tryz.f255.name == "runtime.NumGoroutine") = false := by kernel_rfl
theorem c259 : cFunc DE 279 43 Tryz.f259 = some a_slices_IndexFunc_api_Entry_api_Entry := by kernel_rfl
theorem n259 : (Tryz.f259.name == "runtime.NumGoroutine") = false := by kernel_rfl
theorem c263 : cFunc DE 279 43 Tryz.f263 = some a_locks_Table_Leavec1 := by kernel_rfl
theorem n263 : (Tryz.f263.name == "runtime.NumGoroutine") = false := by kernel_rfl
theorem c267 : cFunc DE 279 43 Tryz.f267 = some a_entry_may := by kernel_rfl
theorem n267 : (Tryz.f267.name == "runtime.NumGoroutine") = false := by kernel_rfl
theorem c271 : cFunc DE 279 43 Tryz.f271 = some a_geom_Entry := by kernel_rfl
theorem n271 : (Tryz.f271.name == "runtime.NumGoroutine") = false := by kernel_rfl
theorem c275 : cFunc DE 279 43 Tryz.f275 = some a_slices_IndexFunc_int_int := by kernel_rfl
theorem n275 : (Tryz.f275.name == "runtime.NumGoroutine") = false := by kernel_rfl
theorem c280 : cFunc DE 279 43 Tryz.f280 = some a_pmem_Region_Size := by kernel_rfl
theorem n280 : (Tryz.f280.name == "runtime.NumGoroutine") = false := by kernel_rfl
theorem c284 : cFunc DE 279 43 Tryz.f284 = some a_slices_breakPatternsOrdered_int := by kernel_rfl
theorem n284 : (Tryz.f284.name == "runtime.NumGoroutine") = false := by kernel_rfl
theorem c288 : cFunc DE 279 43 Tryz.f288 = some a_cmp_Less_int := by kernel_rfl
theorem n288 : (Tryz.f288.name == "runtime.NumGoroutine") = false := by kernel_rfl
theorem c292 : cFunc DE 279 43 Tryz.f292 = some a_mathbits_Len64 := by kernel_rfl
theorem n292 : (Tryz.f292.name == "runtime.NumGoroutine") = false := by kernel_rfl
theorem c296 : cFunc DE 279 43 Tryz.f296 = some a_slices_medianAdjacentOrdered_int := by kernel_rfl
theorem n296 : (Tryz.f296.name == "runtime.NumGoroutine") = false := by kernel_rfl
end Den
