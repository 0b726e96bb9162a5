/- Each function's code is what its data say: made by program. -/
import Derived.Test.YtfffnkeogijkkaaGreatTy
import Derived.Test.YtfffnkeogijkkaaGreatDt
namespace Den
open Go Go.Proofs
theorem c5 : cFunc DE 279 43 Tryz.f5 = some a_trencherlaw19o_DeedsKept := by kernel_rfl
theorem n5 : (Tryz.f5.name == "runtime.NumGoroutine") = false := by kernel_rfl
theorem c9 : cFunc DE 279 43 Tryz.f9 = some a_trencherlaw19o_Great := by kernel_rfl
theorem n9 : (Tryz.f9.name == "runtime.NumGoroutine") = false := by kernel_rfl
theorem c13 : cFunc DE 279 43 Tryz.f13 = some a_trencherref14o_Mended := by kernel_rfl
theorem n13 : (Tryz.f13.name == "runtime.NumGoroutine") = false := by kernel_rfl
theorem c17 : cFunc DE 279 43 Tryz.f17 = some a_trencherlaw19o_Clean := by kernel_rfl
theorem n17 : (Tryz.f17.name == "runtime.NumGoroutine") = false := by kernel_rfl
theorem c21 : cFunc DE 279 43 Tryz.f21 = some a_heap_New := by kernel_rfl
theorem n21 : (Tryz.f21.name == "runtime.NumGoroutine") = false := by kernel_rfl
theorem c25 : cFunc DE 279 43 Tryz.f25 = some a_env_Run_goes := by kernel_rfl
theorem n25 : (Tryz.f25.name == "runtime.NumGoroutine") = false := by kernel_rfl
theorem c29 : cFunc DE 279 43 Tryz.f29 = some a_pmem_may := by kernel_rfl
theorem n29 : (Tryz.f29.name == "runtime.NumGoroutine") = false := by kernel_rfl
theorem c33 : cFunc DE 279 43 Tryz.f33 = some a_head_Word := by kernel_rfl
theorem n33 : (Tryz.f33.name == "runtime.NumGoroutine") = false := by kernel_rfl
theorem c37 : cFunc DE 279 43 Tryz.f37 = some a_addr_All := by kernel_rfl
theorem n37 : (Tryz.f37.name == "runtime.NumGoroutine") = false := by kernel_rfl
theorem c41 : cFunc DE 279 43 Tryz.f41 = some a_deeds_Deedc1 := by kernel_rfl
theorem n41 : (Tryz.f41.name == "runtime.NumGoroutine") = false := by kernel_rfl
theorem c45 : cFunc DE 279 43 Tryz.f45 = some a_trencherref12o_Lane := by kernel_rfl
theorem n45 : (Tryz.f45.name == "runtime.NumGoroutine") = false := by kernel_rfl
theorem c49 : cFunc DE 279 43 Tryz.f49 = some a_trencherref12o_Heads := by kernel_rfl
theorem n49 : (Tryz.f49.name == "runtime.NumGoroutine") = false := by kernel_rfl
theorem c53 : cFunc DE 279 43 Tryz.f53 = some a_trencherref05o_Head := by kernel_rfl
theorem n53 : (Tryz.f53.name == "runtime.NumGoroutine") = false := by kernel_rfl
theorem c57 : cFunc DE 279 43 Tryz.f57 = some a_pack_Join := by kernel_rfl
theorem n57 : (Tryz.f57.name == "runtime.NumGoroutine") = false := by kernel_rfl
theorem c61 : cFunc DE 279 43 Tryz.f61 = some a_slices_IndexFunc_api_Head_api_Head := by kernel_rfl
theorem n61 : (Tryz.f61.name == "runtime.NumGoroutine") = false := by kernel_rfl
theorem c65 : cFunc DE 279 43 Tryz.f65 = some a_addr_shape := by kernel_rfl
theorem n65 : (Tryz.f65.name == "runtime.NumGoroutine") = false := by kernel_rfl
theorem c69 : cFunc DE 279 43 Tryz.f69 = some a_geom_Lane := by kernel_rfl
theorem n69 : (Tryz.f69.name == "runtime.NumGoroutine") = false := by kernel_rfl
theorem c73 : cFunc DE 279 43 Tryz.f73 = some a_trencherref05o_Root := by kernel_rfl
theorem n73 : (Tryz.f73.name == "runtime.NumGoroutine") = false := by kernel_rfl
theorem c77 : cFunc DE 279 43 Tryz.f77 = some a_trencherref08o_Read := by kernel_rfl
theorem n77 : (Tryz.f77.name == "runtime.NumGoroutine") = false := by kernel_rfl
theorem c81 : cFunc DE 279 43 Tryz.f81 = some a_pack_walk := by kernel_rfl
theorem n81 : (Tryz.f81.name == "runtime.NumGoroutine") = false := by kernel_rfl
theorem c85 : cFunc DE 279 43 Tryz.f85 = some a_sum_step := by kernel_rfl
theorem n85 : (Tryz.f85.name == "runtime.NumGoroutine") = false := by kernel_rfl
theorem c89 : cFunc DE 279 43 Tryz.f89 = some a_addr_right := by kernel_rfl
theorem n89 : (Tryz.f89.name == "runtime.NumGoroutine") = false := by kernel_rfl
theorem c93 : cFunc DE 279 43 Tryz.f93 = some a_deeds_deed_malloc := by kernel_rfl
theorem n93 : (Tryz.f93.name == "runtime.NumGoroutine") = false := by kernel_rfl
theorem c97 : cFunc DE 279 43 Tryz.f97 = some a_deeds_deed_write := by kernel_rfl
theorem n97 : (Tryz.f97.name == "runtime.NumGoroutine") = false := by kernel_rfl
theorem c101 : cFunc DE 279 43 Tryz.f101 = some a_geom_part := by kernel_rfl
theorem n101 : (Tryz.f101.name == "runtime.NumGoroutine") = false := by kernel_rfl
theorem c105 : cFunc DE 279 43 Tryz.f105 = some a_trencherref09o_Read := by kernel_rfl
theorem n105 : (Tryz.f105.name == "runtime.NumGoroutine") = false := by kernel_rfl
theorem c109 : cFunc DE 279 43 Tryz.f109 = some a_trencherref03o_Bytes := by kernel_rfl
theorem n109 : (Tryz.f109.name == "runtime.NumGoroutine") = false := by kernel_rfl
theorem c113 : cFunc DE 279 43 Tryz.f113 = some a_head_rightsc4 := by kernel_rfl
theorem n113 : (Tryz.f113.name == "runtime.NumGoroutine") = false := by kernel_rfl
theorem c117 : cFunc DE 279 43 Tryz.f117 = some a_classes_Of := by kernel_rfl
theorem n117 : (Tryz.f117.name == "runtime.NumGoroutine") = false := by kernel_rfl
theorem c121 : cFunc DE 279 43 Tryz.f121 = some a_deeds_deed_reserve := by kernel_rfl
theorem n121 : (Tryz.f121.name == "runtime.NumGoroutine") = false := by kernel_rfl
theorem c125 : cFunc DE 279 43 Tryz.f125 = some a_deeds_deed_mallocc2 := by kernel_rfl
theorem n125 : (Tryz.f125.name == "runtime.NumGoroutine") = false := by kernel_rfl
theorem c129 : cFunc DE 279 43 Tryz.f129 = some a_env_Env_Load := by kernel_rfl
theorem n129 : (Tryz.f129.name == "runtime.NumGoroutine") = false := by kernel_rfl
theorem c133 : cFunc DE 279 43 Tryz.f133 = some a_bits_Without := by kernel_rfl
theorem n133 : (Tryz.f133.name == "runtime.NumGoroutine") = false := by kernel_rfl
theorem c137 : cFunc DE 279 43 Tryz.f137 = some a_deeds_deed_back := by kernel_rfl
theorem n137 : (Tryz.f137.name == "runtime.NumGoroutine") = false := by kernel_rfl
theorem c141 : cFunc DE 279 43 Tryz.f141 = some a_deeds_deed_atDatum := by kernel_rfl
theorem n141 : (Tryz.f141.name == "runtime.NumGoroutine") = false := by kernel_rfl
theorem c145 : cFunc DE 279 43 Tryz.f145 = some a_deeds_deed_persistc1 := by kernel_rfl
theorem n145 : (Tryz.f145.name == "runtime.NumGoroutine") = false := by kernel_rfl
theorem c149 : cFunc DE 279 43 Tryz.f149 = some a_env_Env_Fence := by kernel_rfl
theorem n149 : (Tryz.f149.name == "runtime.NumGoroutine") = false := by kernel_rfl
theorem c153 : cFunc DE 279 43 Tryz.f153 = some a_trencherref11o_Whole := by kernel_rfl
theorem n153 : (Tryz.f153.name == "runtime.NumGoroutine") = false := by kernel_rfl
theorem c157 : cFunc DE 279 43 Tryz.f157 = some a_trencherref06o_Of := by kernel_rfl
theorem n157 : (Tryz.f157.name == "runtime.NumGoroutine") = false := by kernel_rfl
theorem c161 : cFunc DE 279 43 Tryz.f161 = some a_deeds_deed_number := by kernel_rfl
theorem n161 : (Tryz.f161.name == "runtime.NumGoroutine") = false := by kernel_rfl
theorem c165 : cFunc DE 279 43 Tryz.f165 = some a_deeds_deed_largec2 := by kernel_rfl
theorem n165 : (Tryz.f165.name == "runtime.NumGoroutine") = false := by kernel_rfl
theorem c169 : cFunc DE 279 43 Tryz.f169 = some a_deeds_deed_reservec1 := by kernel_rfl
theorem n169 : (Tryz.f169.name == "runtime.NumGoroutine") = false := by kernel_rfl
theorem c173 : cFunc DE 279 43 Tryz.f173 = some a_deeds_deed_reservec2c1 := by kernel_rfl
theorem n173 : (Tryz.f173.name == "runtime.NumGoroutine") = false := by kernel_rfl
theorem c177 : cFunc DE 279 43 Tryz.f177 = some a_bits_With := by kernel_rfl
theorem n177 : (Tryz.f177.name == "runtime.NumGoroutine") = false := by kernel_rfl
theorem c181 : cFunc DE 279 43 Tryz.f181 = some a_env_Env_step := by kernel_rfl
theorem n181 : (Tryz.f181.name == "runtime.NumGoroutine") = false := by kernel_rfl
theorem c185 : cFunc DE 279 43 Tryz.f185 = some a_deeds_deed_objectc1 := by kernel_rfl
theorem n185 : (Tryz.f185.name == "runtime.NumGoroutine") = false := by kernel_rfl
theorem c189 : cFunc DE 279 43 Tryz.f189 = some a_block_Read := by kernel_rfl
theorem n189 : (Tryz.f189.name == "runtime.NumGoroutine") = false := by kernel_rfl
theorem c193 : cFunc DE 279 43 Tryz.f193 = some a_deeds_deed_backc2 := by kernel_rfl
theorem n193 : (Tryz.f193.name == "runtime.NumGoroutine") = false := by kernel_rfl
theorem c197 : cFunc DE 279 43 Tryz.f197 = some a_heap_Heap_Drain := by kernel_rfl
theorem n197 : (Tryz.f197.name == "runtime.NumGoroutine") = false := by kernel_rfl
theorem c201 : cFunc DE 279 43 Tryz.f201 = some a_deeds_plan_load := by kernel_rfl
theorem n201 : (Tryz.f201.name == "runtime.NumGoroutine") = false := by kernel_rfl
theorem c205 : cFunc DE 279 43 Tryz.f205 = some a_env_Env_Storec1 := by kernel_rfl
theorem n205 : (Tryz.f205.name == "runtime.NumGoroutine") = false := by kernel_rfl
theorem c209 : cFunc DE 279 43 Tryz.f209 = some a_lane_addresses := by kernel_rfl
theorem n209 : (Tryz.f209.name == "runtime.NumGoroutine") = false := by kernel_rfl
theorem c213 : cFunc DE 279 43 Tryz.f213 = some a_pmem_Region_Fence := by kernel_rfl
theorem n213 : (Tryz.f213.name == "runtime.NumGoroutine") = false := by kernel_rfl
theorem c217 : cFunc DE 279 43 Tryz.f217 = some a_env_Env_Lockc1 := by kernel_rfl
theorem n217 : (Tryz.f217.name == "runtime.NumGoroutine") = false := by kernel_rfl
theorem c221 : cFunc DE 279 43 Tryz.f221 = some a_deeds_deed_numberc1 := by kernel_rfl
theorem n221 : (Tryz.f221.name == "runtime.NumGoroutine") = false := by kernel_rfl
theorem c225 : cFunc DE 279 43 Tryz.f225 = some a_heap_Heap_list := by kernel_rfl
theorem n225 : (Tryz.f225.name == "runtime.NumGoroutine") = false := by kernel_rfl
theorem c229 : cFunc DE 279 43 Tryz.f229 = some a_heap_Heap_blocks := by kernel_rfl
theorem n229 : (Tryz.f229.name == "runtime.NumGoroutine") = false := by kernel_rfl
theorem c233 : cFunc DE 279 43 Tryz.f233 = some a_env_alwaysc1 := by kernel_rfl
theorem n233 : (Tryz.f233.name == "runtime.NumGoroutine") = false := by kernel_rfl
theorem c237 : cFunc DE 279 43 Tryz.f237 = some a_pack_Get := by kernel_rfl
theorem n237 : (Tryz.f237.name == "runtime.NumGoroutine") = false := by kernel_rfl
theorem c241 : cFunc DE 279 43 Tryz.f241 = some a_lane_placed := by kernel_rfl
theorem n241 : (Tryz.f241.name == "runtime.NumGoroutine") = false := by kernel_rfl
theorem c245 : cFunc DE 279 43 Tryz.f245 = some a_slices_Clone_int_int := by kernel_rfl
theorem n245 : (Tryz.f245.name == "runtime.NumGoroutine") = false := by kernel_rfl
theorem c249 : cFunc DE 279 43 Tryz.f249 = some a_slices_Contains_int_int := by kernel_rfl
theorem n249 : (Tryz.f249.name == "runtime.NumGoroutine") = false := by kernel_rfl
theorem c253 : cFunc DE 279 43 Tryz.f253 = some a_slices_Compact_int_int := by kernel_rfl
theorem n253 : (Tryz.f253.name == "runtime.NumGoroutine") = false := by kernel_rfl
theorem c261 : cFunc DE 279 43 Tryz.f261 = some a_locks_Table_Takec1 := by kernel_rfl
theorem n261 : (Tryz.f261.name == "runtime.NumGoroutine") = false := by kernel_rfl
theorem c265 : cFunc DE 279 43 Tryz.f265 = some a_addr_Addr := by kernel_rfl
theorem n265 : (Tryz.f265.name == "runtime.NumGoroutine") = false := by kernel_rfl
theorem c269 : cFunc DE 279 43 Tryz.f269 = some a_lane_rightc1 := by kernel_rfl
theorem n269 : (Tryz.f269.name == "runtime.NumGoroutine") = false := by kernel_rfl
theorem c273 : cFunc DE 279 43 Tryz.f273 = some a_slices_ContainsFunc_int_int := by kernel_rfl
theorem n273 : (Tryz.f273.name == "runtime.NumGoroutine") = false := by kernel_rfl
theorem c277 : cFunc DE 279 43 Tryz.f277 = some a_slices_pdqsortOrdered_int := by kernel_rfl
theorem n277 : (Tryz.f277.name == "runtime.NumGoroutine") = false := by kernel_rfl
theorem c282 : cFunc DE 279 43 Tryz.f282 = some a_slices_insertionSortOrdered_int := by kernel_rfl
theorem n282 : (Tryz.f282.name == "runtime.NumGoroutine") = false := by kernel_rfl
theorem c286 : cFunc DE 279 43 Tryz.f286 = some a_slices_reverseRangeOrdered_int := by kernel_rfl
theorem n286 : (Tryz.f286.name == "runtime.NumGoroutine") = false := by kernel_rfl
theorem c290 : cFunc DE 279 43 Tryz.f290 = some a_slices_partitionOrdered_int := by kernel_rfl
theorem n290 : (Tryz.f290.name == "runtime.NumGoroutine") = false := by kernel_rfl
theorem c294 : cFunc DE 279 43 Tryz.f294 = some a_slices_nextPowerOfTwo := by kernel_rfl
theorem n294 : (Tryz.f294.name == "runtime.NumGoroutine") = false := by kernel_rfl
theorem c298 : cFunc DE 279 43 Tryz.f298 = some a_cmp_isNaN_int := by kernel_rfl
theorem n298 : (Tryz.f298.name == "runtime.NumGoroutine") = false := by kernel_rfl
end Den
