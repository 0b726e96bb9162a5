/- Each function's code is what its data say: made by program. -/
import Derived.Test.YtfffnkeogijkkaaGreatTy
import Derived.Test.YtfffnkeogijkkaaGreatDt
namespace Den
open Go Go.Proofs
theorem c6 : cFunc DE 279 43 Tryz.f6 = some a_trencherlaw19o_alive := by kernel_rfl
theorem n6 : (Tryz.f6.name == "runtime.NumGoroutine") = false := by kernel_rfl
theorem c10 : cFunc DE 279 43 Tryz.f10 = some a_trencherlaw19o_NewWorld := by kernel_rfl
theorem n10 : (Tryz.f10.name == "runtime.NumGoroutine") = false := by kernel_rfl
theorem c14 : cFunc DE 279 43 Tryz.f14 = some a_pmem_Region_Seen := by kernel_rfl
theorem n14 : (Tryz.f14.name == "runtime.NumGoroutine") = false := by kernel_rfl
theorem c18 : cFunc DE 279 43 Tryz.f18 = some a_pmem_Region_Kept := by kernel_rfl
theorem n18 : (Tryz.f18.name == "runtime.NumGoroutine") = false := by kernel_rfl
theorem c22 : cFunc DE 279 43 Tryz.f22 = some a_locks_New := by kernel_rfl
theorem n22 : (Tryz.f22.name == "runtime.NumGoroutine") = false := by kernel_rfl
theorem c26 : cFunc DE 279 43 Tryz.f26 = some a_trencherref12o_Replayed := by kernel_rfl
theorem n26 : (Tryz.f26.name == "runtime.NumGoroutine") = false := by kernel_rfl
theorem c30 : cFunc DE 279 43 Tryz.f30 = some a_trencherref05o_Total := by kernel_rfl
theorem n30 : (Tryz.f30.name == "runtime.NumGoroutine") = false := by kernel_rfl
theorem c34 : cFunc DE 279 43 Tryz.f34 = some a_geom_May := by kernel_rfl
theorem n34 : (Tryz.f34.name == "runtime.NumGoroutine") = false := by kernel_rfl
theorem c38 : cFunc DE 279 43 Tryz.f38 = some a_addr_Spot := by kernel_rfl
theorem n38 : (Tryz.f38.name == "runtime.NumGoroutine") = false := by kernel_rfl
theorem c42 : cFunc DE 279 43 Tryz.f42 = some a_deeds_deed_do := by kernel_rfl
theorem n42 : (Tryz.f42.name == "runtime.NumGoroutine") = false := by kernel_rfl
theorem c46 : cFunc DE 279 43 Tryz.f46 = some a_trencherref12o_May := by kernel_rfl
theorem n46 : (Tryz.f46.name == "runtime.NumGoroutine") = false := by kernel_rfl
theorem c50 : cFunc DE 279 43 Tryz.f50 = some a_trencherref13o_Keeps := by kernel_rfl
theorem n50 : (Tryz.f50.name == "runtime.NumGoroutine") = false := by kernel_rfl
theorem c54 : cFunc DE 279 43 Tryz.f54 = some a_trencherref09o_Word := by kernel_rfl
theorem n54 : (Tryz.f54.name == "runtime.NumGoroutine") = false := by kernel_rfl
theorem c58 : cFunc DE 279 43 Tryz.f58 = some a_head_widths := by kernel_rfl
theorem n58 : (Tryz.f58.name == "runtime.NumGoroutine") = false := by kernel_rfl
theorem c62 : cFunc DE 279 43 Tryz.f62 = some a_addr_blocks := by kernel_rfl
theorem n62 : (Tryz.f62.name == "runtime.NumGoroutine") = false := by kernel_rfl
theorem c66 : cFunc DE 279 43 Tryz.f66 = some a_bits_one := by kernel_rfl
theorem n66 : (Tryz.f66.name == "runtime.NumGoroutine") = false := by kernel_rfl
theorem c70 : cFunc DE 279 43 Tryz.f70 = some a_deeds_failed := by kernel_rfl
theorem n70 : (Tryz.f70.name == "runtime.NumGoroutine") = false := by kernel_rfl
theorem c74 : cFunc DE 279 43 Tryz.f74 = some a_trencherref13o_find := by kernel_rfl
theorem n74 : (Tryz.f74.name == "runtime.NumGoroutine") = false := by kernel_rfl
theorem c78 : cFunc DE 279 43 Tryz.f78 = some a_trencherref01o_With := by kernel_rfl
theorem n78 : (Tryz.f78.name == "runtime.NumGoroutine") = false := by kernel_rfl
theorem c82 : cFunc DE 279 43 Tryz.f82 = some a_pack_Joinc1 := by kernel_rfl
theorem n82 : (Tryz.f82.name == "runtime.NumGoroutine") = false := by kernel_rfl
theorem c86 : cFunc DE 279 43 Tryz.f86 = some a_addr_blocksc1 := by kernel_rfl
theorem n86 : (Tryz.f86.name == "runtime.NumGoroutine") = false := by kernel_rfl
theorem c90 : cFunc DE 279 43 Tryz.f90 = some a_head_Run := by kernel_rfl
theorem n90 : (Tryz.f90.name == "runtime.NumGoroutine") = false := by kernel_rfl
theorem c94 : cFunc DE 279 43 Tryz.f94 = some a_deeds_deed_free := by kernel_rfl
theorem n94 : (Tryz.f94.name == "runtime.NumGoroutine") = false := by kernel_rfl
theorem c98 : cFunc DE 279 43 Tryz.f98 = some a_deeds_deed_read := by kernel_rfl
theorem n98 : (Tryz.f98.name == "runtime.NumGoroutine") = false := by kernel_rfl
theorem c102 : cFunc DE 279 43 Tryz.f102 = some a_trencherref10o_May := by kernel_rfl
theorem n102 : (Tryz.f102.name == "runtime.NumGoroutine") = false := by kernel_rfl
theorem c106 : cFunc DE 279 43 Tryz.f106 = some a_trencherref06o_Spans := by kernel_rfl
theorem n106 : (Tryz.f106.name == "runtime.NumGoroutine") = false := by kernel_rfl
theorem c110 : cFunc DE 279 43 Tryz.f110 = some a_head_rightsc1 := by kernel_rfl
theorem n110 : (Tryz.f110.name == "runtime.NumGoroutine") = false := by kernel_rfl
theorem c114 : cFunc DE 279 43 Tryz.f114 = some a_head_rightsc5 := by kernel_rfl
theorem n114 : (Tryz.f114.name == "runtime.NumGoroutine") = false := by kernel_rfl
theorem c118 : cFunc DE 279 43 Tryz.f118 = some a_geom_Root := by kernel_rfl
theorem n118 : (Tryz.f118.name == "runtime.NumGoroutine") = false := by kernel_rfl
theorem c122 : cFunc DE 279 43 Tryz.f122 = some a_deeds_deed_mallocc1 := by kernel_rfl
theorem n122 : (Tryz.f122.name == "runtime.NumGoroutine") = false := by kernel_rfl
theorem c126 : cFunc DE 279 43 Tryz.f126 = some a_heap_Heap_Give := by kernel_rfl
theorem n126 : (Tryz.f126.name == "runtime.NumGoroutine") = false := by kernel_rfl
theorem c130 : cFunc DE 279 43 Tryz.f130 = some a_deeds_deed_object := by kernel_rfl
theorem n130 : (Tryz.f130.name == "runtime.NumGoroutine") = false := by kernel_rfl
theorem c134 : cFunc DE 279 43 Tryz.f134 = some a_deeds_found_spans := by kernel_rfl
theorem n134 : (Tryz.f134.name == "runtime.NumGoroutine") = false := by kernel_rfl
theorem c138 : cFunc DE 279 43 Tryz.f138 = some a_deeds_deed_setc1 := by kernel_rfl
theorem n138 : (Tryz.f138.name == "runtime.NumGoroutine") = false := by kernel_rfl
theorem c142 : cFunc DE 279 43 Tryz.f142 = some a_deeds_deed_writec1 := by kernel_rfl
theorem n142 : (Tryz.f142.name == "runtime.NumGoroutine") = false := by kernel_rfl
theorem c146 : cFunc DE 279 43 Tryz.f146 = some a_deeds_plan_datum := by kernel_rfl
theorem n146 : (Tryz.f146.name == "runtime.NumGoroutine") = false := by kernel_rfl
theorem c150 : cFunc DE 279 43 Tryz.f150 = some a_deeds_deed_txc1 := by kernel_rfl
theorem n150 : (Tryz.f150.name == "runtime.NumGoroutine") = false := by kernel_rfl
theorem c154 : cFunc DE 279 43 Tryz.f154 = some a_trencherref06o_Size := by kernel_rfl
theorem n154 : (Tryz.f154.name == "runtime.NumGoroutine") = false := by kernel_rfl
theorem c158 : cFunc DE 279 43 Tryz.f158 = some a_env_Env_Lock := by kernel_rfl
theorem n158 : (Tryz.f158.name == "runtime.NumGoroutine") = false := by kernel_rfl
theorem c162 : cFunc DE 279 43 Tryz.f162 = some a_deeds_deed_largec1 := by kernel_rfl
theorem n162 : (Tryz.f162.name == "runtime.NumGoroutine") = false := by kernel_rfl
theorem c166 : cFunc DE 279 43 Tryz.f166 = some a_deeds_deed_largec3 := by kernel_rfl
theorem n166 : (Tryz.f166.name == "runtime.NumGoroutine") = false := by kernel_rfl
theorem c170 : cFunc DE 279 43 Tryz.f170 = some a_deeds_deed_reservec1c1 := by kernel_rfl
theorem n170 : (Tryz.f170.name == "runtime.NumGoroutine") = false := by kernel_rfl
theorem c174 : cFunc DE 279 43 Tryz.f174 = some a_heap_Heap_Carve := by kernel_rfl
theorem n174 : (Tryz.f174.name == "runtime.NumGoroutine") = false := by kernel_rfl
theorem c178 : cFunc DE 279 43 Tryz.f178 = some a_env_Env_Do := by kernel_rfl
theorem n178 : (Tryz.f178.name == "runtime.NumGoroutine") = false := by kernel_rfl
theorem c182 : cFunc DE 279 43 Tryz.f182 = some a_env_always := by kernel_rfl
theorem n182 : (Tryz.f182.name == "runtime.NumGoroutine") = false := by kernel_rfl
theorem c186 : cFunc DE 279 43 Tryz.f186 = some a_heap_Heap_Heads := by kernel_rfl
theorem n186 : (Tryz.f186.name == "runtime.NumGoroutine") = false := by kernel_rfl
theorem c190 : cFunc DE 279 43 Tryz.f190 = some a_lane_Through := by kernel_rfl
theorem n190 : (Tryz.f190.name == "runtime.NumGoroutine") = false := by kernel_rfl
theorem c194 : cFunc DE 279 43 Tryz.f194 = some a_heap_Heap_Cache := by kernel_rfl
theorem n194 : (Tryz.f194.name == "runtime.NumGoroutine") = false := by kernel_rfl
theorem c198 : cFunc DE 279 43 Tryz.f198 = some a_heap_Heap_Empty := by kernel_rfl
theorem n198 : (Tryz.f198.name == "runtime.NumGoroutine") = false := by kernel_rfl
theorem c202 : cFunc DE 279 43 Tryz.f202 = some a_deeds_plan_counted := by kernel_rfl
theorem n202 : (Tryz.f202.name == "runtime.NumGoroutine") = false := by kernel_rfl
theorem c206 : cFunc DE 279 43 Tryz.f206 = some a_pmem_Region_Store := by kernel_rfl
theorem n206 : (Tryz.f206.name == "runtime.NumGoroutine") = false := by kernel_rfl
theorem c210 : cFunc DE 279 43 Tryz.f210 = some a_env_Env_Flushc1 := by kernel_rfl
theorem n210 : (Tryz.f210.name == "runtime.NumGoroutine") = false := by kernel_rfl
theorem c214 : cFunc DE 279 43 Tryz.f214 = some a_entry_Lastc1 := by kernel_rfl
theorem n214 : (Tryz.f214.name == "runtime.NumGoroutine") = false := by kernel_rfl
theorem c218 : cFunc DE 279 43 Tryz.f218 = some a_locks_Table_Take := by kernel_rfl
theorem n218 : (Tryz.f218.name == "runtime.NumGoroutine") = false := by kernel_rfl
theorem c222 : cFunc DE 279 43 Tryz.f222 = some a_heap_Heap_free := by kernel_rfl
theorem n222 : (Tryz.f222.name == "runtime.NumGoroutine") = false := by kernel_rfl
theorem c226 : cFunc DE 279 43 Tryz.f226 = some a_heap_Heap_Refillc1 := by kernel_rfl
theorem n226 : (Tryz.f226.name == "runtime.NumGoroutine") = false := by kernel_rfl
theorem c230 : cFunc DE 279 43 Tryz.f230 = some a_slices_Reverse_int_int := by kernel_rfl
theorem n230 : (Tryz.f230.name == "runtime.NumGoroutine") = false := by kernel_rfl
theorem c234 : cFunc DE 279 43 Tryz.f234 = some a_pmem_Region_at := by kernel_rfl
theorem n234 : (Tryz.f234.name == "runtime.NumGoroutine") = false := by kernel_rfl
theorem c238 : cFunc DE 279 43 Tryz.f238 = some a_entry_Words := by kernel_rfl
theorem n238 : (Tryz.f238.name == "runtime.NumGoroutine") = false := by kernel_rfl
theorem c242 : cFunc DE 279 43 Tryz.f242 = some a_lane_seal := by kernel_rfl
theorem n242 : (Tryz.f242.name == "runtime.NumGoroutine") = false := by kernel_rfl
theorem c246 : cFunc DE 279 43 Tryz.f246 = some a_heap_Heap_empty := by kernel_rfl
theorem n246 : (Tryz.f246.name == "runtime.NumGoroutine") = false := by kernel_rfl
theorem c250 : cFunc DE 279 43 Tryz.f250 = some a_block_More := by kernel_rfl
theorem n250 : (Tryz.f250.name == "runtime.NumGoroutine") = false := by kernel_rfl
theorem c254 : cFunc DE 279 43 Tryz.f254 = some a_pmem_Region_Flushc1 := by kernel_rfl
theorem n254 : (Tryz.f254.name == "runtime.NumGoroutine") = false := by kernel_rfl
theorem c258 : cFunc DE 279 43 Tryz.f258 = some a_pmem_Region_keep := by kernel_rfl
theorem n258 : (Tryz.f258.name == "runtime.NumGoroutine") = false := by kernel_rfl
theorem c262 : cFunc DE 279 43 Tryz.f262 = some a_syncatomic_Int64o_Add := by kernel_rfl
theorem n262 : (Tryz.f262.name == "runtime.NumGoroutine") = false := by kernel_rfl
theorem c266 : cFunc DE 279 43 Tryz.f266 = some a_pmem_Region_there := by kernel_rfl
theorem n266 : (Tryz.f266.name == "runtime.NumGoroutine") = false := by kernel_rfl
theorem c270 : cFunc DE 279 43 Tryz.f270 = some a_image_May := by kernel_rfl
theorem n270 : (Tryz.f270.name == "runtime.NumGoroutine") = false := by kernel_rfl
theorem c274 : cFunc DE 279 43 Tryz.f274 = some a_heap_Heap_emptyc1 := by kernel_rfl
theorem n274 : (Tryz.f274.name == "runtime.NumGoroutine") = false := by kernel_rfl
theorem c278 : cFunc DE 279 43 Tryz.f278 = some a_mathbits_Len := by kernel_rfl
theorem n278 : (Tryz.f278.name == "runtime.NumGoroutine") = false := by kernel_rfl
theorem c283 : cFunc DE 279 43 Tryz.f283 = some a_slices_heapSortOrdered_int := by kernel_rfl
theorem n283 : (Tryz.f283.name == "runtime.NumGoroutine") = false := by kernel_rfl
theorem c287 : cFunc DE 279 43 Tryz.f287 = some a_slices_partialInsertionSortOrdered_int := by kernel_rfl
theorem n287 : (Tryz.f287.name == "runtime.NumGoroutine") = false := by kernel_rfl
theorem c291 : cFunc DE 279 43 Tryz.f291 = some a_mathbits_Len32 := by kernel_rfl
theorem n291 : (Tryz.f291.name == "runtime.NumGoroutine") = false := by kernel_rfl
theorem c295 : cFunc DE 279 43 Tryz.f295 = some a_slices_xorshift_Next := by kernel_rfl
theorem n295 : (Tryz.f295.name == "runtime.NumGoroutine") = false := by kernel_rfl
theorem c299 : cFunc DE 279 43 Tryz.f299 = some a_slices_order2Ordered_int := by kernel_rfl
theorem n299 : (Tryz.f299.name == "runtime.NumGoroutine") = false := by kernel_rfl
end Den
