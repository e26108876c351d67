import Derived.Test.YtkjodjaamjnejaaProg
import Derived.Test.YtkjodjaamjnejaaK6
import Derived.KernelRfl
import Derived.Test.YtkjodjaamjnejaaK5
set_option linter.all false
/-! Printed by gentypes.py: what is asked of the types of this seat. -/
namespace Go.Proofs.Ytkjodjaamjnejaa
open Go Go.RowKit Caw

theorem q_mixed : Try.prog.follows .mixedOrders = true := by kernel_rfl
@[simp] theorem q_row2 : rowT Try.prog 2 = some (false, 1) := by kernel_rfl
@[simp] theorem q_size2 : sizeT Try.prog 2 = some 1 := by kernel_rfl
@[simp] theorem q_int2 : intT Try.prog 2 = some .i64 := by kernel_rfl
@[simp] theorem q_ui2 : Try.prog.underlying 2 = some (.int .i64) := by kernel_rfl
@[simp] theorem q_row3 : rowT Try.prog 3 = some (false, 1) := by kernel_rfl
@[simp] theorem q_size3 : sizeT Try.prog 3 = some 1 := by kernel_rfl
@[simp] theorem q_int3 : intT Try.prog 3 = some .i64 := by kernel_rfl
@[simp] theorem q_ui3 : Try.prog.underlying 3 = some (.int .i64) := by kernel_rfl
@[simp] theorem q_row4 : rowT Try.prog 4 = some (false, 1) := by kernel_rfl
@[simp] theorem q_size4 : sizeT Try.prog 4 = some 1 := by kernel_rfl
@[simp] theorem q_bool4 : isBoolT Try.prog 4 = true := by kernel_rfl
@[simp] theorem q_ub4 : Try.prog.underlying 4 = some .bool := by kernel_rfl
@[simp] theorem q_row5 : rowT Try.prog 5 = some (false, 1) := by kernel_rfl
@[simp] theorem q_size5 : sizeT Try.prog 5 = some 1 := by kernel_rfl
@[simp] theorem q_int5 : intT Try.prog 5 = some .u8 := by kernel_rfl
@[simp] theorem q_ui5 : Try.prog.underlying 5 = some (.int .u8) := by kernel_rfl
@[simp] theorem q_row9 : rowT Try.prog 9 = some (false, 1) := by kernel_rfl
@[simp] theorem q_size9 : sizeT Try.prog 9 = some 1 := by kernel_rfl
@[simp] theorem q_us9 : Try.prog.underlying 9 = some .string := by kernel_rfl
@[simp] theorem q_row21 : rowT Try.prog 21 = some (false, 1) := by kernel_rfl
@[simp] theorem q_size21 : sizeT Try.prog 21 = some 1 := by kernel_rfl
@[simp] theorem q_int21 : intT Try.prog 21 = some .i32 := by kernel_rfl
@[simp] theorem q_ui21 : Try.prog.underlying 21 = some (.int .i32) := by kernel_rfl
@[simp] theorem q_row22 : rowT Try.prog 22 = some (false, 1) := by kernel_rfl
@[simp] theorem q_size22 : sizeT Try.prog 22 = some 1 := by kernel_rfl
@[simp] theorem q_int22 : intT Try.prog 22 = some .u32 := by kernel_rfl
@[simp] theorem q_ui22 : Try.prog.underlying 22 = some (.int .u32) := by kernel_rfl
@[simp] theorem q_row23 : rowT Try.prog 23 = some (true, 2) := by kernel_rfl
@[simp] theorem q_size23 : sizeT Try.prog 23 = some 2 := by kernel_rfl
@[simp] theorem q_arr23 : arrT Try.prog 23 = some (2, 1) := by kernel_rfl
@[simp] theorem q_pl23 : placeT Try.prog 23 = some (fun i => some (i * 1, 1)) := by kernel_rfl
@[simp] theorem q_nl23 : nilsT Try.prog 23 = [] := by kernel_rfl
@[simp] theorem q_z23 : zeroT Try.prog 23 = some (.agg #[.int .u32 0, .int .u32 0]) := by kernel_rfl
@[simp] theorem q_row24 : rowT Try.prog 24 = some (false, 1) := by kernel_rfl
@[simp] theorem q_size24 : sizeT Try.prog 24 = some 1 := by kernel_rfl
@[simp] theorem q_sl24 : sliceT Try.prog 24 = some 1 := by kernel_rfl
@[simp] theorem q_app24 : appI Try.prog 24 = some (1, 1) := by kernel_rfl
@[simp] theorem q_ze24 : zeroE Try.prog 24 = true := by kernel_rfl
@[simp] theorem q_ul24 : Try.prog.underlying 24 = some (.slice 5) := by kernel_rfl
@[simp] theorem q_row25 : rowT Try.prog 25 = some (true, 2) := by kernel_rfl
@[simp] theorem q_size25 : sizeT Try.prog 25 = some 2 := by kernel_rfl
@[simp] theorem q_arr25 : arrT Try.prog 25 = some (2, 1) := by kernel_rfl
@[simp] theorem q_row29 : rowT Try.prog 29 = some (true, 2) := by kernel_rfl
@[simp] theorem q_size29 : sizeT Try.prog 29 = some 2 := by kernel_rfl
@[simp] theorem q_arr29 : arrT Try.prog 29 = some (2, 1) := by kernel_rfl
@[simp] theorem q_pl29 : placeT Try.prog 29 = some (fun i => some (i * 1, 1)) := by kernel_rfl
@[simp] theorem q_nl29 : nilsT Try.prog 29 = [] := by kernel_rfl
@[simp] theorem q_z29 : zeroT Try.prog 29 = some (.agg #[.int .i64 0, .int .i64 0]) := by kernel_rfl
@[simp] theorem q_row32 : rowT Try.prog 32 = some (true, 4) := by kernel_rfl
@[simp] theorem q_size32 : sizeT Try.prog 32 = some 4 := by kernel_rfl
@[simp] theorem q_arr32 : arrT Try.prog 32 = some (4, 1) := by kernel_rfl
@[simp] theorem q_pl32 : placeT Try.prog 32 = some (fun i => some (i * 1, 1)) := by kernel_rfl
@[simp] theorem q_nl32 : nilsT Try.prog 32 = [] := by kernel_rfl
@[simp] theorem q_z32 : zeroT Try.prog 32 = some (.agg #[.int .u8 0, .int .u8 0, .int .u8 0, .int .u8 0]) := by kernel_rfl
@[simp] theorem q_row33 : rowT Try.prog 33 = some (false, 1) := by kernel_rfl
@[simp] theorem q_size33 : sizeT Try.prog 33 = some 1 := by kernel_rfl
@[simp] theorem q_int33 : intT Try.prog 33 = some .u16 := by kernel_rfl
@[simp] theorem q_ui33 : Try.prog.underlying 33 = some (.int .u16) := by kernel_rfl
@[simp] theorem q_row35 : rowT Try.prog 35 = some (true, 5) := by kernel_rfl
@[simp] theorem q_size35 : sizeT Try.prog 35 = some 5 := by kernel_rfl
@[simp] theorem q_f35_0 : fieldOff Try.prog 35 0 = some 0 := by kernel_rfl
@[simp] theorem q_f35_1 : fieldOff Try.prog 35 1 = some 4 := by kernel_rfl
@[simp] theorem q_pl35 : placeT Try.prog 35 = some (fun i => [(0, 4), (4, 1)][i]?) := by kernel_rfl
@[simp] theorem q_nl35 : nilsT Try.prog 35 = [] := by kernel_rfl
@[simp] theorem q_z35 : zeroT Try.prog 35 = some (.agg #[.int .u8 0, .int .u8 0, .int .u8 0, .int .u8 0, .int .u16 0]) := by kernel_rfl
@[simp] theorem q_row37 : rowT Try.prog 37 = some (true, 6) := by kernel_rfl
@[simp] theorem q_size37 : sizeT Try.prog 37 = some 6 := by kernel_rfl
@[simp] theorem q_f37_0 : fieldOff Try.prog 37 0 = some 0 := by kernel_rfl
@[simp] theorem q_f37_1 : fieldOff Try.prog 37 1 = some 1 := by kernel_rfl
@[simp] theorem q_f37_2 : fieldOff Try.prog 37 2 = some 2 := by kernel_rfl
@[simp] theorem q_f37_3 : fieldOff Try.prog 37 3 = some 3 := by kernel_rfl
@[simp] theorem q_f37_4 : fieldOff Try.prog 37 4 = some 4 := by kernel_rfl
@[simp] theorem q_f37_5 : fieldOff Try.prog 37 5 = some 5 := by kernel_rfl
@[simp] theorem q_pl37 : placeT Try.prog 37 = some (fun i => [(0, 1), (1, 1), (2, 1), (3, 1), (4, 1), (5, 1)][i]?) := by kernel_rfl
@[simp] theorem q_nl37 : nilsT Try.prog 37 = [(1, 1)] := by kernel_rfl
@[simp] theorem q_z37 : zeroT Try.prog 37 = some (.agg #[.int .u32 0, .slice none 0 0, .int .i64 0, .bool false, .bool false, .bool false]) := by kernel_rfl
@[simp] theorem q_row38 : rowT Try.prog 38 = some (false, 1) := by kernel_rfl
@[simp] theorem q_size38 : sizeT Try.prog 38 = some 1 := by kernel_rfl
@[simp] theorem q_sl38 : sliceT Try.prog 38 = some 2 := by kernel_rfl
@[simp] theorem q_app38 : appI Try.prog 38 = some (2, 32) := by kernel_rfl
@[simp] theorem q_ze38 : zeroE Try.prog 38 = true := by kernel_rfl
@[simp] theorem q_ul38 : Try.prog.underlying 38 = some (.slice 110) := by kernel_rfl
@[simp] theorem q_row40 : rowT Try.prog 40 = some (true, 6) := by kernel_rfl
@[simp] theorem q_size40 : sizeT Try.prog 40 = some 6 := by kernel_rfl
@[simp] theorem q_f40_0 : fieldOff Try.prog 40 0 = some 0 := by kernel_rfl
@[simp] theorem q_f40_1 : fieldOff Try.prog 40 1 = some 1 := by kernel_rfl
@[simp] theorem q_f40_2 : fieldOff Try.prog 40 2 = some 2 := by kernel_rfl
@[simp] theorem q_f40_3 : fieldOff Try.prog 40 3 = some 3 := by kernel_rfl
@[simp] theorem q_f40_4 : fieldOff Try.prog 40 4 = some 4 := by kernel_rfl
@[simp] theorem q_f40_5 : fieldOff Try.prog 40 5 = some 5 := by kernel_rfl
@[simp] theorem q_pl40 : placeT Try.prog 40 = some (fun i => [(0, 1), (1, 1), (2, 1), (3, 1), (4, 1), (5, 1)][i]?) := by kernel_rfl
@[simp] theorem q_nl40 : nilsT Try.prog 40 = [(1, 1)] := by kernel_rfl
@[simp] theorem q_z40 : zeroT Try.prog 40 = some (.agg #[.int .u32 0, .slice none 0 0, .slice none 0 0, .bool false, .int .u32 0, .bool false]) := by kernel_rfl
@[simp] theorem q_row42 : rowT Try.prog 42 = some (true, 3) := by kernel_rfl
@[simp] theorem q_size42 : sizeT Try.prog 42 = some 3 := by kernel_rfl
@[simp] theorem q_f42_0 : fieldOff Try.prog 42 0 = some 0 := by kernel_rfl
@[simp] theorem q_f42_1 : fieldOff Try.prog 42 1 = some 1 := by kernel_rfl
@[simp] theorem q_f42_2 : fieldOff Try.prog 42 2 = some 2 := by kernel_rfl
@[simp] theorem q_pl42 : placeT Try.prog 42 = some (fun i => [(0, 1), (1, 1), (2, 1)][i]?) := by kernel_rfl
@[simp] theorem q_nl42 : nilsT Try.prog 42 = [] := by kernel_rfl
@[simp] theorem q_z42 : zeroT Try.prog 42 = some (.agg #[.int .i64 0, .int .i64 0, .int .i64 0]) := by kernel_rfl
@[simp] theorem q_row43 : rowT Try.prog 43 = some (false, 1) := by kernel_rfl
@[simp] theorem q_size43 : sizeT Try.prog 43 = some 1 := by kernel_rfl
@[simp] theorem q_int43 : intT Try.prog 43 = some .u64 := by kernel_rfl
@[simp] theorem q_ui43 : Try.prog.underlying 43 = some (.int .u64) := by kernel_rfl
@[simp] theorem q_row44 : rowT Try.prog 44 = some (false, 1) := by kernel_rfl
@[simp] theorem q_size44 : sizeT Try.prog 44 = some 1 := by kernel_rfl
@[simp] theorem q_int44 : intT Try.prog 44 = some .i64 := by kernel_rfl
@[simp] theorem q_ui44 : Try.prog.underlying 44 = some (.int .i64) := by kernel_rfl
@[simp] theorem q_row46 : rowT Try.prog 46 = some (true, 37) := by kernel_rfl
@[simp] theorem q_size46 : sizeT Try.prog 46 = some 37 := by kernel_rfl
@[simp] theorem q_f46_0 : fieldOff Try.prog 46 0 = some 0 := by kernel_rfl
@[simp] theorem q_f46_1 : fieldOff Try.prog 46 1 = some 1 := by kernel_rfl
@[simp] theorem q_f46_2 : fieldOff Try.prog 46 2 = some 6 := by kernel_rfl
@[simp] theorem q_f46_3 : fieldOff Try.prog 46 3 = some 11 := by kernel_rfl
@[simp] theorem q_f46_4 : fieldOff Try.prog 46 4 = some 12 := by kernel_rfl
@[simp] theorem q_f46_5 : fieldOff Try.prog 46 5 = some 18 := by kernel_rfl
@[simp] theorem q_f46_6 : fieldOff Try.prog 46 6 = some 24 := by kernel_rfl
@[simp] theorem q_f46_7 : fieldOff Try.prog 46 7 = some 25 := by kernel_rfl
@[simp] theorem q_f46_8 : fieldOff Try.prog 46 8 = some 26 := by kernel_rfl
@[simp] theorem q_f46_9 : fieldOff Try.prog 46 9 = some 29 := by kernel_rfl
@[simp] theorem q_f46_10 : fieldOff Try.prog 46 10 = some 30 := by kernel_rfl
@[simp] theorem q_f46_11 : fieldOff Try.prog 46 11 = some 31 := by kernel_rfl
@[simp] theorem q_f46_12 : fieldOff Try.prog 46 12 = some 32 := by kernel_rfl
@[simp] theorem q_f46_13 : fieldOff Try.prog 46 13 = some 33 := by kernel_rfl
@[simp] theorem q_f46_14 : fieldOff Try.prog 46 14 = some 34 := by kernel_rfl
@[simp] theorem q_f46_15 : fieldOff Try.prog 46 15 = some 35 := by kernel_rfl
@[simp] theorem q_f46_16 : fieldOff Try.prog 46 16 = some 36 := by kernel_rfl
@[simp] theorem q_pl46 : placeT Try.prog 46 = some (fun i => [(0, 1), (1, 5), (6, 5), (11, 1), (12, 6), (18, 6), (24, 1), (25, 1), (26, 3), (29, 1), (30, 1), (31, 1), (32, 1), (33, 1), (34, 1), (35, 1), (36, 1)][i]?) := by kernel_rfl
@[simp] theorem q_nl46 : nilsT Try.prog 46 = [] := by kernel_rfl
@[simp] theorem q_z46 : zeroT Try.prog 46 = some (.agg #[.int .i64 0, .int .u8 0, .int .u8 0, .int .u8 0, .int .u8 0, .int .u16 0, .int .u8 0, .int .u8 0, .int .u8 0, .int .u8 0, .int .u16 0, .int .u32 0, .int .u32 0, .slice none 0 0, .int .i64 0, .bool false, .bool false, .bool false, .int .u32 0, .slice none 0 0, .slice none 0 0, .bool false, .int .u32 0, .bool false, .int .i64 0, .int .i64 0, .int .i64 0, .int .i64 0, .int .i64 0, .int .u64 0, .int .i64 0, .bool false, .int .u32 0, .int .u64 0, .int .u64 0, .bool false, .int .i64 0]) := by kernel_rfl
@[simp] theorem q_row47 : rowT Try.prog 47 = some (true, 74) := by kernel_rfl
@[simp] theorem q_size47 : sizeT Try.prog 47 = some 74 := by kernel_rfl
@[simp] theorem q_arr47 : arrT Try.prog 47 = some (2, 37) := by kernel_rfl
@[simp] theorem q_row48 : rowT Try.prog 48 = some (true, 2) := by kernel_rfl
@[simp] theorem q_size48 : sizeT Try.prog 48 = some 2 := by kernel_rfl
@[simp] theorem q_arr48 : arrT Try.prog 48 = some (2, 1) := by kernel_rfl
@[simp] theorem q_row49 : rowT Try.prog 49 = some (false, 1) := by kernel_rfl
@[simp] theorem q_size49 : sizeT Try.prog 49 = some 1 := by kernel_rfl
@[simp] theorem q_sl49 : sliceT Try.prog 49 = some 8 := by kernel_rfl
@[simp] theorem q_app49 : appI Try.prog 49 = some (8, 48) := by kernel_rfl
@[simp] theorem q_ze49 : zeroE Try.prog 49 = true := by kernel_rfl
@[simp] theorem q_ul49 : Try.prog.underlying 49 = some (.slice 55) := by kernel_rfl
@[simp] theorem q_row50 : rowT Try.prog 50 = some (true, 2) := by kernel_rfl
@[simp] theorem q_size50 : sizeT Try.prog 50 = some 2 := by kernel_rfl
@[simp] theorem q_arr50 : arrT Try.prog 50 = some (2, 1) := by kernel_rfl
@[simp] theorem q_row51 : rowT Try.prog 51 = some (true, 2) := by kernel_rfl
@[simp] theorem q_size51 : sizeT Try.prog 51 = some 2 := by kernel_rfl
@[simp] theorem q_arr51 : arrT Try.prog 51 = some (2, 1) := by kernel_rfl
@[simp] theorem q_row53 : rowT Try.prog 53 = some (true, 90) := by kernel_rfl
@[simp] theorem q_size53 : sizeT Try.prog 53 = some 90 := by kernel_rfl
@[simp] theorem q_f53_0 : fieldOff Try.prog 53 0 = some 0 := by kernel_rfl
@[simp] theorem q_f53_1 : fieldOff Try.prog 53 1 = some 74 := by kernel_rfl
@[simp] theorem q_f53_2 : fieldOff Try.prog 53 2 = some 76 := by kernel_rfl
@[simp] theorem q_f53_3 : fieldOff Try.prog 53 3 = some 78 := by kernel_rfl
@[simp] theorem q_f53_4 : fieldOff Try.prog 53 4 = some 80 := by kernel_rfl
@[simp] theorem q_f53_5 : fieldOff Try.prog 53 5 = some 82 := by kernel_rfl
@[simp] theorem q_f53_6 : fieldOff Try.prog 53 6 = some 84 := by kernel_rfl
@[simp] theorem q_f53_7 : fieldOff Try.prog 53 7 = some 86 := by kernel_rfl
@[simp] theorem q_f53_8 : fieldOff Try.prog 53 8 = some 88 := by kernel_rfl
@[simp] theorem q_f53_9 : fieldOff Try.prog 53 9 = some 89 := by kernel_rfl
@[simp] theorem q_pl53 : placeT Try.prog 53 = some (fun i => [(0, 74), (74, 2), (76, 2), (78, 2), (80, 2), (82, 2), (84, 2), (86, 2), (88, 1), (89, 1)][i]?) := by kernel_rfl
@[simp] theorem q_nl53 : nilsT Try.prog 53 = [] := by kernel_rfl
@[simp] theorem q_z53 : zeroT Try.prog 53 = some (.agg #[.int .i64 0, .int .u8 0, .int .u8 0, .int .u8 0, .int .u8 0, .int .u16 0, .int .u8 0, .int .u8 0, .int .u8 0, .int .u8 0, .int .u16 0, .int .u32 0, .int .u32 0, .slice none 0 0, .int .i64 0, .bool false, .bool false, .bool false, .int .u32 0, .slice none 0 0, .slice none 0 0, .bool false, .int .u32 0, .bool false, .int .i64 0, .int .i64 0, .int .i64 0, .int .i64 0, .int .i64 0, .int .u64 0, .int .i64 0, .bool false, .int .u32 0, .int .u64 0, .int .u64 0, .bool false, .int .i64 0, .int .i64 0, .int .u8 0, .int .u8 0, .int .u8 0, .int .u8 0, .int .u16 0, .int .u8 0, .int .u8 0, .int .u8 0, .int .u8 0, .int .u16 0, .int .u32 0, .int .u32 0, .slice none 0 0, .int .i64 0, .bool false, .bool false, .bool false, .int .u32 0, .slice none 0 0, .slice none 0 0, .bool false, .int .u32 0, .bool false, .int .i64 0, .int .i64 0, .int .i64 0, .int .i64 0, .int .i64 0, .int .u64 0, .int .i64 0, .bool false, .int .u32 0, .int .u64 0, .int .u64 0, .bool false, .int .i64 0, .bool false, .bool false, .int .u32 0, .int .u32 0, .slice none 0 0, .slice none 0 0, .string ⟨#[]⟩, .string ⟨#[]⟩, .string ⟨#[]⟩, .string ⟨#[]⟩, .bool false, .bool false, .bool false, .bool false, .int .u64 0, .bool false]) := by kernel_rfl
@[simp] theorem q_row55 : rowT Try.prog 55 = some (true, 8) := by kernel_rfl
@[simp] theorem q_size55 : sizeT Try.prog 55 = some 8 := by kernel_rfl
@[simp] theorem q_f55_0 : fieldOff Try.prog 55 0 = some 0 := by kernel_rfl
@[simp] theorem q_f55_1 : fieldOff Try.prog 55 1 = some 1 := by kernel_rfl
@[simp] theorem q_f55_2 : fieldOff Try.prog 55 2 = some 2 := by kernel_rfl
@[simp] theorem q_f55_3 : fieldOff Try.prog 55 3 = some 3 := by kernel_rfl
@[simp] theorem q_f55_4 : fieldOff Try.prog 55 4 = some 4 := by kernel_rfl
@[simp] theorem q_f55_5 : fieldOff Try.prog 55 5 = some 5 := by kernel_rfl
@[simp] theorem q_f55_6 : fieldOff Try.prog 55 6 = some 6 := by kernel_rfl
@[simp] theorem q_f55_7 : fieldOff Try.prog 55 7 = some 7 := by kernel_rfl
@[simp] theorem q_pl55 : placeT Try.prog 55 = some (fun i => [(0, 1), (1, 1), (2, 1), (3, 1), (4, 1), (5, 1), (6, 1), (7, 1)][i]?) := by kernel_rfl
@[simp] theorem q_nl55 : nilsT Try.prog 55 = [(7, 1)] := by kernel_rfl
@[simp] theorem q_z55 : zeroT Try.prog 55 = some (.agg #[.int .u16 0, .int .u16 0, .int .u32 0, .int .u32 0, .int .u8 0, .int .u16 0, .int .u16 0, .slice none 0 0]) := by kernel_rfl
@[simp] theorem q_row59 : rowT Try.prog 59 = some (false, 1) := by kernel_rfl
@[simp] theorem q_size59 : sizeT Try.prog 59 = some 1 := by kernel_rfl
@[simp] theorem q_sl59 : sliceT Try.prog 59 = some 5 := by kernel_rfl
@[simp] theorem q_app59 : appI Try.prog 59 = some (5, 56) := by kernel_rfl
@[simp] theorem q_ze59 : zeroE Try.prog 59 = true := by kernel_rfl
@[simp] theorem q_ul59 : Try.prog.underlying 59 = some (.slice 62) := by kernel_rfl
@[simp] theorem q_row62 : rowT Try.prog 62 = some (true, 5) := by kernel_rfl
@[simp] theorem q_size62 : sizeT Try.prog 62 = some 5 := by kernel_rfl
@[simp] theorem q_f62_0 : fieldOff Try.prog 62 0 = some 0 := by kernel_rfl
@[simp] theorem q_f62_1 : fieldOff Try.prog 62 1 = some 1 := by kernel_rfl
@[simp] theorem q_f62_2 : fieldOff Try.prog 62 2 = some 2 := by kernel_rfl
@[simp] theorem q_f62_3 : fieldOff Try.prog 62 3 = some 3 := by kernel_rfl
@[simp] theorem q_f62_4 : fieldOff Try.prog 62 4 = some 4 := by kernel_rfl
@[simp] theorem q_pl62 : placeT Try.prog 62 = some (fun i => [(0, 1), (1, 1), (2, 1), (3, 1), (4, 1)][i]?) := by kernel_rfl
@[simp] theorem q_nl62 : nilsT Try.prog 62 = [(4, 1)] := by kernel_rfl
@[simp] theorem q_z62 : zeroT Try.prog 62 = some (.agg #[.int .i64 0, .int .i64 0, .int .i64 0, .int .i64 0, .slice none 0 0]) := by kernel_rfl
@[simp] theorem q_row69 : rowT Try.prog 69 = some (false, 1) := by kernel_rfl
@[simp] theorem q_size69 : sizeT Try.prog 69 = some 1 := by kernel_rfl
@[simp] theorem q_sl69 : sliceT Try.prog 69 = some 6 := by kernel_rfl
@[simp] theorem q_app69 : appI Try.prog 69 = some (6, 48) := by kernel_rfl
@[simp] theorem q_ze69 : zeroE Try.prog 69 = true := by kernel_rfl
@[simp] theorem q_ul69 : Try.prog.underlying 69 = some (.slice 71) := by kernel_rfl
@[simp] theorem q_row71 : rowT Try.prog 71 = some (true, 6) := by kernel_rfl
@[simp] theorem q_size71 : sizeT Try.prog 71 = some 6 := by kernel_rfl
@[simp] theorem q_f71_0 : fieldOff Try.prog 71 0 = some 0 := by kernel_rfl
@[simp] theorem q_f71_1 : fieldOff Try.prog 71 1 = some 1 := by kernel_rfl
@[simp] theorem q_f71_2 : fieldOff Try.prog 71 2 = some 2 := by kernel_rfl
@[simp] theorem q_f71_3 : fieldOff Try.prog 71 3 = some 3 := by kernel_rfl
@[simp] theorem q_f71_4 : fieldOff Try.prog 71 4 = some 4 := by kernel_rfl
@[simp] theorem q_f71_5 : fieldOff Try.prog 71 5 = some 5 := by kernel_rfl
@[simp] theorem q_z71 : zeroT Try.prog 71 = some (.agg #[.int .i64 0, .int .i64 0, .int .u8 0, .int .u16 0, .int .u16 0, .slice none 0 0]) := by kernel_rfl
@[simp] theorem q_row80 : rowT Try.prog 80 = some (false, 1) := by kernel_rfl
@[simp] theorem q_size80 : sizeT Try.prog 80 = some 1 := by kernel_rfl
@[simp] theorem q_int80 : intT Try.prog 80 = some .u64 := by kernel_rfl
@[simp] theorem q_ui80 : Try.prog.underlying 80 = some (.int .u64) := by kernel_rfl
@[simp] theorem q_row104 : rowT Try.prog 104 = some (true, 39) := by kernel_rfl
@[simp] theorem q_size104 : sizeT Try.prog 104 = some 39 := by kernel_rfl
@[simp] theorem q_f104_0 : fieldOff Try.prog 104 0 = some 0 := by kernel_rfl
@[simp] theorem q_f104_1 : fieldOff Try.prog 104 1 = some 37 := by kernel_rfl
@[simp] theorem q_f104_2 : fieldOff Try.prog 104 2 = some 38 := by kernel_rfl
@[simp] theorem q_pl104 : placeT Try.prog 104 = some (fun i => [(0, 37), (37, 1), (38, 1)][i]?) := by kernel_rfl
@[simp] theorem q_nl104 : nilsT Try.prog 104 = [] := by kernel_rfl
@[simp] theorem q_z104 : zeroT Try.prog 104 = some (.agg #[.int .i64 0, .int .u8 0, .int .u8 0, .int .u8 0, .int .u8 0, .int .u16 0, .int .u8 0, .int .u8 0, .int .u8 0, .int .u8 0, .int .u16 0, .int .u32 0, .int .u32 0, .slice none 0 0, .int .i64 0, .bool false, .bool false, .bool false, .int .u32 0, .slice none 0 0, .slice none 0 0, .bool false, .int .u32 0, .bool false, .int .i64 0, .int .i64 0, .int .i64 0, .int .i64 0, .int .i64 0, .int .u64 0, .int .i64 0, .bool false, .int .u32 0, .int .u64 0, .int .u64 0, .bool false, .int .i64 0, .int .u64 0, .slice none 0 0]) := by kernel_rfl
@[simp] theorem q_row110 : rowT Try.prog 110 = some (true, 2) := by kernel_rfl
@[simp] theorem q_size110 : sizeT Try.prog 110 = some 2 := by kernel_rfl
@[simp] theorem q_f110_0 : fieldOff Try.prog 110 0 = some 0 := by kernel_rfl
@[simp] theorem q_f110_1 : fieldOff Try.prog 110 1 = some 1 := by kernel_rfl
@[simp] theorem q_pl110 : placeT Try.prog 110 = some (fun i => [(0, 1), (1, 1)][i]?) := by kernel_rfl
@[simp] theorem q_nl110 : nilsT Try.prog 110 = [(1, 1)] := by kernel_rfl
@[simp] theorem q_z110 : zeroT Try.prog 110 = some (.agg #[.int .u32 0, .slice none 0 0]) := by kernel_rfl
@[simp] theorem q_mk24 : makeB Try.prog 24 = true := by kernel_rfl
end Go.Proofs.Ytkjodjaamjnejaa

-- Printed by genwalk.py.
namespace Go.Proofs.Ytkjodjaamjnejaa
open Go Go.RowKit Caw
set_option linter.unusedSimpArgs false
set_option linter.unusedVariables false
set_option maxRecDepth 100000

-- caravel/seq.Add
set_option maxHeartbeats 400000 in
theorem at54 (a : Int) (n : Int) : SpecAt Try.prog 54 [.v (.int .u32 a), .v (.int .i64 n)] (.v (.int .u32 (seqAdd a n))) none := by
  all_goals refine specAt_of_tri Try.func54 rfl (Nat.le_of_ble_eq_true rfl) ?_
  all_goals (repeat' (first
    | (refine tri_ret ?_)
    | (refine tri_step (id := 0) (C := ⟨[], [], []⟩) [0, 1] [] gok_nil nodraw ?_; refine ⟨_, by (simp [seqAdd, flg]; exact Is.mk), ?_⟩)
    | (refine tri_step (id := 1) (C := ⟨[], [], []⟩) [4] [] gok_nil nodraw ?_; refine ⟨_, by (simp [seqAdd, flg]; exact Is.mk), ?_⟩)
    ))
  all_goals (refine post_plainV (P := Try.prog) (fn := Try.f54) (by simp; exact IsV.mk) rfl ?_)
  all_goals (first | (simp [seqAdd, flg]; done) | (simp [*, seqAdd, flg]; done) | (simp_all [seqAdd, flg]; done) | (simp [seqAdd, flg] <;> (repeat' split) <;> simp_all; done) | (simp [seqAdd, flg] <;> (repeat' split) <;> simp_all [Bool.and_assoc] <;> grind [List.length_eq_zero_iff, sendCells_co, recvCells_co, pieceCells_co, connCells_co, segCells_co, clockCells_co]))
noncomputable def F54 : Fn1
  | [x0, x1] => (dI .u32 x0).bind fun a => (dI .i64 x1).bind fun n => some ((.v (.int .u32 (seqAdd a n))), none)
  | _ => none
theorem spec54 : Spec1 Try.prog 54 F54 := spec_of fun ys r o h => by
  unfold F54 at h
  split at h
  case h_2 => cases h
  obtain ⟨a, k0, h1⟩ := bind_some h
  obtain ⟨n, k1, h2⟩ := bind_some h1
  cases h2
  exact ⟨_, at54 a n, rfl, le_plain ⟨dI_co k0, ⟨dI_co k1, trivial⟩⟩ (by simp only [List.all_cons, List.all_nil, Bool.not_false, Bool.and_self, notRefB (dI_co k0) rfl (by simp), notRefB (dI_co k1) rfl (by simp)]) rfl⟩
theorem en54 : Enters Try.prog 54 := enters_of Try.func54 (by kernel_rfl) (by kernel_rfl)

-- caravel/seq.Diff
set_option maxHeartbeats 400000 in
theorem at77 (a : Int) (b : Int) : SpecAt Try.prog 77 [.v (.int .u32 a), .v (.int .u32 b)] (.v (.int .i64 (seqDiff a b))) none := by
  all_goals refine specAt_of_tri Try.func77 rfl (Nat.le_of_ble_eq_true rfl) ?_
  all_goals (repeat' (first
    | (refine tri_ret ?_)
    | (refine tri_step (id := 0) (C := ⟨[], [], []⟩) [0, 1] [] gok_nil nodraw ?_; refine ⟨_, by (simp [seqDiff, flg]; exact Is.mk), ?_⟩)
    | (refine tri_step (id := 1) (C := ⟨[], [], []⟩) [4] [] gok_nil nodraw ?_; refine ⟨_, by (simp [seqDiff, flg]; exact Is.mk), ?_⟩)
    ))
  all_goals (refine post_plainV (P := Try.prog) (fn := Try.f77) (by simp; exact IsV.mk) rfl ?_)
  all_goals (first | (simp [seqDiff, flg]; done) | (simp [*, seqDiff, flg]; done) | (simp_all [seqDiff, flg]; done) | (simp [seqDiff, flg] <;> (repeat' split) <;> simp_all; done) | (simp [seqDiff, flg] <;> (repeat' split) <;> simp_all [Bool.and_assoc] <;> grind [List.length_eq_zero_iff, sendCells_co, recvCells_co, pieceCells_co, connCells_co, segCells_co, clockCells_co]))
noncomputable def F77 : Fn1
  | [x0, x1] => (dI .u32 x0).bind fun a => (dI .u32 x1).bind fun b => some ((.v (.int .i64 (seqDiff a b))), none)
  | _ => none
theorem spec77 : Spec1 Try.prog 77 F77 := spec_of fun ys r o h => by
  unfold F77 at h
  split at h
  case h_2 => cases h
  obtain ⟨a, k0, h1⟩ := bind_some h
  obtain ⟨b, k1, h2⟩ := bind_some h1
  cases h2
  exact ⟨_, at77 a b, rfl, le_plain ⟨dI_co k0, ⟨dI_co k1, trivial⟩⟩ (by simp only [List.all_cons, List.all_nil, Bool.not_false, Bool.and_self, notRefB (dI_co k0) rfl (by simp), notRefB (dI_co k1) rfl (by simp)]) rfl⟩
theorem en77 : Enters Try.prog 77 := enters_of Try.func77 (by kernel_rfl) (by kernel_rfl)

-- caravel/seq.Less
theorem g84 : GOk1 Try.prog (ctxOf [(77, F77)]) := gok_cons spec77 en77 (gok_nil)
set_option maxHeartbeats 400000 in
theorem at84 (a : Int) (b : Int) : SpecAt Try.prog 84 [.v (.int .u32 a), .v (.int .u32 b)] (.v (.bool (seqLess a b))) none := by
  all_goals refine specAt_of_tri Try.func84 rfl (Nat.le_of_ble_eq_true rfl) ?_
  all_goals (repeat' (first
    | (refine tri_ret ?_)
    | (refine tri_step (id := 0) (C := ⟨[], [], []⟩) [0, 1] [] g84 nodraw ?_; refine ⟨_, by (simp [F77, seqLess, flg]; exact Is.mk), ?_⟩)
    | (refine tri_step (id := 1) (C := ⟨[], [], []⟩) [4] [] g84 nodraw ?_; refine ⟨_, by (simp [F77, seqLess, flg]; exact Is.mk), ?_⟩)
    ))
  all_goals (refine post_plainV (P := Try.prog) (fn := Try.f84) (by simp; exact IsV.mk) rfl ?_)
  all_goals (first | (simp [F77, seqLess, flg]; done) | (simp [*, F77, seqLess, flg]; done) | (simp_all [F77, seqLess, flg]; done) | (simp [F77, seqLess, flg] <;> (repeat' split) <;> simp_all; done) | (simp [F77, seqLess, flg] <;> (repeat' split) <;> simp_all [Bool.and_assoc] <;> grind [List.length_eq_zero_iff, sendCells_co, recvCells_co, pieceCells_co, connCells_co, segCells_co, clockCells_co]))
noncomputable def F84 : Fn1
  | [x0, x1] => (dI .u32 x0).bind fun a => (dI .u32 x1).bind fun b => some ((.v (.bool (seqLess a b))), none)
  | _ => none
theorem spec84 : Spec1 Try.prog 84 F84 := spec_of fun ys r o h => by
  unfold F84 at h
  split at h
  case h_2 => cases h
  obtain ⟨a, k0, h1⟩ := bind_some h
  obtain ⟨b, k1, h2⟩ := bind_some h1
  cases h2
  exact ⟨_, at84 a b, rfl, le_plain ⟨dI_co k0, ⟨dI_co k1, trivial⟩⟩ (by simp only [List.all_cons, List.all_nil, Bool.not_false, Bool.and_self, notRefB (dI_co k0) rfl (by simp), notRefB (dI_co k1) rfl (by simp)]) rfl⟩
theorem en84 : Enters Try.prog 84 := enters_of Try.func84 (by kernel_rfl) (by kernel_rfl)

-- caravel/seq.In
set_option maxHeartbeats 400000 in
theorem at71 (a : Int) (s : Int) (n : Int) : SpecAt Try.prog 71 [.v (.int .u32 a), .v (.int .u32 s), .v (.int .i64 n)] (.v (.bool (seqIn a s n))) none := by
  all_goals refine specAt_of_tri Try.func71 rfl (Nat.le_of_ble_eq_true rfl) ?_
  all_goals (repeat' (first
    | (refine tri_ret ?_)
    | (refine tri_step (id := 0) (C := ⟨[], [], []⟩) [0, 1, 2] [] gok_nil nodraw ?_; refine ⟨_, by (simp [seqIn, flg]; exact Is.mk), ?_⟩)
    | (refine tri_stepG (id := 1) (C := ⟨[], [], []⟩) [6] [] gok_nil nodraw ?_; refine ⟨_, (run_split 0 3 9 (by simp [seqIn, flg]; exact Is.mk) (by simp; exact IsB.mk) (by simp [seqIn, flg]; exact IsK.mk) (by simp [seqIn, flg]; exact IsK.mk) (by simp; exact IsK.mk)), ?_⟩)
    ))
  all_goals (refine post_plainV (P := Try.prog) (fn := Try.f71) (by simp; exact IsV.mk) rfl ?_)
  all_goals (first | (simp [seqIn, flg]; done) | (simp [*, seqIn, flg]; done) | (simp_all [seqIn, flg]; done) | (simp [seqIn, flg] <;> (repeat' split) <;> simp_all; done) | (simp [seqIn, flg] <;> (repeat' split) <;> simp_all [Bool.and_assoc] <;> grind [List.length_eq_zero_iff, sendCells_co, recvCells_co, pieceCells_co, connCells_co, segCells_co, clockCells_co]))
noncomputable def F71 : Fn1
  | [x0, x1, x2] => (dI .u32 x0).bind fun a => (dI .u32 x1).bind fun s => (dI .i64 x2).bind fun n => some ((.v (.bool (seqIn a s n))), none)
  | _ => none
theorem spec71 : Spec1 Try.prog 71 F71 := spec_of fun ys r o h => by
  unfold F71 at h
  split at h
  case h_2 => cases h
  obtain ⟨a, k0, h1⟩ := bind_some h
  obtain ⟨s, k1, h2⟩ := bind_some h1
  obtain ⟨n, k2, h3⟩ := bind_some h2
  cases h3
  exact ⟨_, at71 a s n, rfl, le_plain ⟨dI_co k0, ⟨dI_co k1, ⟨dI_co k2, trivial⟩⟩⟩ (by simp only [List.all_cons, List.all_nil, Bool.not_false, Bool.and_self, notRefB (dI_co k0) rfl (by simp), notRefB (dI_co k1) rfl (by simp), notRefB (dI_co k2) rfl (by simp)]) rfl⟩
theorem en71 : Enters Try.prog 71 := enters_of Try.func71 (by kernel_rfl) (by kernel_rfl)

-- caravel/seq.Fits
theorem g44 : GOk1 Try.prog (ctxOf [(71, F71), (54, F54)]) := gok_cons spec71 en71 (gok_cons spec54 en54 (gok_nil))
set_option maxHeartbeats 400000 in
theorem at44 (a : Int) (n : Int) (s : Int) (w : Int) : SpecAt Try.prog 44 [.v (.int .u32 a), .v (.int .i64 n), .v (.int .u32 s), .v (.int .i64 w)] (.v (.bool (seqFits a n s w))) none := by
  all_goals refine specAt_of_tri Try.func44 rfl (Nat.le_of_ble_eq_true rfl) ?_
  all_goals (repeat' (first
    | (refine tri_skip ?_)
    | (refine th_n ?_)
    | (refine in_n ?_)
    | (refine th_r ?_)
    | (refine in_r ?_)
    | (refine tri_ret ?_)
    | (refine tri_block ?_)
    | (refine tri_step (id := 0) (C := ⟨[], [], []⟩) [0, 1, 2, 3] [] g44 nodraw ?_; refine ⟨_, by (simp [F71, F54, seqFits, flg]; exact Is.mk), ?_⟩)
    | (refine tri_stepG (id := 1) (C := ⟨[], [], []⟩) [0, 1, 2, 3, 9] [] g44 nodraw ?_; refine ⟨_, (run_split 0 3 12 (by simp [F71, F54, seqFits, flg]; exact Is.mk) (by simp; exact IsB.mk) (by simp [F71, F54, seqFits, flg]; exact IsK.mk) (by simp [F71, F54, seqFits, flg]; exact IsK.mk) (by simp; exact IsK.mk)), ?_⟩)
    | (refine tri_step (id := 2) (C := ⟨[], [], []⟩) [8] [] g44 nodraw ?_; refine ⟨_, by (simp [F71, F54, seqFits, flg]; exact Is.mk), ?_⟩)
    | (refine tri_step (id := 3) (C := ⟨[], [], []⟩) [0, 1, 2, 3, 19] [] g44 nodraw ?_; refine ⟨_, by (simp [F71, F54, seqFits, flg]; exact Is.mk), ?_⟩)
    | (refine tri_step (id := 4) (C := ⟨[], [], []⟩) [8] [] g44 nodraw ?_; refine ⟨_, by (simp [F71, F54, seqFits, flg]; exact Is.mk), ?_⟩)
    | (refine tri_step (id := 5) (C := ⟨[], [], []⟩) [0, 1, 2, 3, 26] [] g44 nodraw ?_; refine ⟨_, by (simp [F71, F54, seqFits, flg]; exact Is.mk), ?_⟩)
    | (refine tri_step (id := 6) (C := ⟨[], [], []⟩) [8] [] g44 nodraw ?_; refine ⟨_, by (simp [F71, F54, seqFits, flg]; exact Is.mk), ?_⟩)
    | (refine tri_stepG (id := 7) (C := ⟨[], [], []⟩) [8] [] g44 nodraw ?_; refine ⟨_, (run_split 0 5 33 (by simp [F71, F54, seqFits, flg]; exact Is.mk) (by simp; exact IsB.mk) (run_split 5 9 42 (by simp [F71, F54, seqFits, flg]; exact Is.mk) (by simp; exact IsB.mk) (by simp [F71, F54, seqFits, flg]; exact IsK.mk) (by simp [F71, F54, seqFits, flg]; exact IsK.mk) (by simp; exact IsK.mk)) (run_split 5 9 42 (by simp [F71, F54, seqFits, flg]; exact Is.mk) (by simp; exact IsB.mk) (by simp [F71, F54, seqFits, flg]; exact IsK.mk) (by simp [F71, F54, seqFits, flg]; exact IsK.mk) (by simp; exact IsK.mk)) (by simp; exact IsK.mk)), ?_⟩)
    | (refine tri_cond (c := .tmp 9) (b_true (by simp; exact IsB.mk)) (fun hc => ?_) (fun hc => ?_))
    | (refine tri_cond (c := .tmp 19) (b_true (by simp; exact IsB.mk)) (fun hc => ?_) (fun hc => ?_))
    | (refine tri_cond (c := .tmp 26) (b_true (by simp; exact IsB.mk)) (fun hc => ?_) (fun hc => ?_))
    | (refine tri_seq ?_)
    ))
  all_goals (refine post_plainV (P := Try.prog) (fn := Try.f44) (by simp; exact IsV.mk) rfl ?_)
  all_goals (first | (simp [F71, F54, seqFits, flg]; done) | (simp [*, F71, F54, seqFits, flg]; done) | (simp_all [F71, F54, seqFits, flg]; done) | (simp [F71, F54, seqFits, flg] <;> (repeat' split) <;> simp_all; done) | (simp [F71, F54, seqFits, flg] <;> (repeat' split) <;> simp_all [Bool.and_assoc] <;> grind [List.length_eq_zero_iff, sendCells_co, recvCells_co, pieceCells_co, connCells_co, segCells_co, clockCells_co]))
noncomputable def F44 : Fn1
  | [x0, x1, x2, x3] => (dI .u32 x0).bind fun a => (dI .i64 x1).bind fun n => (dI .u32 x2).bind fun s => (dI .i64 x3).bind fun w => some ((.v (.bool (seqFits a n s w))), none)
  | _ => none
theorem spec44 : Spec1 Try.prog 44 F44 := spec_of fun ys r o h => by
  unfold F44 at h
  split at h
  case h_2 => cases h
  obtain ⟨a, k0, h1⟩ := bind_some h
  obtain ⟨n, k1, h2⟩ := bind_some h1
  obtain ⟨s, k2, h3⟩ := bind_some h2
  obtain ⟨w, k3, h4⟩ := bind_some h3
  cases h4
  exact ⟨_, at44 a n s w, rfl, le_plain ⟨dI_co k0, ⟨dI_co k1, ⟨dI_co k2, ⟨dI_co k3, trivial⟩⟩⟩⟩ (by simp only [List.all_cons, List.all_nil, Bool.not_false, Bool.and_self, notRefB (dI_co k0) rfl (by simp), notRefB (dI_co k1) rfl (by simp), notRefB (dI_co k2) rfl (by simp), notRefB (dI_co k3) rfl (by simp)]) rfl⟩
theorem en44 : Enters Try.prog 44 := enters_of Try.func44 (by kernel_rfl) (by kernel_rfl)

-- caravel/segment.Len
set_option maxHeartbeats 400000 in
theorem at48 (s : Caw.Seg) : SpecAt Try.prog 48 [.agg (segCells s)] (.v (.int .i64 (segLen s))) none := by
  all_goals refine specAt_of_tri Try.func48 rfl (Nat.le_of_ble_eq_true rfl) ?_
  all_goals (repeat' (first
    | (refine tri_skip ?_)
    | (refine th_n ?_)
    | (refine tri_ret ?_)
    | (refine tri_step (id := 0) (C := ⟨[1], [], []⟩) [1] [] gok_nil nodraw ?_; refine ⟨_, by (simp [segLen, hasF, flg]; exact Is.mk), ?_⟩)
    | (refine tri_step (id := 1) (C := ⟨[1], [], []⟩) [1, 3] [] gok_nil nodraw ?_; refine ⟨_, by (simp [segLen, hasF, flg]; exact Is.mk), ?_⟩)
    | (refine tri_step (id := 2) (C := ⟨[1], [], []⟩) [1, 3, 10] [] gok_nil nodraw ?_; refine ⟨_, by (simp [segLen, hasF, flg]; exact Is.mk), ?_⟩)
    | (refine tri_last (id := 3) (C := ⟨[1], [], []⟩) [1, 3] [] gok_nil nodraw ?_; refine ⟨_, by (simp [segLen, hasF, flg]; exact Is.mk), ?_⟩)
    | (refine tri_step (id := 4) (C := ⟨[1], [], []⟩) [3, 16] [] gok_nil nodraw ?_; refine ⟨_, by (simp [segLen, hasF, flg]; exact Is.mk), ?_⟩)
    | (refine tri_last (id := 5) (C := ⟨[1], [], []⟩) [3] [] gok_nil nodraw ?_; refine ⟨_, by (simp [segLen, hasF, flg]; exact Is.mk), ?_⟩)
    | (refine tri_step (id := 6) (C := ⟨[1], [], []⟩) [2] [] gok_nil nodraw ?_; refine ⟨_, by (simp [segLen, hasF, flg]; exact Is.mk), ?_⟩)
    | (apply tri_iteTo (c := .tmp 10) [1, 3] [] (by simp; exact IsB.mk))
    | (apply tri_iteTo (c := .tmp 16) [3] [] (by simp; exact IsB.mk))
    | (refine to_mk (by simp; exact IsK.mk))
    | (refine imp_ ?_)
    | ((simp; exact IsK.mk))
    | (refine tri_seq ?_)
    ))
  all_goals (refine post_plainV (P := Try.prog) (fn := Try.f48) (by simp; exact IsV.mk) rfl ?_)
  all_goals (first | (simp [segLen, hasF, flg]; done) | (simp [*, segLen, hasF, flg]; done) | (simp_all [segLen, hasF, flg]; done) | (simp [segLen, hasF, flg] <;> (repeat' split) <;> simp_all; done) | (simp [segLen, hasF, flg] <;> (repeat' split) <;> simp_all [Bool.and_assoc] <;> grind [List.length_eq_zero_iff, sendCells_co, recvCells_co, pieceCells_co, connCells_co, segCells_co, clockCells_co]))
noncomputable def F48 : Fn1
  | [x0] => (whole pSeg x0).bind fun s => some ((.v (.int .i64 (segLen s))), none)
  | _ => none
theorem spec48 : Spec1 Try.prog 48 F48 := spec_of fun ys r o h => by
  unfold F48 at h
  split at h
  case h_2 => cases h
  obtain ⟨s, k0, h1⟩ := bind_some h
  cases h1
  exact ⟨_, at48 s, rfl, le_plain ⟨whole_co pSeg_snd k0, trivial⟩ (by simp only [List.all_cons, List.all_nil, Bool.not_false, Bool.and_self, notRefB (whole_co pSeg_snd k0) rfl (by simp)]) rfl⟩
theorem en48 : Enters Try.prog 48 := enters_of Try.func48 (by kernel_rfl) (by kernel_rfl)

-- caravel/rto.New
set_option maxHeartbeats 400000 in
theorem at81 : SpecAt Try.prog 81 [] (.agg (clockCells rtoNew)) none := by
  all_goals refine specAt_of_tri Try.func81 rfl (Nat.le_of_ble_eq_true rfl) ?_
  all_goals (repeat' (first
    | (refine tri_ret ?_)
    | (refine tri_step (id := 0) (C := ⟨[], [], []⟩) [0] [(1, 0, 0)] gok_nil nodraw ?_; refine ⟨_, by (simp [rtoNew, clockCells, flg]; exact Is.mk), ?_⟩)
    | (refine tri_step (id := 1) (C := ⟨[], [], []⟩) [0] [(1, 0, 0)] gok_nil nodraw ?_; refine ⟨_, by (simp [rtoNew, clockCells, flg]; exact Is.mk), ?_⟩)
    ))
  all_goals (refine post_plainV (P := Try.prog) (fn := Try.f81) (by simp; exact IsV.mk) rfl ?_)
  all_goals (first | (simp [rtoNew, clockCells, flg]; done) | (simp [*, rtoNew, clockCells, flg]; done) | (simp_all [rtoNew, clockCells, flg]; done) | (simp [rtoNew, clockCells, flg] <;> (repeat' split) <;> simp_all; done) | (simp [rtoNew, clockCells, flg] <;> (repeat' split) <;> simp_all [Bool.and_assoc] <;> grind [List.length_eq_zero_iff, sendCells_co, recvCells_co, pieceCells_co, connCells_co, segCells_co, clockCells_co]))
noncomputable def F81 : Fn1
  | [] => some ((.agg (clockCells rtoNew)), none)
  | _ => none
theorem spec81 : Spec1 Try.prog 81 F81 := spec_of fun ys r o h => by
  unfold F81 at h
  split at h
  case h_2 => cases h
  cases h
  exact ⟨_, at81, rfl, le_plain trivial (by simp only [List.all_cons, List.all_nil, Bool.not_false, Bool.and_self]) rfl⟩
theorem en81 : Enters Try.prog 81 := enters_of Try.func81 (by kernel_rfl) (by kernel_rfl)

-- caravel/rto.bound
set_option maxHeartbeats 400000 in
theorem at78 (n : Int) : SpecAt Try.prog 78 [.v (.int .i64 n)] (.v (.int .i64 (rtoBound n))) none := by
  all_goals refine specAt_of_tri Try.func78 rfl (Nat.le_of_ble_eq_true rfl) ?_
  all_goals (repeat' (first
    | (refine tri_ret ?_)
    | (refine tri_step (id := 0) (C := ⟨[], [], []⟩) [0] [] gok_nil nodraw ?_; refine ⟨_, by (simp [rtoBound, flg]; exact Is.mk), ?_⟩)
    | (refine tri_step (id := 1) (C := ⟨[], [], []⟩) [2] [] gok_nil nodraw ?_; refine ⟨_, by (simp [rtoBound, flg]; exact Is.mk), ?_⟩)
    ))
  all_goals (refine post_plainV (P := Try.prog) (fn := Try.f78) (by simp; exact IsV.mk) rfl ?_)
  all_goals (first | (simp [rtoBound, flg]; done) | (simp [*, rtoBound, flg]; done) | (simp_all [rtoBound, flg]; done) | (simp [rtoBound, flg] <;> (repeat' split) <;> simp_all; done) | (simp [rtoBound, flg] <;> (repeat' split) <;> simp_all [Bool.and_assoc] <;> grind [List.length_eq_zero_iff, sendCells_co, recvCells_co, pieceCells_co, connCells_co, segCells_co, clockCells_co]))
noncomputable def F78 : Fn1
  | [x0] => (dI .i64 x0).bind fun n => some ((.v (.int .i64 (rtoBound n))), none)
  | _ => none
theorem spec78 : Spec1 Try.prog 78 F78 := spec_of fun ys r o h => by
  unfold F78 at h
  split at h
  case h_2 => cases h
  obtain ⟨n, k0, h1⟩ := bind_some h
  cases h1
  exact ⟨_, at78 n, rfl, le_plain ⟨dI_co k0, trivial⟩ (by simp only [List.all_cons, List.all_nil, Bool.not_false, Bool.and_self, notRefB (dI_co k0) rfl (by simp)]) rfl⟩
theorem en78 : Enters Try.prog 78 := enters_of Try.func78 (by kernel_rfl) (by kernel_rfl)

-- caravel/rto.Measure
theorem g85 : GOk1 Try.prog (ctxOf [(78, F78)]) := gok_cons spec78 en78 (gok_nil)
set_option maxHeartbeats 400000 in
theorem at85 (c : Caw.Clock) (t : Int) : SpecAt Try.prog 85 [.agg (clockCells c), .v (.int .u64 t)] (.agg (clockCells (rtoMeasure c t))) none := by
  all_goals refine specAt_of_tri Try.func85 rfl (Nat.le_of_ble_eq_true rfl) ?_
  all_goals (repeat' (first
    | (refine th_n ?_)
    | (refine tri_ret ?_)
    | (refine tri_step (id := 0) (C := ⟨[], [], []⟩) [1, 2, 4] [(3, 0, 0), (5, 0, 0)] g85 nodraw ?_; refine ⟨_, by (simp [F78, rtoMeasure, flg]; exact Is.mk), ?_⟩)
    | (refine tri_step (id := 1) (C := ⟨[], [], []⟩) [2, 4, 5] [(3, 0, 0), (5, 0, 0)] g85 nodraw ?_; refine ⟨_, by (simp [F78, rtoMeasure, flg]; exact Is.mk), ?_⟩)
    | (refine tri_stepG (id := 2) (C := ⟨[], [], []⟩) [2, 4, 5, 17] [(3, 0, 0), (5, 0, 0)] g85 nodraw ?_; refine ⟨_, (run_split 0 4 13 (by simp [F78, rtoMeasure, flg]; exact Is.mk) (by simp; exact IsB.mk) (by simp [F78, rtoMeasure, flg]; exact IsK.mk) (by simp [F78, rtoMeasure, flg]; exact IsK.mk) (by simp; exact IsK.mk)), ?_⟩)
    | (refine tri_last (id := 3) (C := ⟨[], [], []⟩) [2, 4] [(3, 0, 0), (5, 0, 0)] g85 nodraw ?_; refine ⟨_, by (simp [F78, rtoMeasure, flg]; exact Is.mk), ?_⟩)
    | (refine tri_step (id := 4) (C := ⟨[], [], []⟩) [2, 4, 5, 6] [(3, 0, 0), (5, 0, 0)] g85 nodraw ?_; refine ⟨_, by (simp [F78, rtoMeasure, flg]; exact Is.mk), ?_⟩)
    | (refine tri_step (id := 5) (C := ⟨[], [], []⟩) [2, 4, 5] [(3, 0, 0), (5, 0, 0)] g85 nodraw ?_; refine ⟨_, by (simp [F78, rtoMeasure, flg]; exact Is.mk), ?_⟩)
    | (refine tri_last (id := 6) (C := ⟨[], [], []⟩) [2, 4] [(3, 0, 0), (5, 0, 0)] g85 nodraw ?_; refine ⟨_, by (simp [F78, rtoMeasure, flg]; exact Is.mk), ?_⟩)
    | (refine tri_step (id := 7) (C := ⟨[], [], []⟩) [2, 4] [(3, 0, 0), (5, 0, 0)] g85 nodraw ?_; refine ⟨_, by (simp [F78, rtoMeasure, flg]; exact Is.mk), ?_⟩)
    | (refine tri_step (id := 8) (C := ⟨[], [], []⟩) [4] [(5, 0, 0)] g85 nodraw ?_; refine ⟨_, by (simp [F78, rtoMeasure, flg]; exact Is.mk), ?_⟩)
    | (apply tri_iteTo (c := .tmp 17) [2, 4] [(3, 0, 0), (5, 0, 0)] (by simp; exact IsB.mk))
    | (refine to_mk (by simp; exact IsK.mk))
    | (refine imp_ ?_)
    | ((simp; exact IsK.mk))
    | (refine tri_seq ?_)
    ))
  all_goals (refine post_plainV (P := Try.prog) (fn := Try.f85) (by simp; exact IsV.mk) rfl ?_)
  all_goals (first | (simp [F78, rtoMeasure, flg]; done) | (simp [*, F78, rtoMeasure, flg]; done) | (simp_all [F78, rtoMeasure, flg]; done) | (simp [F78, rtoMeasure, flg] <;> (repeat' split) <;> simp_all; done) | (simp [F78, rtoMeasure, flg] <;> (repeat' split) <;> simp_all [Bool.and_assoc] <;> grind [List.length_eq_zero_iff, sendCells_co, recvCells_co, pieceCells_co, connCells_co, segCells_co, clockCells_co]))
noncomputable def F85 : Fn1
  | [x0, x1] => (whole pClock x0).bind fun c => (dI .u64 x1).bind fun t => some ((.agg (clockCells (rtoMeasure c t))), none)
  | _ => none
theorem spec85 : Spec1 Try.prog 85 F85 := spec_of fun ys r o h => by
  unfold F85 at h
  split at h
  case h_2 => cases h
  obtain ⟨c, k0, h1⟩ := bind_some h
  obtain ⟨t, k1, h2⟩ := bind_some h1
  cases h2
  exact ⟨_, at85 c t, rfl, le_plain ⟨whole_co pClock_snd k0, ⟨dI_co k1, trivial⟩⟩ (by simp only [List.all_cons, List.all_nil, Bool.not_false, Bool.and_self, notRefB (whole_co pClock_snd k0) rfl (by simp), notRefB (dI_co k1) rfl (by simp)]) rfl⟩
theorem en85 : Enters Try.prog 85 := enters_of Try.func85 (by kernel_rfl) (by kernel_rfl)

-- caravel/rto.Double
theorem g58 : GOk1 Try.prog (ctxOf [(78, F78)]) := gok_cons spec78 en78 (gok_nil)
set_option maxHeartbeats 400000 in
theorem at58 (c : Caw.Clock) : SpecAt Try.prog 58 [.agg (clockCells c)] (.agg (clockCells (rtoDouble c))) none := by
  all_goals refine specAt_of_tri Try.func58 rfl (Nat.le_of_ble_eq_true rfl) ?_
  all_goals (repeat' (first
    | (refine tri_ret ?_)
    | (refine tri_step (id := 0) (C := ⟨[], [], []⟩) [1, 2] [(2, 0, 0), (3, 0, 0)] g58 nodraw ?_; refine ⟨_, by (simp [F78, rtoDouble, flg]; exact Is.mk), ?_⟩)
    | (refine tri_step (id := 1) (C := ⟨[], [], []⟩) [1, 2] [(2, 0, 0), (3, 0, 0)] g58 nodraw ?_; refine ⟨_, by (simp [F78, rtoDouble, flg]; exact Is.mk), ?_⟩)
    | (refine tri_step (id := 2) (C := ⟨[], [], []⟩) [2] [(3, 0, 0)] g58 nodraw ?_; refine ⟨_, by (simp [F78, rtoDouble, flg]; exact Is.mk), ?_⟩)
    ))
  all_goals (refine post_plainV (P := Try.prog) (fn := Try.f58) (by simp; exact IsV.mk) rfl ?_)
  all_goals (first | (simp [F78, rtoDouble, flg]; done) | (simp [*, F78, rtoDouble, flg]; done) | (simp_all [F78, rtoDouble, flg]; done) | (simp [F78, rtoDouble, flg] <;> (repeat' split) <;> simp_all; done) | (simp [F78, rtoDouble, flg] <;> (repeat' split) <;> simp_all [Bool.and_assoc] <;> grind [List.length_eq_zero_iff, sendCells_co, recvCells_co, pieceCells_co, connCells_co, segCells_co, clockCells_co]))
noncomputable def F58 : Fn1
  | [x0] => (whole pClock x0).bind fun c => some ((.agg (clockCells (rtoDouble c))), none)
  | _ => none
theorem spec58 : Spec1 Try.prog 58 F58 := spec_of fun ys r o h => by
  unfold F58 at h
  split at h
  case h_2 => cases h
  obtain ⟨c, k0, h1⟩ := bind_some h
  cases h1
  exact ⟨_, at58 c, rfl, le_plain ⟨whole_co pClock_snd k0, trivial⟩ (by simp only [List.all_cons, List.all_nil, Bool.not_false, Bool.and_self, notRefB (whole_co pClock_snd k0) rfl (by simp)]) rfl⟩
theorem en58 : Enters Try.prog 58 := enters_of Try.func58 (by kernel_rfl) (by kernel_rfl)

-- caravel/rto.Right
set_option maxHeartbeats 400000 in
theorem at53 (c : Caw.Clock) : SpecAt Try.prog 53 [.agg (clockCells c)] (.v (.bool (rtoRight c))) none := by
  all_goals refine specAt_of_tri Try.func53 rfl (Nat.le_of_ble_eq_true rfl) ?_
  all_goals (repeat' (first
    | (refine tri_skipT ?_)
    | (refine th_r ?_)
    | (refine tri_ret ?_)
    | (refine tri_step (id := 0) (C := ⟨[1], [], []⟩) [1] [] gok_nil nodraw ?_; refine ⟨_, by (simp [rtoRight, flg]; exact Is.mk), ?_⟩)
    | (refine tri_stepG (id := 1) (C := ⟨[1], [], []⟩) [1, 10] [] gok_nil nodraw ?_; refine ⟨_, (run_split 0 4 6 (by simp [rtoRight, flg]; exact Is.mk) (by simp; exact IsB.mk) (by simp [rtoRight, flg]; exact IsK.mk) (by simp [rtoRight, flg]; exact IsK.mk) (by simp; exact IsK.mk)), ?_⟩)
    | (refine tri_step (id := 2) (C := ⟨[1], [], []⟩) [2] [] gok_nil nodraw ?_; refine ⟨_, by (simp [rtoRight, flg]; exact Is.mk), ?_⟩)
    | (refine tri_stepG (id := 3) (C := ⟨[1], [], []⟩) [2] [] gok_nil nodraw ?_; refine ⟨_, (run_split 0 4 14 (by simp [rtoRight, flg]; exact Is.mk) (by simp; exact IsB.mk) (run_split 4 5 19 (by simp [rtoRight, flg]; exact Is.mk) (by simp; exact IsB.mk) (by simp [rtoRight, flg]; exact IsK.mk) (run_split 9 4 23 (by simp [rtoRight, flg]; exact Is.mk) (by simp; exact IsB.mk) (run_split 13 5 28 (by simp [rtoRight, flg]; exact Is.mk) (by simp; exact IsB.mk) (run_split 18 5 33 (by simp [rtoRight, flg]; exact Is.mk) (by simp; exact IsB.mk) (by simp [rtoRight, flg]; exact IsK.mk) (by simp [rtoRight, flg]; exact IsK.mk) (by simp; exact IsK.mk)) (run_split 18 5 33 (by simp [rtoRight, flg]; exact Is.mk) (by simp; exact IsB.mk) (by simp [rtoRight, flg]; exact IsK.mk) (by simp [rtoRight, flg]; exact IsK.mk) (by simp; exact IsK.mk)) (by simp; exact IsK.mk)) (run_split 13 5 28 (by simp [rtoRight, flg]; exact Is.mk) (by simp; exact IsB.mk) (run_split 18 5 33 (by simp [rtoRight, flg]; exact Is.mk) (by simp; exact IsB.mk) (by simp [rtoRight, flg]; exact IsK.mk) (by simp [rtoRight, flg]; exact IsK.mk) (by simp; exact IsK.mk)) (run_split 18 5 33 (by simp [rtoRight, flg]; exact Is.mk) (by simp; exact IsB.mk) (by simp [rtoRight, flg]; exact IsK.mk) (by simp [rtoRight, flg]; exact IsK.mk) (by simp; exact IsK.mk)) (by simp; exact IsK.mk)) (by simp; exact IsK.mk)) (by simp; exact IsK.mk)) (run_split 4 5 19 (by simp [rtoRight, flg]; exact Is.mk) (by simp; exact IsB.mk) (by simp [rtoRight, flg]; exact IsK.mk) (run_split 9 4 23 (by simp [rtoRight, flg]; exact Is.mk) (by simp; exact IsB.mk) (run_split 13 5 28 (by simp [rtoRight, flg]; exact Is.mk) (by simp; exact IsB.mk) (run_split 18 5 33 (by simp [rtoRight, flg]; exact Is.mk) (by simp; exact IsB.mk) (by simp [rtoRight, flg]; exact IsK.mk) (by simp [rtoRight, flg]; exact IsK.mk) (by simp; exact IsK.mk)) (run_split 18 5 33 (by simp [rtoRight, flg]; exact Is.mk) (by simp; exact IsB.mk) (by simp [rtoRight, flg]; exact IsK.mk) (by simp [rtoRight, flg]; exact IsK.mk) (by simp; exact IsK.mk)) (by simp; exact IsK.mk)) (run_split 13 5 28 (by simp [rtoRight, flg]; exact Is.mk) (by simp; exact IsB.mk) (run_split 18 5 33 (by simp [rtoRight, flg]; exact Is.mk) (by simp; exact IsB.mk) (by simp [rtoRight, flg]; exact IsK.mk) (by simp [rtoRight, flg]; exact IsK.mk) (by simp; exact IsK.mk)) (run_split 18 5 33 (by simp [rtoRight, flg]; exact Is.mk) (by simp; exact IsB.mk) (by simp [rtoRight, flg]; exact IsK.mk) (by simp [rtoRight, flg]; exact IsK.mk) (by simp; exact IsK.mk)) (by simp; exact IsK.mk)) (by simp; exact IsK.mk)) (by simp; exact IsK.mk)) (by simp; exact IsK.mk)), ?_⟩)
    | (refine tri_cond (c := .tmp 10) (b_true (by simp; exact IsB.mk)) (fun hc => ?_) (fun hc => ?_))
    | (refine tri_seq ?_)
    ))
  all_goals (refine post_plainV (P := Try.prog) (fn := Try.f53) (by simp; exact IsV.mk) rfl ?_)
  all_goals (first | (simp [rtoRight, flg]; done) | (simp [*, rtoRight, flg]; done) | (simp_all [rtoRight, flg]; done) | (simp [rtoRight, flg] <;> (repeat' split) <;> simp_all; done) | (simp [rtoRight, flg] <;> (repeat' split) <;> simp_all [Bool.and_assoc] <;> grind [List.length_eq_zero_iff, sendCells_co, recvCells_co, pieceCells_co, connCells_co, segCells_co, clockCells_co]))
noncomputable def F53 : Fn1
  | [x0] => (whole pClock x0).bind fun c => some ((.v (.bool (rtoRight c))), none)
  | _ => none
theorem spec53 : Spec1 Try.prog 53 F53 := spec_of fun ys r o h => by
  unfold F53 at h
  split at h
  case h_2 => cases h
  obtain ⟨c, k0, h1⟩ := bind_some h
  cases h1
  exact ⟨_, at53 c, rfl, le_plain ⟨whole_co pClock_snd k0, trivial⟩ (by simp only [List.all_cons, List.all_nil, Bool.not_false, Bool.and_self, notRefB (whole_co pClock_snd k0) rfl (by simp)]) rfl⟩
theorem en53 : Enters Try.prog 53 := enters_of Try.func53 (by kernel_rfl) (by kernel_rfl)

-- caravel/recvq.Window
set_option maxHeartbeats 400000 in
theorem at45 (q : Caw.Recv) : SpecAt Try.prog 45 [.agg (recvCells q)] (.v (.int .i64 (recvWindow q))) none := by
  all_goals refine specAt_of_tri Try.func45 rfl (Nat.le_of_ble_eq_true rfl) ?_
  all_goals (repeat' (first
    | (refine tri_ret ?_)
    | (refine tri_step (id := 0) (C := ⟨[1], [], []⟩) [1] [] gok_nil nodraw ?_; refine ⟨_, by (simp [recvWindow, flg]; exact Is.mk), ?_⟩)
    | (refine tri_step (id := 1) (C := ⟨[1], [], []⟩) [2] [] gok_nil nodraw ?_; refine ⟨_, by (simp [recvWindow, flg]; exact Is.mk), ?_⟩)
    ))
  all_goals (refine post_plainV (P := Try.prog) (fn := Try.f45) (by simp; exact IsV.mk) rfl ?_)
  all_goals (first | (simp [recvWindow, flg]; done) | (simp [*, recvWindow, flg]; done) | (simp_all [recvWindow, flg]; done) | (simp [recvWindow, flg] <;> (repeat' split) <;> simp_all; done) | (simp [recvWindow, flg] <;> (repeat' split) <;> simp_all [Bool.and_assoc] <;> grind [List.length_eq_zero_iff, sendCells_co, recvCells_co, pieceCells_co, connCells_co, segCells_co, clockCells_co]))
noncomputable def F45 : Fn1
  | [x0] => (whole pRecv x0).bind fun q => some ((.v (.int .i64 (recvWindow q))), none)
  | _ => none
theorem spec45 : Spec1 Try.prog 45 F45 := spec_of fun ys r o h => by
  unfold F45 at h
  split at h
  case h_2 => cases h
  obtain ⟨q, k0, h1⟩ := bind_some h
  cases h1
  exact ⟨_, at45 q, rfl, le_plain ⟨whole_co pRecv_snd k0, trivial⟩ (by simp only [List.all_cons, List.all_nil, Bool.not_false, Bool.and_self, notRefB (whole_co pRecv_snd k0) rfl (by simp)]) rfl⟩
theorem en45 : Enters Try.prog 45 := enters_of Try.func45 (by kernel_rfl) (by kernel_rfl)

-- caravel/recvq.New
set_option maxHeartbeats 400000 in
theorem at83 (n : Int) : SpecAt Try.prog 83 [.v (.int .u32 n)] (.agg (recvCells (recvNew n))) none := by
  all_goals refine specAt_of_tri Try.func83 rfl (Nat.le_of_ble_eq_true rfl) ?_
  all_goals (repeat' (first
    | (refine tri_ret ?_)
    | (refine tri_step (id := 0) (C := ⟨[], [], []⟩) [0, 2] [(3, 0, 0)] gok_nil nodraw ?_; refine ⟨_, by (simp [flg]; exact Is.mk), ?_⟩)
    | (refine tri_step (id := 1) (C := ⟨[], [], []⟩) [2] [(3, 0, 0)] gok_nil nodraw ?_; refine ⟨_, by (simp [flg]; exact Is.mk), ?_⟩)
    ))
  all_goals (refine post_plainV (P := Try.prog) (fn := Try.f83) (by simp; exact IsV.mk) rfl ?_)
  all_goals (first | (simp [flg, recvNew, recvCells, encB, encS]; done) | (simp [*, flg, recvNew, recvCells, encB, encS]; done) | (simp_all [flg, recvNew, recvCells, encB, encS]; done) | (simp [flg, recvNew, recvCells, encB, encS] <;> (repeat' split) <;> simp_all; done) | (simp [flg, recvNew, recvCells, encB, encS] <;> (repeat' split) <;> simp_all [Bool.and_assoc] <;> grind [List.length_eq_zero_iff, sendCells_co, recvCells_co, pieceCells_co, connCells_co, segCells_co, clockCells_co]))
noncomputable def F83 : Fn1
  | [x0] => (dI .u32 x0).bind fun n => some ((.agg (recvCells (recvNew n))), none)
  | _ => none
theorem spec83 : Spec1 Try.prog 83 F83 := spec_of fun ys r o h => by
  unfold F83 at h
  split at h
  case h_2 => cases h
  obtain ⟨n, k0, h1⟩ := bind_some h
  cases h1
  exact ⟨_, at83 n, rfl, le_plain ⟨dI_co k0, trivial⟩ (by simp only [List.all_cons, List.all_nil, Bool.not_false, Bool.and_self, notRefB (dI_co k0) rfl (by simp)]) rfl⟩
theorem en83 : Enters Try.prog 83 := enters_of Try.func83 (by kernel_rfl) (by kernel_rfl)

end Go.Proofs.Ytkjodjaamjnejaa

-- Printed by genwalk.py.
namespace Go.Proofs.Ytkjodjaamjnejaa
open Go Go.RowKit Caw
set_option linter.unusedSimpArgs false
set_option linter.unusedVariables false
set_option maxRecDepth 100000

-- slices.Clone[[]byte,byte]
set_option maxHeartbeats 400000 in
theorem at69 (l : List Int) (hpre : Sm l) : SpecAt Try.prog 69 [.sl 1 (encB l) none] (.sl 1 (encB l) flg) none := by
  cases l with
  | nil =>
    refine specAt_of_tri Try.func69 rfl (Nat.le_of_ble_eq_true rfl) ?_
    refine tri_nil (i := 0) (sz := 1) (tg := none) rfl (Nat.le_of_ble_eq_true rfl) (fun a cap => ?_)
    cases a
    all_goals (repeat' (first
      | (refine tri_condT (b_true (by simp; with_reducible exact IsB.mk)) ?_)
      | (refine tri_condF (b_true (by simp; with_reducible exact IsB.mk)) ?_)
      | (refine tri_skipT ?_)
      | (refine th_r ?_)
      | (refine tri_ret ?_)
      | (refine tri_step (id := 0) (C := ⟨[], [], []⟩) [0] [] gok_nil nodraw ?_; refine ⟨_, by (simp [*, encB, flg]; exact Is.mk), ?_⟩)
      | (refine tri_step (id := 1) (C := ⟨[], [], []⟩) [0, 4] [] gok_nil nodraw ?_; refine ⟨_, by (simp [*, encB, flg]; exact Is.mk), ?_⟩)
      | (refine tri_step (id := 2) (C := ⟨[], [], []⟩) [2] [] gok_nil nodraw ?_; refine ⟨_, by (simp [*, encB, flg]; exact Is.mk), ?_⟩)
      | (refine tri_step (id := 3) (C := ⟨[], [], []⟩) [2] [] gok_nil nodraw ?_; refine ⟨_, by (simp [*, encB, flg]; exact Is.mk), ?_⟩)
      | (refine tri_seq ?_)
      ))
    all_goals (refine post_plainL (P := Try.prog) [((0, 0, 0), (8, 0, 0))] (by simp) (fn := Try.f69) (by simp; exact IsV.mk) rfl ?_)
    all_goals (first | (simp [encB, flg]; done) | (simp [*, encB, flg]; done) | (simp_all [encB, flg]; done) | (simp [encB, flg] <;> (repeat' split) <;> simp_all; done) | (simp [encB, flg] <;> (repeat' split) <;> simp_all [Bool.and_assoc] <;> grind [List.length_eq_zero_iff, sendCells_co, recvCells_co, pieceCells_co, connCells_co, segCells_co, clockCells_co]))
  | cons x xs =>
    refine specAt_of_tri Try.func69 rfl (Nat.le_of_ble_eq_true rfl) ?_
    have h2 : (xs.length + 1) * 2 ≤ 1099511627776 := by have := hpre.le; simp at this; omega
    all_goals (repeat' (first
      | (refine tri_condF (b_true (by simp; with_reducible exact IsB.mk)) ?_)
      | (refine tri_skipT ?_)
      | (refine tri_ret ?_)
      | (refine tri_step (id := 0) (C := ⟨[], [], []⟩) [0] [] gok_nil nodraw ?_; refine ⟨_, by (simp [*, encB, flg]; exact Is.mk), ?_⟩)
      | (refine tri_step (id := 1) (C := ⟨[], [], []⟩) [0, 4] [] gok_nil nodraw ?_; refine ⟨_, by (simp [*, encB, flg]; exact Is.mk), ?_⟩)
      | (refine tri_step (id := 3) (C := ⟨[], [], []⟩) [2] [] gok_nil nodraw ?_; refine ⟨_, by (simp [*, encB, flg]; exact Is.mk), ?_⟩)
      | (refine tri_seq ?_)
      ))
    all_goals (refine post_plainL (P := Try.prog) [((0, 0, 0), (8, 0, 0))] (by simp) (fn := Try.f69) (by simp; exact IsV.mk) rfl ?_)
    all_goals (first | (simp [encB, flg]; done) | (simp [*, encB, flg]; done) | (simp_all [encB, flg]; done) | (simp [encB, flg] <;> (repeat' split) <;> simp_all; done) | (simp [encB, flg] <;> (repeat' split) <;> simp_all [Bool.and_assoc] <;> grind [List.length_eq_zero_iff, sendCells_co, recvCells_co, pieceCells_co, connCells_co, segCells_co, clockCells_co]))
open Classical in
noncomputable def F69 : Fn1
  | [x0] => (decB x0).bind fun l => if Sm l then some ((.sl 1 (encB l) flg), none) else none
  | _ => none
theorem spec69 : Spec1 Try.prog 69 F69 := spec_of fun ys r o h => by
  unfold F69 at h
  split at h
  case h_2 => cases h
  obtain ⟨l, k0, h1⟩ := bind_some h
  obtain ⟨hpre, hz⟩ := ite_some h1
  cases hz
  exact ⟨_, at69 l hpre, rfl, le_plain ⟨decB_coA k0, trivial⟩ (by simp only [List.all_cons, List.all_nil, Bool.not_false, Bool.and_self, notRefB (decB_coA k0) rfl (by simp)]) rfl⟩
theorem en69 : Enters Try.prog 69 := enters_of Try.func69 (by kernel_rfl) (by kernel_rfl)

-- caravel/sendq.New
set_option maxHeartbeats 400000 in
theorem at82 (u : Int) : SpecAt Try.prog 82 [.v (.int .u32 u)] (.agg (sendCells (sendNew u))) none := by
  all_goals refine specAt_of_tri Try.func82 rfl (Nat.le_of_ble_eq_true rfl) ?_
  all_goals (repeat' (first
    | (refine tri_ret ?_)
    | (refine tri_step (id := 0) (C := ⟨[], [], []⟩) [0, 2] [(3, 0, 0)] gok_nil nodraw ?_; refine ⟨_, by (simp [sendNew, sendCells, encB, flg]; exact Is.mk), ?_⟩)
    | (refine tri_step (id := 1) (C := ⟨[], [], []⟩) [2] [(3, 0, 0)] gok_nil nodraw ?_; refine ⟨_, by (simp [sendNew, sendCells, encB, flg]; exact Is.mk), ?_⟩)
    ))
  all_goals (refine post_plainV (P := Try.prog) (fn := Try.f82) (by simp; exact IsV.mk) rfl ?_)
  all_goals (first | (simp [sendNew, sendCells, encB, flg]; done) | (simp [*, sendNew, sendCells, encB, flg]; done) | (simp_all [sendNew, sendCells, encB, flg]; done) | (simp [sendNew, sendCells, encB, flg] <;> (repeat' split) <;> simp_all; done) | (simp [sendNew, sendCells, encB, flg] <;> (repeat' split) <;> simp_all [Bool.and_assoc] <;> grind [List.length_eq_zero_iff, sendCells_co, recvCells_co, pieceCells_co, connCells_co, segCells_co, clockCells_co]))
noncomputable def F82 : Fn1
  | [x0] => (dI .u32 x0).bind fun u => some ((.agg (sendCells (sendNew u))), none)
  | _ => none
theorem spec82 : Spec1 Try.prog 82 F82 := spec_of fun ys r o h => by
  unfold F82 at h
  split at h
  case h_2 => cases h
  obtain ⟨u, k0, h1⟩ := bind_some h
  cases h1
  exact ⟨_, at82 u, rfl, le_plain ⟨dI_co k0, trivial⟩ (by simp only [List.all_cons, List.all_nil, Bool.not_false, Bool.and_self, notRefB (dI_co k0) rfl (by simp)]) rfl⟩
theorem en82 : Enters Try.prog 82 := enters_of Try.func82 (by kernel_rfl) (by kernel_rfl)

-- caravel/sendq.Clone
theorem g40 : GOk1 Try.prog (ctxOf [(69, F69)]) := gok_cons spec69 en69 (gok_nil)
set_option maxHeartbeats 400000 in
theorem at40 (q : Caw.Send) (hpre : Sm q.data) : SpecAt Try.prog 40 [.agg (sendCells q)] (.agg (sendCells q)) none := by
  all_goals refine specAt_of_tri Try.func40 rfl (Nat.le_of_ble_eq_true rfl) ?_
  all_goals (repeat' (first
    | (refine tri_ret ?_)
    | (refine tri_step (id := 0) (C := ⟨[], [], []⟩) [1, 2] [(2, 0, 0), (3, 0, 0)] g40 nodraw ?_; refine ⟨_, by (simp [*, F69, sendCells, flg]; exact Is.mk), ?_⟩)
    | (refine tri_step (id := 1) (C := ⟨[], [], []⟩) [1, 2] [(2, 0, 0), (3, 0, 0)] g40 nodraw ?_; refine ⟨_, by (simp [*, F69, sendCells, flg]; exact Is.mk), ?_⟩)
    | (refine tri_step (id := 2) (C := ⟨[], [], []⟩) [2] [(3, 0, 0)] g40 nodraw ?_; refine ⟨_, by (simp [*, F69, sendCells, flg]; exact Is.mk), ?_⟩)
    ))
  all_goals (refine post_plainV (P := Try.prog) (fn := Try.f40) (by simp; exact IsV.mk) rfl ?_)
  all_goals (first | (simp [F69, sendCells, flg]; done) | (simp [*, F69, sendCells, flg]; done) | (simp_all [F69, sendCells, flg]; done) | (simp [F69, sendCells, flg] <;> (repeat' split) <;> simp_all; done) | (simp [F69, sendCells, flg] <;> (repeat' split) <;> simp_all [Bool.and_assoc] <;> grind [List.length_eq_zero_iff, sendCells_co, recvCells_co, pieceCells_co, connCells_co, segCells_co, clockCells_co]))
open Classical in
noncomputable def F40 : Fn1
  | [x0] => (whole pSend x0).bind fun q => if Sm q.data then some ((.agg (sendCells q)), none) else none
  | _ => none
theorem spec40 : Spec1 Try.prog 40 F40 := spec_of fun ys r o h => by
  unfold F40 at h
  split at h
  case h_2 => cases h
  obtain ⟨q, k0, h1⟩ := bind_some h
  obtain ⟨hpre, hz⟩ := ite_some h1
  cases hz
  exact ⟨_, at40 q hpre, rfl, le_plain ⟨whole_co pSend_snd k0, trivial⟩ (by simp only [List.all_cons, List.all_nil, Bool.not_false, Bool.and_self, notRefB (whole_co pSend_snd k0) rfl (by simp)]) rfl⟩
theorem en40 : Enters Try.prog 40 := enters_of Try.func40 (by kernel_rfl) (by kernel_rfl)

-- caravel/sendq.Clone!f
theorem g40f : GOk1 Try.prog (ctxOf [(69, F69)]) := gok_cons spec69 en69 (gok_nil)
set_option maxHeartbeats 400000 in
theorem at40f (q : Caw.Send) (hpre : Sm q.data) : SpecAt Try.prog 40 [.agg (sendCells q)] (.agg [.v (.int .u32 q.una), .sl 1 (encB q.data) flg, .v (.int .i64 q.sent), .v (.bool q.fin), .v (.bool q.finSent), .v (.bool q.finAcked)]) none := by
  all_goals refine specAt_of_tri Try.func40 rfl (Nat.le_of_ble_eq_true rfl) ?_
  all_goals (repeat' (first
    | (refine tri_ret ?_)
    | (refine tri_step (id := 0) (C := ⟨[], [], []⟩) [1, 2] [(2, 0, 0), (3, 0, 0)] g40f nodraw ?_; refine ⟨_, by (simp [*, F69, sendCells, flg]; exact Is.mk), ?_⟩)
    | (refine tri_step (id := 1) (C := ⟨[], [], []⟩) [1, 2] [(2, 0, 0), (3, 0, 0)] g40f nodraw ?_; refine ⟨_, by (simp [*, F69, sendCells, flg]; exact Is.mk), ?_⟩)
    | (refine tri_step (id := 2) (C := ⟨[], [], []⟩) [2] [(3, 0, 0)] g40f nodraw ?_; refine ⟨_, by (simp [*, F69, sendCells, flg]; exact Is.mk), ?_⟩)
    ))
  all_goals (refine post_plainL (P := Try.prog) [((0, 0, 1), (6, 0, 0))] (by simp) (fn := Try.f40) (by simp; exact IsV.mk) rfl ?_)
  all_goals (first | (simp [F69, sendCells, flg]; done) | (simp [*, F69, sendCells, flg]; done) | (simp_all [F69, sendCells, flg]; done) | (simp [F69, sendCells, flg] <;> (repeat' split) <;> simp_all; done) | (simp [F69, sendCells, flg] <;> (repeat' split) <;> simp_all [Bool.and_assoc] <;> grind [List.length_eq_zero_iff, sendCells_co, recvCells_co, pieceCells_co, connCells_co, segCells_co, clockCells_co]))
open Classical in
noncomputable def F40f : Fn1
  | [x0] => (whole pSend x0).bind fun q => if Sm q.data then some ((.agg [.v (.int .u32 q.una), .sl 1 (encB q.data) flg, .v (.int .i64 q.sent), .v (.bool q.fin), .v (.bool q.finSent), .v (.bool q.finAcked)]), none) else none
  | _ => none
theorem spec40f : Spec1 Try.prog 40 F40f := spec_of fun ys r o h => by
  unfold F40f at h
  split at h
  case h_2 => cases h
  obtain ⟨q, k0, h1⟩ := bind_some h
  obtain ⟨hpre, hz⟩ := ite_some h1
  cases hz
  exact ⟨_, at40f q hpre, rfl, le_plain ⟨whole_co pSend_snd k0, trivial⟩ (by simp only [List.all_cons, List.all_nil, Bool.not_false, Bool.and_self, notRefB (whole_co pSend_snd k0) rfl (by simp)]) rfl⟩

-- caravel/sendq.Room
set_option maxHeartbeats 400000 in
theorem at63 (q : Caw.Send) : SpecAt Try.prog 63 [.agg (sendCells q)] (.v (.int .i64 (sendRoom q))) none := by
  all_goals refine specAt_of_tri Try.func63 rfl (Nat.le_of_ble_eq_true rfl) ?_
  all_goals (repeat' (first
    | (refine tri_skipT ?_)
    | (refine th_r ?_)
    | (refine tri_ret ?_)
    | (refine tri_step (id := 0) (C := ⟨[1], [], []⟩) [1] [] gok_nil nodraw ?_; refine ⟨_, by (simp [sendRoom, flg]; exact Is.mk), ?_⟩)
    | (refine tri_step (id := 1) (C := ⟨[1], [], []⟩) [1, 4] [] gok_nil nodraw ?_; refine ⟨_, by (simp [sendRoom, flg]; exact Is.mk), ?_⟩)
    | (refine tri_step (id := 2) (C := ⟨[1], [], []⟩) [2] [] gok_nil nodraw ?_; refine ⟨_, by (simp [sendRoom, flg]; exact Is.mk), ?_⟩)
    | (refine tri_step (id := 3) (C := ⟨[1], [], []⟩) [2] [] gok_nil nodraw ?_; refine ⟨_, by (simp [sendRoom, flg]; exact Is.mk), ?_⟩)
    | (refine tri_cond (c := .tmp 4) (b_true (by simp; exact IsB.mk)) (fun hc => ?_) (fun hc => ?_))
    | (refine tri_seq ?_)
    ))
  all_goals (refine post_plainV (P := Try.prog) (fn := Try.f63) (by simp; exact IsV.mk) rfl ?_)
  all_goals (first | (simp [sendRoom, flg]; done) | (simp [*, sendRoom, flg]; done) | (simp_all [sendRoom, flg]; done) | (simp [sendRoom, flg] <;> (repeat' split) <;> simp_all; done) | (simp [sendRoom, flg] <;> (repeat' split) <;> simp_all [Bool.and_assoc] <;> grind [List.length_eq_zero_iff, sendCells_co, recvCells_co, pieceCells_co, connCells_co, segCells_co, clockCells_co]))
noncomputable def F63 : Fn1
  | [x0] => (whole pSend x0).bind fun q => some ((.v (.int .i64 (sendRoom q))), none)
  | _ => none
theorem spec63 : Spec1 Try.prog 63 F63 := spec_of fun ys r o h => by
  unfold F63 at h
  split at h
  case h_2 => cases h
  obtain ⟨q, k0, h1⟩ := bind_some h
  cases h1
  exact ⟨_, at63 q, rfl, le_plain ⟨whole_co pSend_snd k0, trivial⟩ (by simp only [List.all_cons, List.all_nil, Bool.not_false, Bool.and_self, notRefB (whole_co pSend_snd k0) rfl (by simp)]) rfl⟩
theorem en63 : Enters Try.prog 63 := enters_of Try.func63 (by kernel_rfl) (by kernel_rfl)

-- caravel/sendq.Write
theorem g64 : GOk1 Try.prog (ctxOf [(40, F40f), (63, F63)]) := gok_cons spec40f en40 (gok_cons spec63 en63 (gok_nil))
set_option maxHeartbeats 400000 in
theorem at64 (q : Caw.Send) (d : List Int) (hpre : q.data.length ≤ 256) : SpecAt Try.prog 64 [.agg (sendCells q), .sl 1 (encB d) none] (.tup [.agg (sendCells (sendWrite q d).1), .v (.int .i64 (sendWrite q d).2)]) none := by
  have h1 : Sm q.data := by unfold Sm; omega
  obtain ⟨h2, h3, h4, h5⟩ := write_facts q d hpre
  all_goals refine specAt_of_tri Try.func64 rfl (Nat.le_of_ble_eq_true rfl) ?_
  all_goals (repeat' (first
    | (refine tri_ret ?_)
    | (refine tri_step (id := 0) (C := ⟨[2], [], [(15, (7, 0, 0)), (21, (7, 0, 0))]⟩) [1, 2, 4] [(5, 0, 0)] g64 nodraw ?_; refine ⟨_, by (simp [*, F40f, F63, flg]; exact Is.mk), ?_⟩)
    | (refine tri_step (id := 1) (C := ⟨[2], [], [(15, (7, 0, 0)), (21, (7, 0, 0))]⟩) [1, 2, 4, 6] [(5, 0, 0), (7, 0, 0)] g64 nodraw ?_; refine ⟨_, by (simp [*, F40f, F63, flg]; exact Is.mk), ?_⟩)
    | (refine tri_step (id := 2) (C := ⟨[2], [], [(15, (7, 0, 0)), (21, (7, 0, 0))]⟩) [1, 4, 6, 7] [(5, 0, 0), (7, 0, 0)] g64 nodraw ?_; refine ⟨_, by (simp [*, F40f, F63, flg]; exact Is.mk), ?_⟩)
    | (refine tri_step (id := 3) (C := ⟨[2], [], [(15, (7, 0, 0)), (21, (7, 0, 0))]⟩) [4, 6, 7] [(5, 0, 0), (7, 0, 0)] g64 (fun _ => ⟨q_mixed, by kernel_rfl⟩) ?_; refine ⟨_, by (simp [*, F40f, F63, flg]; exact Is.mk), ?_⟩)
    | (refine tri_step (id := 4) (C := ⟨[2], [], [(15, (7, 0, 0)), (21, (7, 0, 0))]⟩) [4, 5] [(5, 0, 0)] g64 nodraw ?_; refine ⟨_, by (simp [*, F40f, F63, flg]; exact Is.mk), ?_⟩)
    ))
  all_goals (refine post_plainV (P := Try.prog) (fn := Try.f64) (by simp; exact IsV.mk) rfl ?_)
  all_goals (first | (simp [F40f, F63, flg, sendWrite, sendCells]; done) | (simp [*, F40f, F63, flg, sendWrite, sendCells]; done) | (simp_all [F40f, F63, flg, sendWrite, sendCells]; done) | (simp [F40f, F63, flg, sendWrite, sendCells] <;> (repeat' split) <;> simp_all; done) | (simp [F40f, F63, flg, sendWrite, sendCells] <;> (repeat' split) <;> simp_all [Bool.and_assoc] <;> grind [List.length_eq_zero_iff, sendCells_co, recvCells_co, pieceCells_co, connCells_co, segCells_co, clockCells_co]))
open Classical in
noncomputable def F64 : Fn1
  | [x0, x1] => (whole pSend x0).bind fun q => (decB x1).bind fun d => if q.data.length ≤ 256 then some ((.tup [.agg (sendCells (sendWrite q d).1), .v (.int .i64 (sendWrite q d).2)]), none) else none
  | _ => none
theorem spec64 : Spec1 Try.prog 64 F64 := spec_of fun ys r o h => by
  unfold F64 at h
  split at h
  case h_2 => cases h
  obtain ⟨q, k0, h1⟩ := bind_some h
  obtain ⟨d, k1, h2⟩ := bind_some h1
  obtain ⟨hpre, hz⟩ := ite_some h2
  cases hz
  exact ⟨_, at64 q d hpre, rfl, le_plain ⟨whole_co pSend_snd k0, ⟨decB_coA k1, trivial⟩⟩ (by simp only [List.all_cons, List.all_nil, Bool.not_false, Bool.and_self, notRefB (whole_co pSend_snd k0) rfl (by simp), notRefB (decB_coA k1) rfl (by simp)]) rfl⟩
theorem en64 : Enters Try.prog 64 := enters_of Try.func64 (by kernel_rfl) (by kernel_rfl)

-- caravel/sendq.Close
theorem g61 : GOk1 Try.prog (ctxOf [(40, F40)]) := gok_cons spec40 en40 (gok_nil)
set_option maxHeartbeats 400000 in
theorem at61 (q : Caw.Send) (hpre : Sm q.data) : SpecAt Try.prog 61 [.agg (sendCells q)] (.agg (sendCells (sendClose q))) none := by
  all_goals refine specAt_of_tri Try.func61 rfl (Nat.le_of_ble_eq_true rfl) ?_
  all_goals (repeat' (first
    | (refine tri_ret ?_)
    | (refine tri_step (id := 0) (C := ⟨[1], [], []⟩) [1, 2] [(3, 0, 0)] g61 nodraw ?_; refine ⟨_, by (simp [*, F40, flg]; exact Is.mk), ?_⟩)
    | (refine tri_step (id := 1) (C := ⟨[1], [], []⟩) [2, 3] [(3, 0, 0), (4, 0, 0)] g61 nodraw ?_; refine ⟨_, by (simp [*, F40, flg]; exact Is.mk), ?_⟩)
    | (refine tri_step (id := 2) (C := ⟨[1], [], []⟩) [2, 3] [(3, 0, 0), (4, 0, 0)] g61 nodraw ?_; refine ⟨_, by (simp [*, F40, flg]; exact Is.mk), ?_⟩)
    | (refine tri_step (id := 3) (C := ⟨[1], [], []⟩) [2] [(3, 0, 0)] g61 nodraw ?_; refine ⟨_, by (simp [*, F40, flg]; exact Is.mk), ?_⟩)
    ))
  all_goals (refine post_plainV (P := Try.prog) (fn := Try.f61) (by simp; exact IsV.mk) rfl ?_)
  all_goals (first | (simp [F40, flg, sendClose]; done) | (simp [*, F40, flg, sendClose]; done) | (simp_all [F40, flg, sendClose]; done) | (simp [F40, flg, sendClose] <;> (repeat' split) <;> simp_all; done) | (simp [F40, flg, sendClose] <;> (repeat' split) <;> simp_all [Bool.and_assoc] <;> grind [List.length_eq_zero_iff, sendCells_co, recvCells_co, pieceCells_co, connCells_co, segCells_co, clockCells_co]))
open Classical in
noncomputable def F61 : Fn1
  | [x0] => (whole pSend x0).bind fun q => if Sm q.data then some ((.agg (sendCells (sendClose q))), none) else none
  | _ => none
theorem spec61 : Spec1 Try.prog 61 F61 := spec_of fun ys r o h => by
  unfold F61 at h
  split at h
  case h_2 => cases h
  obtain ⟨q, k0, h1⟩ := bind_some h
  obtain ⟨hpre, hz⟩ := ite_some h1
  cases hz
  exact ⟨_, at61 q hpre, rfl, le_plain ⟨whole_co pSend_snd k0, trivial⟩ (by simp only [List.all_cons, List.all_nil, Bool.not_false, Bool.and_self, notRefB (whole_co pSend_snd k0) rfl (by simp)]) rfl⟩
theorem en61 : Enters Try.prog 61 := enters_of Try.func61 (by kernel_rfl) (by kernel_rfl)

-- caravel/sendq.Flight
set_option maxHeartbeats 400000 in
theorem at56 (q : Caw.Send) : SpecAt Try.prog 56 [.agg (sendCells q)] (.v (.int .i64 (sendFlight q))) none := by
  all_goals refine specAt_of_tri Try.func56 rfl (Nat.le_of_ble_eq_true rfl) ?_
  all_goals (repeat' (first
    | (refine tri_skipT ?_)
    | (refine th_r ?_)
    | (refine tri_ret ?_)
    | (refine tri_step (id := 0) (C := ⟨[1], [], []⟩) [1] [] gok_nil nodraw ?_; refine ⟨_, by (simp [sendFlight, flg]; exact Is.mk), ?_⟩)
    | (refine tri_stepG (id := 1) (C := ⟨[1], [], []⟩) [1, 9] [] gok_nil nodraw ?_; refine ⟨_, (run_split 0 3 5 (by simp [sendFlight, flg]; exact Is.mk) (by simp; exact IsB.mk) (by simp [sendFlight, flg]; exact IsK.mk) (by simp [sendFlight, flg]; exact IsK.mk) (by simp; exact IsK.mk)), ?_⟩)
    | (refine tri_step (id := 2) (C := ⟨[1], [], []⟩) [2] [] gok_nil nodraw ?_; refine ⟨_, by (simp [sendFlight, flg]; exact Is.mk), ?_⟩)
    | (refine tri_step (id := 3) (C := ⟨[1], [], []⟩) [2] [] gok_nil nodraw ?_; refine ⟨_, by (simp [sendFlight, flg]; exact Is.mk), ?_⟩)
    | (refine tri_cond (c := .tmp 9) (b_true (by simp; exact IsB.mk)) (fun hc => ?_) (fun hc => ?_))
    | (refine tri_seq ?_)
    ))
  all_goals (refine post_plainV (P := Try.prog) (fn := Try.f56) (by simp; exact IsV.mk) rfl ?_)
  all_goals (first | (simp [sendFlight, flg]; done) | (simp [*, sendFlight, flg]; done) | (simp_all [sendFlight, flg]; done) | (simp [sendFlight, flg] <;> (repeat' split) <;> simp_all; done) | (simp [sendFlight, flg] <;> (repeat' split) <;> simp_all [Bool.and_assoc] <;> grind [List.length_eq_zero_iff, sendCells_co, recvCells_co, pieceCells_co, connCells_co, segCells_co, clockCells_co]))
noncomputable def F56 : Fn1
  | [x0] => (whole pSend x0).bind fun q => some ((.v (.int .i64 (sendFlight q))), none)
  | _ => none
theorem spec56 : Spec1 Try.prog 56 F56 := spec_of fun ys r o h => by
  unfold F56 at h
  split at h
  case h_2 => cases h
  obtain ⟨q, k0, h1⟩ := bind_some h
  cases h1
  exact ⟨_, at56 q, rfl, le_plain ⟨whole_co pSend_snd k0, trivial⟩ (by simp only [List.all_cons, List.all_nil, Bool.not_false, Bool.and_self, notRefB (whole_co pSend_snd k0) rfl (by simp)]) rfl⟩
theorem en56 : Enters Try.prog 56 := enters_of Try.func56 (by kernel_rfl) (by kernel_rfl)

end Go.Proofs.Ytkjodjaamjnejaa

