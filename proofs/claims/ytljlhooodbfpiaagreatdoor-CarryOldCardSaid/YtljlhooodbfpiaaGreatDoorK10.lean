import Derived.Test.YtljlhooodbfpiaaGreatDoorProg
import Derived.Test.YtljlhooodbfpiaaGreatDoorK8
import Derived.KernelRfl
import Derived.Test.YtljlhooodbfpiaaGreatDoorK5
set_option linter.all false
/-! Printed by gentypes.py: what is asked of the types of this seat. -/
namespace Go.Proofs.YtljlhooodbfpiaaGreatDoor
open Go Go.RowKit Caw

theorem q_mixed : Tryz.prog.follows .mixedOrders = true := by kernel_rfl
@[simp] theorem q_row3 : rowT Tryz.prog 3 = some (false, 1) := by kernel_rfl
@[simp] theorem q_size3 : sizeT Tryz.prog 3 = some 1 := by kernel_rfl
@[simp] theorem q_int3 : intT Tryz.prog 3 = some .i64 := by kernel_rfl
@[simp] theorem q_ui3 : Tryz.prog.underlying 3 = some (.int .i64) := by kernel_rfl
@[simp] theorem q_row4 : rowT Tryz.prog 4 = some (false, 1) := by kernel_rfl
@[simp] theorem q_size4 : sizeT Tryz.prog 4 = some 1 := by kernel_rfl
@[simp] theorem q_bool4 : isBoolT Tryz.prog 4 = true := by kernel_rfl
@[simp] theorem q_ub4 : Tryz.prog.underlying 4 = some .bool := by kernel_rfl
@[simp] theorem q_row5 : rowT Tryz.prog 5 = some (false, 1) := by kernel_rfl
@[simp] theorem q_size5 : sizeT Tryz.prog 5 = some 1 := by kernel_rfl
@[simp] theorem q_int5 : intT Tryz.prog 5 = some .u8 := by kernel_rfl
@[simp] theorem q_ui5 : Tryz.prog.underlying 5 = some (.int .u8) := by kernel_rfl
@[simp] theorem q_row9 : rowT Tryz.prog 9 = some (false, 1) := by kernel_rfl
@[simp] theorem q_size9 : sizeT Tryz.prog 9 = some 1 := by kernel_rfl
@[simp] theorem q_us9 : Tryz.prog.underlying 9 = some .string := by kernel_rfl
@[simp] theorem q_row22 : rowT Tryz.prog 22 = some (false, 1) := by kernel_rfl
@[simp] theorem q_size22 : sizeT Tryz.prog 22 = some 1 := by kernel_rfl
@[simp] theorem q_int22 : intT Tryz.prog 22 = some .u32 := by kernel_rfl
@[simp] theorem q_ui22 : Tryz.prog.underlying 22 = some (.int .u32) := by kernel_rfl
@[simp] theorem q_row25 : rowT Tryz.prog 25 = some (false, 1) := by kernel_rfl
@[simp] theorem q_size25 : sizeT Tryz.prog 25 = some 1 := by kernel_rfl
@[simp] theorem q_sl25 : sliceT Tryz.prog 25 = some 1 := by kernel_rfl
@[simp] theorem q_app25 : appI Tryz.prog 25 = some (1, 1) := by kernel_rfl
@[simp] theorem q_ze25 : zeroE Tryz.prog 25 = true := by kernel_rfl
@[simp] theorem q_ul25 : Tryz.prog.underlying 25 = some (.slice 5) := by kernel_rfl
@[simp] theorem q_row27 : rowT Tryz.prog 27 = some (true, 7) := by kernel_rfl
@[simp] theorem q_size27 : sizeT Tryz.prog 27 = some 7 := by kernel_rfl
@[simp] theorem q_f27_0 : fieldOff Tryz.prog 27 0 = some 0 := by kernel_rfl
@[simp] theorem q_f27_1 : fieldOff Tryz.prog 27 1 = some 1 := by kernel_rfl
@[simp] theorem q_f27_2 : fieldOff Tryz.prog 27 2 = some 2 := by kernel_rfl
@[simp] theorem q_f27_3 : fieldOff Tryz.prog 27 3 = some 3 := by kernel_rfl
@[simp] theorem q_f27_4 : fieldOff Tryz.prog 27 4 = some 4 := by kernel_rfl
@[simp] theorem q_f27_5 : fieldOff Tryz.prog 27 5 = some 5 := by kernel_rfl
@[simp] theorem q_f27_6 : fieldOff Tryz.prog 27 6 = some 6 := by kernel_rfl
@[simp] theorem q_pl27 : placeT Tryz.prog 27 = some (fun i => [(0, 1), (1, 1), (2, 1), (3, 1), (4, 1), (5, 1), (6, 1)][i]?) := by kernel_rfl
@[simp] theorem q_nl27 : nilsT Tryz.prog 27 = [(3, 1), (4, 1)] := by kernel_rfl
@[simp] theorem q_z27 : zeroT Tryz.prog 27 = some (.agg #[.int .i64 0, .int .u32 0, .int .u32 0, .slice none 0 0, .slice none 0 0, .int .u32 0, .int .u32 0]) := by kernel_rfl
@[simp] theorem q_row29 : rowT Tryz.prog 29 = some (true, 4) := by kernel_rfl
@[simp] theorem q_size29 : sizeT Tryz.prog 29 = some 4 := by kernel_rfl
@[simp] theorem q_f29_0 : fieldOff Tryz.prog 29 0 = some 0 := by kernel_rfl
@[simp] theorem q_f29_1 : fieldOff Tryz.prog 29 1 = some 1 := by kernel_rfl
@[simp] theorem q_f29_2 : fieldOff Tryz.prog 29 2 = some 2 := by kernel_rfl
@[simp] theorem q_f29_3 : fieldOff Tryz.prog 29 3 = some 3 := by kernel_rfl
@[simp] theorem q_pl29 : placeT Tryz.prog 29 = some (fun i => [(0, 1), (1, 1), (2, 1), (3, 1)][i]?) := by kernel_rfl
@[simp] theorem q_nl29 : nilsT Tryz.prog 29 = [(3, 1)] := by kernel_rfl
@[simp] theorem q_z29 : zeroT Tryz.prog 29 = some (.agg #[.int .i64 0, .int .u32 0, .int .u32 0, .slice none 0 0]) := by kernel_rfl
@[simp] theorem q_row31 : rowT Tryz.prog 31 = some (true, 6) := by kernel_rfl
@[simp] theorem q_size31 : sizeT Tryz.prog 31 = some 6 := by kernel_rfl
@[simp] theorem q_arr31 : arrT Tryz.prog 31 = some (6, 1) := by kernel_rfl
@[simp] theorem q_pl31 : placeT Tryz.prog 31 = some (fun i => some (i * 1, 1)) := by kernel_rfl
@[simp] theorem q_nl31 : nilsT Tryz.prog 31 = [] := by kernel_rfl
@[simp] theorem q_z31 : zeroT Tryz.prog 31 = some (.agg #[.int .u8 0, .int .u8 0, .int .u8 0, .int .u8 0, .int .u8 0, .int .u8 0]) := by kernel_rfl
@[simp] theorem q_row38 : rowT Tryz.prog 38 = some (false, 1) := by kernel_rfl
@[simp] theorem q_size38 : sizeT Tryz.prog 38 = some 1 := by kernel_rfl
@[simp] theorem q_sl38 : sliceT Tryz.prog 38 = some 1 := by kernel_rfl
@[simp] theorem q_app38 : appI Tryz.prog 38 = some (1, 24) := by kernel_rfl
@[simp] theorem q_ze38 : zeroE Tryz.prog 38 = true := by kernel_rfl
@[simp] theorem q_ul38 : Tryz.prog.underlying 38 = some (.slice 25) := by kernel_rfl
@[simp] theorem q_row39 : rowT Tryz.prog 39 = some (false, 1) := by kernel_rfl
@[simp] theorem q_size39 : sizeT Tryz.prog 39 = some 1 := by kernel_rfl
@[simp] theorem q_int39 : intT Tryz.prog 39 = some .u16 := by kernel_rfl
@[simp] theorem q_ui39 : Tryz.prog.underlying 39 = some (.int .u16) := by kernel_rfl
@[simp] theorem q_row46 : rowT Tryz.prog 46 = some (false, 1) := by kernel_rfl
@[simp] theorem q_size46 : sizeT Tryz.prog 46 = some 1 := by kernel_rfl
@[simp] theorem q_sl46 : sliceT Tryz.prog 46 = some 1 := by kernel_rfl
@[simp] theorem q_app46 : appI Tryz.prog 46 = some (1, 1) := by kernel_rfl
@[simp] theorem q_ze46 : zeroE Tryz.prog 46 = true := by kernel_rfl
@[simp] theorem q_ul46 : Tryz.prog.underlying 46 = some (.slice 4) := by kernel_rfl
@[simp] theorem q_row49 : rowT Tryz.prog 49 = some (false, 1) := by kernel_rfl
@[simp] theorem q_size49 : sizeT Tryz.prog 49 = some 1 := by kernel_rfl
@[simp] theorem q_int49 : intT Tryz.prog 49 = some .u64 := by kernel_rfl
@[simp] theorem q_ui49 : Tryz.prog.underlying 49 = some (.int .u64) := by kernel_rfl
@[simp] theorem q_row54 : rowT Tryz.prog 54 = some (true, 37) := by kernel_rfl
@[simp] theorem q_size54 : sizeT Tryz.prog 54 = some 37 := by kernel_rfl
@[simp] theorem q_f54_0 : fieldOff Tryz.prog 54 0 = some 0 := by kernel_rfl
@[simp] theorem q_f54_1 : fieldOff Tryz.prog 54 1 = some 6 := by kernel_rfl
@[simp] theorem q_f54_2 : fieldOff Tryz.prog 54 2 = some 10 := by kernel_rfl
@[simp] theorem q_f54_3 : fieldOff Tryz.prog 54 3 = some 11 := by kernel_rfl
@[simp] theorem q_f54_4 : fieldOff Tryz.prog 54 4 = some 12 := by kernel_rfl
@[simp] theorem q_f54_5 : fieldOff Tryz.prog 54 5 = some 13 := by kernel_rfl
@[simp] theorem q_f54_6 : fieldOff Tryz.prog 54 6 = some 14 := by kernel_rfl
@[simp] theorem q_f54_7 : fieldOff Tryz.prog 54 7 = some 19 := by kernel_rfl
@[simp] theorem q_f54_8 : fieldOff Tryz.prog 54 8 = some 24 := by kernel_rfl
@[simp] theorem q_f54_9 : fieldOff Tryz.prog 54 9 = some 35 := by kernel_rfl
@[simp] theorem q_f54_10 : fieldOff Tryz.prog 54 10 = some 36 := by kernel_rfl
@[simp] theorem q_pl54 : placeT Tryz.prog 54 = some (fun i => [(0, 6), (6, 4), (10, 1), (11, 1), (12, 1), (13, 1), (14, 5), (19, 5), (24, 11), (35, 1), (36, 1)][i]?) := by kernel_rfl
@[simp] theorem q_nl54 : nilsT Tryz.prog 54 = [] := by kernel_rfl
@[simp] theorem q_z54 : zeroT Tryz.prog 54 = some (.agg #[.int .u8 0, .int .u8 0, .int .u8 0, .int .u8 0, .int .u8 0, .int .u8 0, .int .u8 0, .int .u8 0, .int .u8 0, .int .u8 0, .slice none 0 0, .slice none 0 0, .slice none 0 0, .slice none 0 0, .slice none 0 0, .int .u16 0, .int .u16 0, .int .u16 0, .int .u16 0, .slice none 0 0, .int .u16 0, .int .u16 0, .int .u16 0, .int .u16 0, .int .u8 0, .int .u8 0, .int .u8 0, .int .u8 0, .slice none 0 0, .int .u16 0, .slice none 0 0, .slice none 0 0, .slice none 0 0, .int .u64 0, .int .u32 0, .slice none 0 0, .int .u16 0]) := by kernel_rfl
@[simp] theorem q_row60 : rowT Tryz.prog 60 = some (false, 1) := by kernel_rfl
@[simp] theorem q_size60 : sizeT Tryz.prog 60 = some 1 := by kernel_rfl
@[simp] theorem q_int60 : intT Tryz.prog 60 = some .i64 := by kernel_rfl
@[simp] theorem q_ui60 : Tryz.prog.underlying 60 = some (.int .i64) := by kernel_rfl
@[simp] theorem q_row74 : rowT Tryz.prog 74 = some (false, 1) := by kernel_rfl
@[simp] theorem q_size74 : sizeT Tryz.prog 74 = some 1 := by kernel_rfl
@[simp] theorem q_sl74 : sliceT Tryz.prog 74 = some 1 := by kernel_rfl
@[simp] theorem q_app74 : appI Tryz.prog 74 = some (1, 8) := by kernel_rfl
@[simp] theorem q_ze74 : zeroE Tryz.prog 74 = true := by kernel_rfl
@[simp] theorem q_ul74 : Tryz.prog.underlying 74 = some (.slice 3) := by kernel_rfl
@[simp] theorem q_row83 : rowT Tryz.prog 83 = some (false, 1) := by kernel_rfl
@[simp] theorem q_size83 : sizeT Tryz.prog 83 = some 1 := by kernel_rfl
@[simp] theorem q_sl83 : sliceT Tryz.prog 83 = some 2 := by kernel_rfl
@[simp] theorem q_app83 : appI Tryz.prog 83 = some (2, 16) := by kernel_rfl
@[simp] theorem q_ze83 : zeroE Tryz.prog 83 = true := by kernel_rfl
@[simp] theorem q_ul83 : Tryz.prog.underlying 83 = some (.slice 511) := by kernel_rfl
@[simp] theorem q_mk25 : makeB Tryz.prog 25 = true := by kernel_rfl
end Go.Proofs.YtljlhooodbfpiaaGreatDoor

namespace Go.Proofs.YtljlhooodbfpiaaGreatDoor
open Go Go.RowKit Caw
def hvs : List Nat := [63, 64, 65, 67, 68, 69, 70, 71, 72, 91, 92, 93, 95, 96, 98, 99, 100, 101, 103, 104, 105, 106, 108, 109, 110, 111, 135, 137, 138, 140, 141, 142, 143, 145, 147, 148, 149, 151, 153, 154, 155, 157, 158, 172, 173, 176, 177, 179, 180, 182, 183, 185, 209, 212, 243, 244, 247, 255, 262, 272, 274, 275, 277, 278, 285, 300, 301, 302, 303, 304, 306, 309, 310, 312, 363, 364, 365, 366, 367, 373, 375, 376]
def cfs0 : List (Nat × List Nat × List (Nat × Nm)) := [(5, [1], []), (6, [], [(6, (7, 0, 0)), (8, (9, 0, 0)), (9, (10, 0, 0)), (11, (12, 0, 0))]), (8, [4, 5], [(3, (4, 0, 0)), (6, (7, 0, 0)), (7, (8, 0, 0)), (9, (10, 0, 0)), (11, (12, 0, 0)), (12, (13, 0, 0)), (13, (14, 0, 0)), (14, (15, 0, 0)), (18, (5, 0, 0)), (20, (5, 0, 0)), (23, (5, 0, 0)), (25, (5, 0, 0)), (77, (5, 0, 0)), (80, (5, 0, 0)), (82, (4, 0, 0))]), (10, [1], []), (11, [], [(2, (3, 0, 0))]), (12, [], [(9, (10, 0, 0)), (42, (10, 0, 0)), (46, (10, 0, 0)), (54, (10, 0, 0)), (60, (10, 0, 0))]), (13, [2, 3], []), (14, [1], []), (15, [1], []), (16, [3, 4], [(3, (4, 0, 0)), (4, (5, 0, 0)), (6, (7, 0, 0)), (10, (11, 0, 0)), (12, (13, 0, 0))]), (17, [2], []), (18, [], [(3, (4, 0, 0)), (4, (5, 0, 0)), (6, (7, 0, 0)), (7, (8, 0, 0)), (8, (9, 0, 0)), (10, (11, 0, 0))]), (19, [3], []), (20, [1], []), (21, [], [(3, (2, 0, 0)), (6, (2, 0, 0)), (9, (2, 0, 0)), (10, (2, 0, 0))]), (22, [4, 5], [(3, (4, 0, 0)), (5, (6, 0, 0)), (6, (7, 0, 0)), (7, (8, 0, 0)), (13, (14, 0, 0)), (40, (4, 0, 0)), (42, (5, 0, 0)), (49, (5, 0, 0)), (141, (4, 0, 0)), (143, (4, 0, 0))]), (36, [], [(2, (3, 0, 0))]), (37, [1], [(15, (4, 0, 0)), (21, (4, 0, 0))]), (38, [1], [(1, (2, 0, 0)), (2, (3, 0, 0))]), (39, [], [(3, (2, 0, 0)), (6, (2, 0, 0)), (10, (2, 0, 0)), (13, (2, 0, 0)), (14, (2, 0, 0)), (16, (2, 0, 0))]), (40, [], [(9, (2, 0, 0)), (12, (2, 0, 0)), (15, (2, 0, 0)), (18, (2, 0, 0)), (19, (2, 0, 0)), (20, (2, 0, 0)), (54, (2, 0, 0)), (57, (2, 0, 0)), (60, (2, 0, 0)), (63, (2, 0, 0)), (64, (2, 0, 0)), (65, (2, 0, 0))]), (41, [4], [(3, (4, 0, 0)), (4, (5, 0, 0)), (6, (7, 0, 0)), (7, (8, 0, 0)), (8, (9, 0, 0)), (40, (4, 0, 0))]), (42, [], [(2, (3, 0, 0)), (3, (4, 0, 0)), (4, (5, 0, 0)), (5, (6, 0, 0))]), (43, [2], [(4, (5, 0, 0)), (7, (8, 0, 0)), (26, (8, 0, 0))]), (46, [3], []), (50, [], [(17, (3, 0, 0)), (23, (3, 0, 0))]), (51, [4], [(4, (5, 0, 0))]), (52, [2, 3], [(5, (4, 0, 0)), (7, (3, 0, 0))]), (56, [3], []), (57, [], [(3, (2, 0, 0)), (6, (2, 0, 0)), (9, (2, 0, 0)), (10, (2, 0, 0))]), (58, [], [(3, (2, 0, 0)), (6, (2, 0, 0)), (9, (2, 0, 0)), (10, (2, 0, 0))]), (59, [3], []), (60, [1], []), (61, [1], []), (62, [1], [(2, (3, 0, 0)), (3, (2, 0, 0)), (6, (2, 0, 0)), (9, (2, 0, 0))]), (69, [1], [(1, (2, 0, 0)), (61, (4, 0, 0)), (63, (4, 0, 0))]), (73, [2], []), (74, [1], []), (82, [], [(23, (9, 0, 0)), (25, (9, 0, 0))]), (83, [2], [])]
def cfs1 : List (Nat × List Nat × List (Nat × Nm)) := [(85, [1], [(5, (6, 0, 0)), (15, (4, 0, 0)), (21, (4, 0, 0))]), (86, [1], []), (87, [1], []), (88, [1], [(1, (2, 0, 0)), (17, (2, 0, 0)), (34, (2, 0, 0)), (36, (2, 0, 0)), (38, (2, 0, 0)), (40, (2, 0, 0)), (42, (7, 0, 0)), (43, (7, 0, 0)), (44, (7, 0, 0)), (45, (7, 0, 0))]), (94, [], [(1, (2, 0, 0))]), (97, [], [(1, (2, 0, 0))]), (100, [1], [(1, (2, 0, 0)), (3, (4, 0, 0))]), (102, [], [(1, (2, 0, 0))]), (107, [], [(1, (2, 0, 0))]), (111, [2, 3], [(2, (3, 0, 0))]), (112, [], [(4, (5, 0, 0)), (12, (5, 0, 0)), (16, (5, 0, 0)), (21, (5, 0, 0)), (23, (5, 0, 0)), (26, (5, 0, 0))]), (113, [1], [(21, (2, 0, 0)), (23, (2, 0, 0)), (26, (2, 0, 0)), (28, (2, 0, 0)), (31, (2, 0, 0)), (33, (2, 0, 0))]), (114, [1], []), (115, [1], []), (117, [2], []), (118, [1], []), (120, [2], []), (122, [2], []), (124, [1], []), (125, [1], []), (131, [1, 6], []), (132, [1], [(1, (2, 0, 0)), (2, (3, 0, 0)), (5, (6, 0, 0)), (20, (2, 0, 0)), (23, (2, 0, 0))]), (133, [1], []), (134, [1], []), (135, [], [(6, (7, 0, 0)), (9, (10, 0, 0)), (13, (14, 0, 0)), (16, (17, 0, 0)), (27, (5, 0, 0)), (32, (0, 1, 0)), (36, (5, 0, 0)), (58, (0, 1, 0)), (64, (0, 1, 0)), (69, (0, 1, 0)), (75, (0, 1, 0)), (114, (14, 0, 0)), (119, (0, 1, 0)), (124, (14, 0, 0)), (129, (0, 1, 0)), (137, (0, 1, 0)), (144, (0, 1, 0))]), (136, [2], []), (139, [], [(1, (2, 0, 0))]), (140, [1], [(1, (2, 0, 0)), (3, (4, 0, 0)), (19, (4, 0, 0)), (36, (4, 0, 0)), (42, (4, 0, 0)), (55, (4, 0, 0)), (57, (4, 0, 0)), (59, (4, 0, 0)), (64, (4, 0, 0)), (65, (4, 0, 0)), (73, (4, 0, 0)), (78, (4, 0, 0)), (79, (4, 0, 0)), (86, (4, 0, 0)), (87, (4, 0, 0)), (88, (4, 0, 0)), (95, (4, 0, 0)), (96, (4, 0, 0)), (97, (4, 0, 0))]), (144, [2], []), (146, [2], []), (148, [2, 3], [(2, (3, 0, 0))]), (150, [2], []), (152, [2], []), (153, [2, 3], []), (156, [2], []), (158, [3], []), (159, [2, 3], []), (166, [], [(3, (2, 0, 0)), (6, (2, 0, 0)), (9, (2, 0, 0)), (10, (2, 0, 0))]), (167, [], [(6, (7, 0, 0))]), (170, [6, 7, 8], [(7, (8, 0, 0)), (8, (9, 0, 0)), (11, (12, 0, 0)), (65, (7, 0, 0)), (67, (7, 0, 0))])]
def cfs2 : List (Nat × List Nat × List (Nat × Nm)) := [(171, [1], []), (172, [5], [(5, (6, 0, 0)), (15, (0, 1, 0))]), (173, [], [(4, (5, 0, 0)), (5, (6, 0, 0)), (26, (0, 1, 0)), (28, (5, 0, 0)), (34, (0, 1, 0)), (50, (0, 1, 0)), (57, (0, 1, 0))]), (174, [], [(7, (8, 0, 0))]), (175, [], [(4, (5, 0, 0)), (7, (8, 0, 0)), (13, (14, 0, 0)), (132, (5, 0, 0)), (134, (5, 0, 0))]), (176, [3], [(4, (5, 0, 0)), (7, (8, 0, 0)), (40, (0, 1, 0)), (42, (4, 0, 0)), (47, (0, 1, 0)), (51, (0, 1, 0)), (135, (4, 0, 0))]), (178, [], [(1, (2, 0, 0))]), (181, [2], []), (182, [3], []), (184, [2], []), (186, [1], []), (188, [3], []), (189, [1], [(65, (2, 0, 0)), (67, (2, 0, 0)), (73, (2, 0, 0)), (79, (2, 0, 0)), (84, (2, 0, 0)), (89, (2, 0, 0))]), (196, [1], [(19, (4, 0, 0)), (21, (6, 0, 0)), (23, (6, 0, 0)), (29, (4, 0, 0))]), (197, [2], []), (198, [5, 6], [(5, (6, 0, 0)), (6, (7, 0, 0))]), (199, [1], []), (200, [2], [(2, (3, 0, 0)), (28, (7, 0, 0)), (31, (3, 0, 0))]), (201, [4], []), (202, [2], []), (203, [2, 3], []), (204, [3, 4, 5], []), (207, [4, 5], [(11, (12, 0, 0))]), (208, [5, 6, 7], [(6, (7, 0, 0)), (7, (8, 0, 0)), (10, (11, 0, 0)), (13, (14, 0, 0)), (16, (17, 0, 0)), (51, (8, 0, 0)), (95, (21, 0, 0)), (99, (21, 0, 0)), (116, (21, 0, 0)), (128, (21, 0, 0)), (132, (21, 0, 0)), (146, (21, 0, 0)), (150, (21, 0, 0))]), (209, [], [(15, (6, 0, 0)), (20, (0, 1, 0)), (22, (6, 0, 0))]), (210, [5, 6], []), (211, [4, 5], []), (212, [5], [(5, (6, 0, 0)), (8, (9, 0, 0)), (19, (0, 1, 0)), (32, (0, 1, 0)), (40, (0, 1, 0)), (46, (0, 1, 0))]), (213, [1], []), (215, [1], []), (216, [1], [(1, (2, 0, 0)), (8, (2, 0, 0)), (13, (2, 0, 0)), (19, (2, 0, 0)), (22, (2, 0, 0)), (26, (2, 0, 0)), (32, (2, 0, 0)), (34, (2, 0, 0)), (42, (2, 0, 0)), (46, (2, 0, 0)), (67, (6, 0, 0)), (74, (6, 0, 0))]), (217, [1], []), (219, [3, 4, 5], []), (232, [2], []), (234, [2], []), (236, [2], []), (237, [2, 3], [(29, (4, 0, 0)), (34, (4, 0, 0)), (38, (3, 0, 0)), (43, (3, 0, 0))]), (238, [4, 5], []), (241, [1, 6], []), (242, [3, 4], [(4, (5, 0, 0)), (6, (7, 0, 0)), (28, (5, 0, 0)), (31, (4, 0, 0)), (33, (4, 0, 0)), (47, (5, 0, 0)), (52, (4, 0, 0)), (54, (4, 0, 0)), (72, (12, 0, 0)), (76, (12, 0, 0))])]
def cfs3 : List (Nat × List Nat × List (Nat × Nm)) := [(243, [4], [(4, (5, 0, 0)), (7, (8, 0, 0)), (17, (0, 1, 0)), (25, (0, 1, 0))]), (246, [2], []), (247, [8, 9], [(8, (9, 0, 0)), (9, (10, 0, 0)), (15, (16, 0, 0)), (17, (18, 0, 0)), (79, (0, 1, 0))]), (248, [1], [(1, (2, 0, 0)), (17, (2, 0, 0)), (22, (4, 0, 0)), (23, (4, 0, 0))]), (249, [3, 4, 5], []), (251, [3, 4], [(3, (4, 0, 0)), (4, (5, 0, 0))]), (252, [3], []), (253, [1], [(4, (5, 0, 0)), (28, (7, 0, 0)), (29, (7, 0, 0))]), (254, [1], []), (255, [4], [(4, (5, 0, 0)), (6, (7, 0, 0)), (12, (0, 1, 0)), (19, (0, 1, 0)), (41, (0, 1, 0)), (49, (0, 1, 0)), (56, (0, 1, 0))]), (257, [1], []), (271, [2, 9], []), (272, [3], [(3, (4, 0, 0)), (5, (4, 0, 0)), (10, (4, 0, 0)), (15, (0, 1, 0)), (40, (0, 1, 0)), (47, (0, 1, 0))]), (275, [], [(7, (0, 1, 0)), (12, (0, 1, 0))]), (276, [1], []), (277, [3], [(8, (0, 1, 0)), (13, (4, 0, 0)), (19, (4, 0, 0)), (25, (0, 1, 0)), (30, (4, 0, 0)), (33, (5, 0, 0)), (34, (5, 0, 0))]), (278, [3], [(3, (4, 0, 0)), (4, (5, 0, 0)), (14, (4, 0, 0)), (19, (0, 1, 0)), (26, (0, 1, 0)), (33, (0, 1, 0)), (41, (0, 1, 0)), (43, (4, 0, 0)), (103, (0, 1, 0)), (105, (4, 0, 0)), (107, (4, 0, 0)), (109, (4, 0, 0)), (116, (0, 1, 0))]), (280, [1], []), (281, [5, 6, 7], [(10, (11, 0, 0)), (25, (18, 0, 0)), (29, (18, 0, 0))]), (283, [3, 4], [(25, (4, 0, 0)), (28, (5, 0, 0))]), (284, [2, 3], []), (285, [3], [(3, (4, 0, 0)), (10, (0, 1, 0)), (15, (0, 1, 0))]), (295, [10], []), (296, [10], []), (297, [15], []), (298, [15], []), (301, [3], []), (302, [3], []), (303, [], [(3, (4, 0, 0)), (4, (5, 0, 0)), (34, (0, 1, 0)), (40, (0, 1, 0)), (76, (5, 0, 0)), (79, (5, 0, 0)), (86, (0, 1, 0)), (90, (0, 1, 0)), (93, (0, 1, 0)), (96, (0, 1, 0))]), (306, [5], [(6, (7, 0, 0)), (11, (0, 1, 0)), (17, (0, 1, 0)), (19, (6, 0, 0)), (25, (0, 1, 0)), (29, (6, 0, 0)), (49, (0, 1, 0)), (55, (0, 1, 0))]), (307, [1], []), (308, [2], []), (309, [], [(23, (0, 1, 0)), (27, (0, 1, 0)), (31, (0, 1, 0)), (36, (0, 1, 0)), (43, (0, 1, 0))]), (310, [], [(5, (0, 1, 0)), (11, (0, 1, 0)), (17, (0, 1, 0))]), (311, [4], [(4, (5, 0, 0)), (9, (10, 0, 0)), (20, (5, 0, 0)), (29, (5, 0, 0)), (39, (5, 0, 0)), (62, (5, 0, 0)), (67, (5, 0, 0)), (95, (5, 0, 0))]), (313, [6, 7], [(6, (7, 0, 0)), (7, (8, 0, 0))]), (315, [3, 4, 5], []), (323, [5], []), (329, [3], [(6, (7, 0, 0)), (7, (8, 0, 0)), (10, (11, 0, 0)), (13, (14, 0, 0)), (55, (4, 0, 0)), (57, (4, 0, 0)), (60, (4, 0, 0)), (62, (4, 0, 0)), (64, (4, 0, 0))]), (332, [2, 3], [])]
def cfs4 : List (Nat × List Nat × List (Nat × Nm)) := [(333, [], [(19, (8, 0, 0)), (21, (8, 0, 0)), (25, (4, 0, 0)), (34, (4, 0, 0)), (36, (4, 0, 0)), (40, (8, 0, 0)), (58, (3, 0, 0)), (61, (3, 0, 0)), (69, (3, 0, 0)), (70, (3, 0, 0)), (78, (3, 0, 0))]), (347, [2], [(4, (3, 0, 0)), (6, (3, 0, 0))]), (348, [2, 3], [(16, (3, 0, 0)), (20, (3, 0, 0)), (24, (4, 0, 0)), (28, (4, 0, 0)), (36, (4, 0, 0)), (41, (4, 0, 0)), (45, (3, 0, 0)), (50, (3, 0, 0))]), (370, [1], []), (371, [1], []), (372, [1], [])]
def cfg (f : Nat) : Cfg := findC hvs f (cfs0 ++ cfs1 ++ cfs2 ++ cfs3 ++ cfs4)
end Go.Proofs.YtljlhooodbfpiaaGreatDoor

/-! What the chapter's first lines come to: reckoned. -/
namespace Go.Proofs.YtljlhooodbfpiaaGreatDoor
open Go Go.RowKit Caw
theorem noNum : Tryz.prog.funcs.all plainF = true := by kernel_rfl
theorem at6x : SpecAt Tryz.prog 6 [] (.v (.bool true)) none :=
  run_spec (cf := cfg) (K := 10000) (n := 12) (Γ0 := fun _ => none) noNum (fun f F h => by cases h) Tryz.func6 (isTrueR_iff (by kernel_rfl))
end Go.Proofs.YtljlhooodbfpiaaGreatDoor

